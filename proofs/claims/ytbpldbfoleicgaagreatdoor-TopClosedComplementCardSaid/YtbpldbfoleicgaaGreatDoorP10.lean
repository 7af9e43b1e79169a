/-
  Functions of the program, lifted to plain data.
-/
import Derived.Sort.AssemblyPlain
import Derived.Test.YtbpldbfoleicgaaGreatDoorP9
set_option linter.unusedVariables false
set_option linter.unusedSimpArgs false
set_option linter.unusedSectionVars false
set_option maxRecDepth 100000
namespace Go.AM
open Go.IntKind (wrap)
open Go.Proofs
theorem Wp:CC lU (cJ eG)=some [.int .i64 0]:=aD (N:=60) (n:=30) (by kernel_rfl)
theorem agb:CC fF [.int .i64 eG.l0,.int .i64 eG.l1,.list ai eG.l2]=some [.list bA (eG.p.map cb)]:=aD (N:=60) (n:=30) (by kernel_rfl)
theorem agc:CC fF [.int .i64 eG.r0,.int .i64 eG.r1,.list ai eG.r2]=some [.list bA (eG.q.map cb)]:=aD (N:=60) (n:=30) (by kernel_rfl)
theorem agd:CC gv ([.int .i64 eG.l0,.int .i64 eG.l1,.list ai eG.l2,.int .i64 0,.int .i64 0,.list ai []]++cP (fun _=>false) (fun _=>false))=some (cP eG.o1 eG.e1):=aD (N:=60) (n:=30) (by kernel_rfl)
theorem age:CC gv ([.int .i64 eG.r0,.int .i64 eG.r1,.list ai eG.r2,.int .i64 0,.int .i64 0,.list ai []]++cP eG.o1 eG.e1)=some (cP eG.cQ eG.cT):=aD (N:=60) (n:=30) (by kernel_rfl)
theorem agf:CC mZ [.list ai [.agg [.int .i64 eG.l0,.int .i64 eG.l1,.list ai eG.l2],.agg [.int .i64 eG.r0,.int .i64 eG.r1,.list ai eG.r2]]]=some [.int .i64 (eG.nv:Int)]:=aD (N:=60) (n:=30) (by kernel_rfl)
theorem agh:CC ga [.str yi,.int .i64 0]=some [.int .i64 eG.l0,.int .i64 eG.l1,.list ai eG.l2,.bool true,.str yi,.int .i64 42]:=aD (N:=60) (n:=30) (by kernel_rfl)
theorem agi:CC na [.int .u8 61,.str yi,.int .i64 42]=some [.bool true,.str yi,.int .i64 43]:=aD (N:=60) (n:=30) (by kernel_rfl)
theorem agj:CC ga [.str yi,.int .i64 43]=some [.int .i64 eG.r0,.int .i64 eG.r1,.list ai eG.r2,.bool true,.str yi,.int .i64 74]:=aD (N:=60) (n:=30) (by kernel_rfl)
theorem agk:nT eG:=⟨Wp,agb,agc,agd,age,agf,by decide,by unfold fy;decide,by unfold fy;decide,by decide,by decide,by decide,by decide⟩
theorem agl:mB yi eG:=o4 (by decide) agh agi agj (by decide) Wp
theorem rT:CC Bp [.str []]=some [.int .i64 0,.int .i64 0,.list ai [],.int .i64 0,.int .i64 0,.list ai [],.int .i64 0,.int .i64 2]:=aD (N:=60) (n:=30) (by kernel_rfl)
theorem agm:CC Bq []=some [.list Et Wq]:=aD (N:=60) (n:=30) (by kernel_rfl)
theorem agn:CC jC [.str [116,114,105,118,105,97,108],.bool true,.int .i64 1,.int .i64 0,.str [120,32,61,32,49],.str []]=some [.str [116,114,105,118,105,97,108],.bool true,.int .i64 1,.int .i64 0,.list iq ([eH].map fun d=> .agg (cJ d))]:=rU ago rT
theorem agp:CC jC [.str [99,111,109,109,117,116,97,116,105,118,101],.bool true,.int .i64 4,.int .i64 0,.str [120,121,32,61,32,121,120],.str []]=some [.str [99,111,109,109,117,116,97,116,105,118,101],.bool true,.int .i64 4,.int .i64 0,.list iq ([dq].map fun d=> .agg (cJ d))]:=rU Jx rT
theorem agq:CC jC [.str [99,111,109,109,117,116,97,116,105,118,101,45,97,112,101,114,105,111,100,105,99],.bool true,.int .i64 4,.int .i64 0,.str [120,121,32,61,32,121,120],.str [120,94,40,119,43,49,41,32,61,32,120,94,119]]=some [.str [99,111,109,109,117,116,97,116,105,118,101,45,97,112,101,114,105,111,100,105,99],.bool true,.int .i64 4,.int .i64 0,.list iq ([dq,aH].map fun d=> .agg (cJ d))]:=Br Jx Wr
theorem agr:CC jC [.str [97,98,101,108,105,97,110],.bool true,.int .i64 4,.int .i64 0,.str [120,121,32,61,32,121,120],.str [120,94,119,32,61,32,49]]=some [.str [97,98,101,108,105,97,110],.bool true,.int .i64 4,.int .i64 0,.list iq ([dq,dJ].map fun d=> .agg (cJ d))]:=Br Jx Ws
theorem ags:CC jC [.str [115,101,109,105,108,97,116,116,105,99,101],.bool true,.int .i64 2,.int .i64 6,.str [120,121,32,61,32,121,120],.str [120,120,32,61,32,120]]=some [.str [115,101,109,105,108,97,116,116,105,99,101],.bool true,.int .i64 2,.int .i64 6,.list iq ([dq,eI].map fun d=> .agg (cJ d))]:=Br Jx agt
theorem agu:CC jC [.str [97,112,101,114,105,111,100,105,99],.bool true,.int .i64 1,.int .i64 0,.str [120,94,40,119,43,49,41,32,61,32,120,94,119],.str []]=some [.str [97,112,101,114,105,111,100,105,99],.bool true,.int .i64 1,.int .i64 0,.list iq ([aH].map fun d=> .agg (cJ d))]:=rU Wr rT
theorem agv:CC jC [.str [103,114,111,117,112],.bool true,.int .i64 5,.int .i64 0,.str [120,94,119,32,61,32,49],.str []]=some [.str [103,114,111,117,112],.bool true,.int .i64 5,.int .i64 0,.list iq ([dJ].map fun d=> .agg (cJ d))]:=rU Ws rT
theorem agw:CC jC [.str [106,45,116,114,105,118,105,97,108],.bool true,.int .i64 2,.int .i64 6,.str [40,120,121,41,94,119,120,32,61,32,40,120,121,41,94,119],.str [121,40,120,121,41,94,119,32,61,32,40,120,121,41,94,119]]=some [.str [106,45,116,114,105,118,105,97,108],.bool true,.int .i64 2,.int .i64 6,.list iq ([en,eo].map fun d=> .agg (cJ d))]:=Br Wt Wu
theorem agx:CC jC [.str [114,45,116,114,105,118,105,97,108],.bool true,.int .i64 3,.int .i64 1,.str [40,120,121,41,94,119,120,32,61,32,40,120,121,41,94,119],.str []]=some [.str [114,45,116,114,105,118,105,97,108],.bool true,.int .i64 3,.int .i64 1,.list iq ([en].map fun d=> .agg (cJ d))]:=rU Wt rT
theorem agy:CC jC [.str [108,45,116,114,105,118,105,97,108],.bool true,.int .i64 3,.int .i64 2,.str [121,40,120,121,41,94,119,32,61,32,40,120,121,41,94,119],.str []]=some [.str [108,45,116,114,105,118,105,97,108],.bool true,.int .i64 3,.int .i64 2,.list iq ([eo].map fun d=> .agg (cJ d))]:=rU Wu rT
theorem agz:CC jC [.str [100,97],.bool true,.int .i64 3,.int .i64 3,.str [40,120,121,41,94,119,120,40,120,121,41,94,119,32,61,32,40,120,121,41,94,119],.str []]=some [.str [100,97],.bool true,.int .i64 3,.int .i64 3,.list iq ([eJ].map fun d=> .agg (cJ d))]:=rU agA rT
theorem agB:CC jC [.str [102,105,110,105,116,101,45,111,114,45,99,111,102,105,110,105,116,101],.bool false,.int .i64 2,.int .i64 1,.str [120,94,119,121,32,61,32,120,94,119],.str [121,120,94,119,32,61,32,120,94,119]]=some [.str [102,105,110,105,116,101,45,111,114,45,99,111,102,105,110,105,116,101],.bool false,.int .i64 2,.int .i64 1,.list iq ([ep,et].map fun d=> .agg (cJ d))]:=Br Wv Ww
theorem agC:CC jC [.str [100,101,102,105,110,105,116,101],.bool false,.int .i64 2,.int .i64 3,.str [121,120,94,119,32,61,32,120,94,119],.str []]=some [.str [100,101,102,105,110,105,116,101],.bool false,.int .i64 2,.int .i64 3,.list iq ([et].map fun d=> .agg (cJ d))]:=rU Ww rT
theorem agD:CC jC [.str [114,101,118,101,114,115,101,45,100,101,102,105,110,105,116,101],.bool false,.int .i64 2,.int .i64 2,.str [120,94,119,121,32,61,32,120,94,119],.str []]=some [.str [114,101,118,101,114,115,101,45,100,101,102,105,110,105,116,101],.bool false,.int .i64 2,.int .i64 2,.list iq ([ep].map fun d=> .agg (cJ d))]:=rU Wv rT
theorem agE:CC jC [.str [103,101,110,101,114,97,108,105,115,101,100,45,100,101,102,105,110,105,116,101],.bool false,.int .i64 2,.int .i64 4,.str [120,94,119,121,120,94,119,32,61,32,120,94,119],.str []]=some [.str [103,101,110,101,114,97,108,105,115,101,100,45,100,101,102,105,110,105,116,101],.bool false,.int .i64 2,.int .i64 4,.list iq ([eL].map fun d=> .agg (cJ d))]:=rU agF rT
theorem agG:CC jC [.str [108,111,99,97,108,108,121,45,116,101,115,116,97,98,108,101],.bool false,.int .i64 2,.int .i64 5,.str [120,94,119,121,120,94,119,121,120,94,119,32,61,32,120,94,119,121,120,94,119],.str [120,94,119,121,120,94,119,122,120,94,119,32,61,32,120,94,119,122,120,94,119,121,120,94,119]]=some [.str [108,111,99,97,108,108,121,45,116,101,115,116,97,98,108,101],.bool false,.int .i64 2,.int .i64 5,.list iq ([eM,eN].map fun d=> .agg (cJ d))]:=Br agH agI
theorem agJ:CC jC [.str [100,111,116,45,100,101,112,116,104,45,111,110,101],.bool false,.int .i64 2,.int .i64 7,.str [40,120,94,119,122,121,94,119,117,120,94,119,41,94,119,120,94,119,122,121,94,119,116,120,94,119,40,120,94,119,118,121,94,119,116,120,94,119,41,94,119,32,61,32,40,120,94,119,122,121,94,119,117,120,94,119,41,94,119,40,120,94,119,118,121,94,119,116,120,94,119,41,94,119],.str []]=some [.str [100,111,116,45,100,101,112,116,104,45,111,110,101],.bool false,.int .i64 2,.int .i64 7,.list iq ([eG].map fun d=> .agg (cJ d))]:=rU agl rT
theorem agK:Jy Wq agL where
 wF:=agm
 len:=rfl
 cls:=fun c hc=>by
  rcases (by omega:c=0∨c=1∨c=2∨c=3∨c=4∨c=5∨c=6∨c=7∨c=8∨c=9∨c=10∨c=11∨c=12∨c=13∨c=14∨c=15∨c=16) with rfl|rfl|rfl|rfl|rfl|rfl|rfl|rfl|rfl|rfl|rfl|rfl|rfl|rfl|rfl|rfl|rfl
  ·exact ⟨_,rfl,_,_,_,_,agn⟩
  ·exact ⟨_,rfl,_,_,_,_,agp⟩
  ·exact ⟨_,rfl,_,_,_,_,agq⟩
  ·exact ⟨_,rfl,_,_,_,_,agr⟩
  ·exact ⟨_,rfl,_,_,_,_,ags⟩
  ·exact ⟨_,rfl,_,_,_,_,agu⟩
  ·exact ⟨_,rfl,_,_,_,_,agv⟩
  ·exact ⟨_,rfl,_,_,_,_,agw⟩
  ·exact ⟨_,rfl,_,_,_,_,agx⟩
  ·exact ⟨_,rfl,_,_,_,_,agy⟩
  ·exact ⟨_,rfl,_,_,_,_,agz⟩
  ·exact ⟨_,rfl,_,_,_,_,agB⟩
  ·exact ⟨_,rfl,_,_,_,_,agC⟩
  ·exact ⟨_,rfl,_,_,_,_,agD⟩
  ·exact ⟨_,rfl,_,_,_,_,agE⟩
  ·exact ⟨_,rfl,_,_,_,_,agG⟩
  ·exact ⟨_,rfl,_,_,_,_,agJ⟩
 ok:=fun c hc=>by
  rcases (by omega:c=0∨c=1∨c=2∨c=3∨c=4∨c=5∨c=6∨c=7∨c=8∨c=9∨c=10∨c=11∨c=12∨c=13∨c=14∨c=15∨c=16) with rfl|rfl|rfl|rfl|rfl|rfl|rfl|rfl|rfl|rfl|rfl|rfl|rfl|rfl|rfl|rfl|rfl
  ·intro d hd;have hd:d∈[eH]:=hd;simp only[fW,mj,mM] at hd;subst hd;exact agM
  ·intro d hd;have hd:d∈[dq]:=hd;simp only[fW,mj,mM] at hd;subst hd;exact Jz
  ·intro d hd;have hd:d∈[dq,aH]:=hd;simp only[fW,mj,mM] at hd;rcases hd with rfl|rfl
   ·exact Jz
   ·exact Wx
  ·intro d hd;have hd:d∈[dq,dJ]:=hd;simp only[fW,mj,mM] at hd;rcases hd with rfl|rfl
   ·exact Jz
   ·exact Wy
  ·intro d hd;have hd:d∈[dq,eI]:=hd;simp only[fW,mj,mM] at hd;rcases hd with rfl|rfl
   ·exact Jz
   ·exact agN
  ·intro d hd;have hd:d∈[aH]:=hd;simp only[fW,mj,mM] at hd;subst hd;exact Wx
  ·intro d hd;have hd:d∈[dJ]:=hd;simp only[fW,mj,mM] at hd;subst hd;exact Wy
  ·intro d hd;have hd:d∈[en,eo]:=hd;simp only[fW,mj,mM] at hd;rcases hd with rfl|rfl
   ·exact Wz
   ·exact WA
  ·intro d hd;have hd:d∈[en]:=hd;simp only[fW,mj,mM] at hd;subst hd;exact Wz
  ·intro d hd;have hd:d∈[eo]:=hd;simp only[fW,mj,mM] at hd;subst hd;exact WA
  ·intro d hd;have hd:d∈[eJ]:=hd;simp only[fW,mj,mM] at hd;subst hd;exact agO
  ·intro d hd;have hd:d∈[ep,et]:=hd;simp only[fW,mj,mM] at hd;rcases hd with rfl|rfl
   ·exact WB
   ·exact WC
  ·intro d hd;have hd:d∈[et]:=hd;simp only[fW,mj,mM] at hd;subst hd;exact WC
  ·intro d hd;have hd:d∈[ep]:=hd;simp only[fW,mj,mM] at hd;subst hd;exact WB
  ·intro d hd;have hd:d∈[eL]:=hd;simp only[fW,mj,mM] at hd;subst hd;exact agP
  ·intro d hd;have hd:d∈[eM,eN]:=hd;simp only[fW,mj,mM] at hd;rcases hd with rfl|rfl
   ·exact agQ
   ·exact agR
  ·intro d hd;have hd:d∈[eG]:=hd;simp only[fW,mj,mM] at hd;subst hd;exact agk
 il:=fun c hc=>by
  rcases (by omega:c=0∨c=1∨c=2∨c=3∨c=4∨c=5∨c=6∨c=7∨c=8∨c=9∨c=10∨c=11∨c=12∨c=13∨c=14∨c=15∨c=16) with rfl|rfl|rfl|rfl|rfl|rfl|rfl|rfl|rfl|rfl|rfl|rfl|rfl|rfl|rfl|rfl|rfl<;>decide
noncomputable def Eu (C:af) (t5:Int) (OV:LV) (t6:Int) (dO:LV) {β:Type} (kn:(Int×LV)→Option β) (kr:(Int×Bool×LV)→Option β):Option β:=
 bif decide (t6<t5) then
  aP OV t6 fun x2=>
  (C jC [.str ((x2.cell 0).toStr),.bool ((x2.cell 1).toBool),V.int .i64 ((x2.cell 2).toInt),V.int .i64 ((x2.cell 3).toInt),.str ((x2.cell 4).toStr),.str ((x2.cell 5).toStr)]).bind fun r3=>
  bif Nat.ble ((dO.length+([.agg [.str ((V.nth r3 0).toStr),.bool ((V.nth (r3.drop 1) 0).toBool),.list iq ((V.nth (r3.drop 4) 0).toList),V.int .i64 ((V.nth ((r3.drop 1).drop 1) 0).toInt),V.int .i64 ((V.nth (((r3.drop 1).drop 1).drop 1) 0).toInt)]]:LV).length)*64) aW then
  kn (wrap .i64 (t6+1),dO++([.agg [.str ((V.nth r3 0).toStr),.bool ((V.nth (r3.drop 1) 0).toBool),.list iq ((V.nth (r3.drop 4) 0).toList),V.int .i64 ((V.nth ((r3.drop 1).drop 1) 0).toInt),V.int .i64 ((V.nth (((r3.drop 1).drop 1).drop 1) 0).toInt)]]:LV))
  else none
 else
  kr (t6,decide (t6<t5),dO)
noncomputable def JA (C:af) (t5:Int) (OV:LV):=un fun t6 dO=>Eu C t5 OV t6 dO (fun y=>some (Sum.inl y)) (fun r=>some (Sum.inr r))
noncomputable def agS (C:af):cF:=bN 49 OW [EQ,H1,H1,EQ] [[1,0,0,0,4]] (@Eu C) bO
theorem agT (C:af):bB C (agS C) 28 (Lp [1,1,0,1,0,0] 28):=bP OW [EQ,H1,H1,EQ] [[1,0,0,0,4]] (@Eu C) (bu aw)
noncomputable def WD (C:af):Option LV:=
 (C Bq []).bind fun r1=>
 (Loop (JA C (((V.nth r1 0).toList).length:Int) ((V.nth r1 0).toList)) (0,([]:LV))).bind (un fun lV=>un fun (kC:Bool) (agU:LV)=>
  some [.list yj agU])
theorem agV {r:Option LV} (h:WD CC=r):CC JB []=r:=bQ (bC (agT CC) aw) h
noncomputable def agW (C:af) (eg:Int):Option LV:=
 bif decide (eg≥1) then
  some [.bool (decide (eg≤1048576))]
 else
  some [.bool false]
theorem WE {eg:Int} {r:Option LV} (h:agW CC eg=r):CC Ev [V.int .i64 eg]=r:=bQ (L:=bO) aw h
noncomputable def Bs (C:af) (eg t33 iu:Int) (dx lX kD lY lZ:LV) (t34:Int) (uM:LV) {β:Type} (kn:(Int×LV)→Option β) (kr:(Int×Bool×LV)→Option β):Option β:=
 bif decide (t34<t33) then
  (C wG [V.int .i64 iu,.list ag dx,.list bZ lX,.list ab kD,.list ar lY,.list ar lZ,V.int .i64 t34,V.int .i64 eg]).bind fun r5=>
  bif (((V.nth (((r5.drop 1).drop 1).drop 1) 0).toInt):Int) != 0 then
  bif Nat.ble ((uM.length+([V.int .i64 (wrap .i64 (0-((V.nth (((r5.drop 1).drop 1).drop 1) 0).toInt)))]:LV).length)*8) aW then
   kn (wrap .i64 (t34+1),uM++([V.int .i64 (wrap .i64 (0-((V.nth (((r5.drop 1).drop 1).drop 1) 0).toInt)))]:LV))
  else none
  else
  bif (V.nth r5 0).toBool then
   bif Nat.ble ((uM.length+([V.int .i64 1]:LV).length)*8) aW then
   kn (wrap .i64 (t34+1),uM++([V.int .i64 1]:LV))
   else none
  else
   bif Nat.ble ((uM.length+([V.int .i64 0]:LV).length)*8) aW then
   kn (wrap .i64 (t34+1),uM++([V.int .i64 0]:LV))
   else none
 else
  kr (t34,decide (t34<t33),uM)
noncomputable def yk (C:af) (eg t33 iu:Int) (dx lX kD lY lZ:LV):=un fun t34 uM=>Bs C eg t33 iu dx lX kD lY lZ t34 uM (fun y=>some (Sum.inl y)) (fun r=>some (Sum.inr r))
noncomputable def agX (C:af):cF:=bN 177 OX [EQ,EQ,H1,EQ,EQ,EQ,EQ,EQ,EQ,H1] [[1,2,0,0,4,5,6,7,8,9,0]] (@Bs C) bO
theorem agY (C:af):bB C (agX C) 12 (Lp [1,1,1,1,1,1,0,1,0,0] 12):=bP OX [EQ,EQ,H1,EQ,EQ,EQ,EQ,EQ,EQ,H1] [[1,2,0,0,4,5,6,7,8,9,0]] (@Bs C) (bu aw)
noncomputable def rV (C:af) (cU cX:Int) (cG c8:LV) (eg:Int):Option LV:=
 (C s6 [V.int .i64 cU,V.int .i64 cX,.list ar cG,.list ag c8]).bind fun r1=>
 bif (((V.nth r1 0).toInt):Int) != 0 then
  some [V.int .i64 ((V.nth r1 0).toInt),.list ab ([]:LV)]
 else
  (C Ev [V.int .i64 eg]).bind fun r2=>
  bif !((V.nth r2 0).toBool) then
  some [V.int .i64 1,.list ab ([]:LV)]
  else
  (C kG [V.int .i64 cU,V.int .i64 cX,.list ar cG,.list ag c8]).bind fun r3=>
  bif (((V.nth (r3.drop 6) 0).toInt):Int) != 0 then
   some [V.int .i64 ((V.nth (r3.drop 6) 0).toInt),.list ab ([]:LV)]
  else
   (C JB []).bind fun r4=>
   (Loop (yk C eg (((V.nth r4 0).toList).length:Int) ((V.nth r3 0).toInt) ((V.nth (r3.drop 1) 0).toList) ((V.nth ((r3.drop 1).drop 1) 0).toList) ((V.nth (((r3.drop 1).drop 1).drop 1) 0).toList) ((V.nth ((((r3.drop 1).drop 1).drop 1).drop 1) 0).toList) ((V.nth (((((r3.drop 1).drop 1).drop 1).drop 1).drop 1) 0).toList)) (0,([]:LV))).bind (un fun j7=>un fun (oo:Bool) (agZ:LV)=>
    some [V.int .i64 0,.list ab agZ])
theorem OY {cU cX:Int} {cG c8:LV} {eg:Int} {r:Option LV} (h:rV CC cU cX cG c8 eg=r):CC s7 [V.int .i64 cU,V.int .i64 cX,.list ar cG,.list ag c8,V.int .i64 eg]=r:=bQ (bC (agY CC) aw) h
noncomputable def WG (C:af) (a b':LV):Option LV:=
 (C OZ [.list ab a,.list ab b']).bind fun r1=>
 some [.bool ((V.nth r1 0).toBool)]
theorem ag0 {a b':LV} {r:Option LV} (h:WG CC a b'=r):CC yl [.list ab a,.list ab b']=r:=bQ (L:=bO) aw h
noncomputable def wH (C:af) (cU cX:Int) (cG c8:LV):Option LV:=
 (C s7 [V.int .i64 cU,V.int .i64 cX,.list ar cG,.list ag c8,V.int .i64 3000]).bind fun r1=>
 bif (((V.nth r1 0).toInt):Int) != 0 then
  some [V.bool false,.bool false,.list ab ([]:LV)]
 else
  bif ((((V.nth (r1.drop 1) 0).toList).length:Int):Int) != 17 then
  some [V.bool false,.bool false,.list ab ([]:LV)]
  else
  bif decide (16≤(((V.nth (r1.drop 1) 0).toList).length:Int)) then
   some [V.bool true,fv 0,fv (16-0),.bool true,.list ab ((V.nth (r1.drop 1) 0).toList)]
  else none
theorem ag1 {cU cX:Int} {cG c8:LV} {r:Option LV} (h:wH CC cU cX cG c8=r):CC wI [V.int .i64 cU,V.int .i64 cX,.list ar cG,.list ag c8]=r:=bQ (L:=bO) aw h
theorem WH {l:LV} (hl:l.length≤1000000):CC yl [.list ab l,.list ab l]=some [.bool true]:=by
 refine ag0 ?_;unfold WG;refine bs (a:=[.bool true]) (ag2 ?_) rfl;unfold WI;refine bF (by simp) (bs (gx l.length (fun i=>(i:Int)) (.inr ((l.length:Int),false)) (fun i hi=> ?_) ?_) rfl)
 ·have e:idx l (i:Int)=some l[i]:=by rw[ym rfl];exact bU hi
  simp only[O0,Ew];refine bT (bh hi) (bs e (bs e (bF (by simp) ?_)));rw[br (by omega)]
 ·simp only[O0,Ew];rw[aV (av _)];rfl
section
variable {rows:LV} {s8:Nat→List ji} (hC:Jy rows s8)
include hC
theorem WJ: ∃l:LV,l.length=17∧CC JB []=some [.list yj l]:=by
 have hl:=hC.len;have key:=jD (step:=JA CC (rows.length:Int) rows) (fun i y=> ∃l:LV,y=((i:Int),l)∧l.length=i) (fun r=> ∃l:LV,l.length=17∧r=((rows.length:Int),false,l)) 17 0 (0,([]:LV)) (fun i _ hi y hy=> ?_) (fun y hy=> ?_) ⟨[],rfl,rfl⟩
 ·obtain ⟨r,e,l,h1,rfl⟩:=key;refine ⟨l,h1,agV ?_⟩;unfold WD;exact bs hC.wF (bs e rfl)
 ·obtain ⟨l,rfl,h1⟩:=hy;obtain ⟨x,hx,a,b,e,f,j8⟩:=hC.cls i (by omega);simp only[JA,Eu,un];exact ⟨_,bT (bh (by omega)) ((bX hx).trans (bs j8 (bT (cap (a:=l.length) (b:=1) (by omega) (by omega)) rfl))),_,cK (br (by omega)) rfl,by rw[ik,h1];rfl⟩
 ·obtain ⟨l,rfl,h1⟩:=hy;simp only[JA,Eu,un];rw[hl];exact ⟨_,bF rfl rfl,l,by omega,rfl⟩
theorem ag3 {a b:Da} (ha:a.Ok) (hb:b.Ok) (fA:(minD a).n≤32) (e:minD a=minD b): ∃(z:Int) (l:LV),l.length≤17∧CC s7 (o5 a [.int .i64 3000])=some [.int .i64 z,.list ab l]∧CC s7 (o5 b [.int .i64 3000])=some [.int .i64 z,.list ab l]:=by
 have Ex:=WK ha hb e;have A: ∀{a:Da} z,rV CC (a.L:Int) (a.st:Int) a.dU a.eh 3000=z→CC s7 (o5 a [.int .i64 3000])=z:=fun z h=>OY h;have uN:CC Ev [.int .i64 3000]=some [.bool true]:=WE rfl;rcases ag4 ha fA with ⟨eO,_⟩|⟨S,f,eO,hS⟩
 ·refine ⟨3,[],by simp,A _ ?_,A _ ?_⟩
  ·unfold rV;exact bs (mC ha) (bF rfl (bs uN (bF rfl (bs eO (bT rfl rfl)))))
  ·unfold rV;exact bs (mC hb) (bF rfl (bs uN (bF rfl (bs (Ex.symm.trans eO) (bT rfl rfl)))))
 ·obtain ⟨cl,j8,eC⟩:=WJ hC;have hm:=rW ha;have hV:=O1 ha hS eO;have key:=jD (step:=yk CC 3000 (17:Int) ((minD a).L:Int) (ln S) (tab S.length fun j=> .str (f j)) (iI (minD a) S) (ja (minD a) S) (gN (minD a).L (minD a).gT S S.length)) (fun i y=> ∃l:LV,l.length=i∧y=((i:Int),l)) (fun r=> ∃l:LV,l.length=17∧r=(17,false,l)) 17 0 (0,([]:LV)) (fun i _ hi y hy=> ?_) (fun y hy=> ?_) ⟨[],rfl,rfl⟩
  ·obtain ⟨r,el,l,h1,rfl⟩:=key;have WM:((V.nth [V.list yj cl] 0).toList.length:Int)=17:=by show (cl.length:Int)=17;omega
   refine ⟨0,l,by omega,A _ ?_,A _ ?_⟩
   ·unfold rV;refine bs (mC ha) (bF rfl (bs uN (bF rfl (bs eO (bF rfl (bs eC ?_))))));rw[WM];exact bs el rfl
   ·unfold rV;refine bs (mC hb) (bF rfl (bs uN (bF rfl (bs (Ex.symm.trans eO) (bF rfl (bs eC ?_))))));rw[WM];exact bs el rfl
  ·obtain ⟨l,h1,rfl⟩:=hy;obtain ⟨b',i',j',e',l',hM⟩:=ag5 hC hm hS hV (c:=i) (by omega) (bud:=3000) (by omega);have bK: ∀v:V,Nat.ble ((l.length+([v]:LV).length)*8) aW=true:=fun v=>cap (by simp;omega) (by omega);simp only[yk,Bs,un];by_cases c:(e' != 0)=true
   ·refine ⟨(((i+1:Nat):Int),l++[.int .i64 (wrap .i64 (0-e'))]),bT (cp (by omega)) (bs hM (bT c (bT (bK _) ?_))),_,by simp[h1],rfl⟩;rw[br (by omega)];rfl
   ·have c:(e' != 0)=false:=by simpa using c
    cases b' with
    | true=>
     refine ⟨(((i+1:Nat):Int),l++[.int .i64 1]),bT (cp (by omega)) (bs hM (bF c (bT rfl (bT (bK _) ?_)))),_,by simp[h1],rfl⟩;rw[br (by omega)]
    | false=>
     refine ⟨(((i+1:Nat):Int),l++[.int .i64 0]),bT (cp (by omega)) (bs hM (bF c (bF rfl (bT (bK _) ?_)))),_,by simp[h1],rfl⟩;rw[br (by omega)]
  ·obtain ⟨l,h1,rfl⟩:=hy;simp only[yk,Bs,un];exact ⟨_,bF rfl rfl,l,by omega,rfl⟩
end
section
variable {m:Da} (h:m.Ok) (fA:m.n≤32)
include h
omit h in
theorem WN (e1:CC Bt [.list ag (gV m.L m.gT),.bool true]=some [.int .i64 0,.bool false,.int .i64 0,.int .i64 3,.list ag [],.list ag [],.list ab [],.list ab [],.list ag [],.list dY []]):
  CC pV [.int .i64 (m.n:Int),.list ag (gV m.L m.gT),.list fN (gy m)]=some [.int .i64 0,.list ag [],.list bZ [],.list ab [],.list ar [],.list ar [],.list kH [],.int .i64 3,.int .i64 (m.n:Int),.list ag (gV m.L m.gT),.list fN (gy m)]:=by
 have fin: ∀z,rX CC (m.n:Int) (gV m.L m.gT) (gy m)=z→CC pV [.int .i64 (m.n:Int),.list ag (gV m.L m.gT),.list fN (gy m)]=z:=fun z h=>JC h;refine fin _ ?_;unfold rX;exact bs e1 (bT rfl rfl)
variable {S:List (List Nat)} {P K:List Int} {R:List (List Nat)} {W:List (List UInt8)} {B:List Int} {s:List Nat} {U:LV}
 (e1:CC Bt [.list ag (gV m.L m.gT),.bool true]=some [.int .i64 (m.n:Int),.bool true,.int .i64 (S.length:Int),.int .i64 0,.list ag (gV m.L m.gT),.list ag (sV S),.list ab (iL P),.list ab (iL K),.list ag (sV R),.list dY U])
 (hE:lr m.L m.n S.length m.gT S P K R W B s)
include e1 hE
omit h hE in
theorem WO (c:400<S.length):CC pV [.int .i64 (m.n:Int),.list ag (gV m.L m.gT),.list fN (gy m)]=some [.int .i64 0,.list ag [],.list bZ [],.list ab [],.list ar [],.list ar [],.list kH [],.int .i64 3,.int .i64 (m.n:Int),.list ag (gV m.L m.gT),.list fN (gy m)]:=by
 have fin: ∀z,rX CC (m.n:Int) (gV m.L m.gT) (gy m)=z→CC pV [.int .i64 (m.n:Int),.list ag (gV m.L m.gT),.list fN (gy m)]=z:=fun z h=>JC h;refine fin _ ?_;unfold rX;exact bs e1 (bF rfl (bT (by show decide ((((sV S).length:Nat):Int)>400)=true;rw[pW];exact cp (by omega)) rfl))
include fA
theorem WQ (c:S.length≤400): ∃f:Nat→List UInt8,CC pV [.int .i64 (m.n:Int),.list ag (gV m.L m.gT),.list fN (gy m)]=some [.int .i64 (m.L:Int),.list ag (ln S),.list bZ (tab S.length fun j=> .str (f j)),.list ab (iI m S),.list ar [],.list ar (gN m.L m.gT S S.length),.list kH [.list ar (ja m S)],.int .i64 0,.int .i64 (m.n:Int),.list ag (gV m.L m.gT),.list fN (gy m)]∧pX m S:=by
 have hs:=h.s;have hL:=h.l6;have hg: ∀x,x<m.L→Tr m.n (m.gT x):=fun x hx=>h.gT hx;have fin: ∀z,rX CC (m.n:Int) (gV m.L m.gT) (gy m)=z→CC pV [.int .i64 (m.n:Int),.list ag (gV m.L m.gT),.list fN (gy m)]=z:=fun z h=>JC h;have eQ:=hE.I.pos;obtain ⟨f,e2⟩:=WR (L:=m.L) (g:=m.gT) hE (k1:=(m.n:Int)) (k2:=0) (k3:=(m.n:Int)) (k4:=(S.length:Int)) (k5:=((gV m.L m.gT).length:Int)) (k8:=true) (l1:=gV m.L m.gT) (l2:=gy m) (l3:=[]) (l4:=[]) (l5:=[]) (l6:=[]) (l7:=[]) (l8:=gV m.L m.gT) (l9:=sV S) (l10:=sV R) (l11:=U) (l12:=List.replicate S.length (V.list ab [])) (l13:=iI m S) (l14:=[]);refine ⟨f,fin _ ?_,hE.I.tr,hE.I.nd,hE.wJ,eQ,fun f hf x hx=>hE.O2 hf hx,fun i hi=>hE.word hi,c⟩;unfold rX;refine bs e1 (bF rfl (bF (by show decide ((((sV S).length:Nat):Int)>400)=false;rw[pW];exact da (by omega)) ?_));have jU:(sV R)[0]? =some (tV (fc m.L m.gT S (List.range m.n))):=by rw[hE.Ey eQ,hE.wJ]
 have yn:(sV R).length=S.length:=by rw[pW,hE.row,db]
 have e3:=WS hE hg hL (k1:=(m.n:Int)) (k2:=0) (k3:=(m.n:Int)) (k4:=(S.length:Int)) (k5:=((gV m.L m.gT).length:Int)) (k8:=true) (l1:=gV m.L m.gT) (l2:=gy m) (l3:=[]) (l4:=[]) (l5:=[]) (l6:=[]) (l7:=[]) (l8:=gV m.L m.gT) (l9:=sV S) (l10:=U) (l11:=tab S.length fun j=> .str (f j)) (l12:=iI m S) (l13:=[]);have e4: ∀{k1 k2 k3 k4 k5:Int} {k8:Bool} {l1 l2 l3 l4 l5 l6 l7 l8 l9 l10 l11 l12 l13 l14 yo yp:LV},Loop (yq CC (S.length:Int) 1 k1 l1 k2 k3 k8 k4 k5 (gy m) l2 l3 l4 l5 l6 l7 (sV S) l8 l9 l10 l11 l12 l13 l14 yo yp) (0,[V.list ar []])=some (1,false,[V.list ar (ja m S)]):=by
  intro k1 k2 k3 k4 k5 k8 l1 l2 l3 l4 l5 l6 l7 l8 l9 l10 l11 l12 l13 l14 yo yp;refine gx 1 (fun i=>((i:Int),if i=0 then [V.list ar []] else [V.list ar (ja m S)])) _ (fun i hi=> ?_) ?_
  ·obtain rfl:i=0:=by omega
   simp only[yq,yr,un,aP,bj];refine bT rfl ((bX (es:=gy m) (i:=0) rfl).trans (bT (fO (by omega) (by omega)) ((bX (i:=0) (v:= .list ar []) rfl).trans ?_)));rw[pW];exact bs (WU h fA hE.I.tr c) rfl
  ·simp only[yq,yr,un];rfl
 have s9: ∀k,k≤1000→(decide (0≤(S.length:Int))&&(decide ((S.length:Int)≤(S.length:Int))&&(S.length*k).ble aW))=true:=fun k hk=>by
  have:=fO (n:=S.length) (m:=k) (by omega) hk;rwa [Int.toNat_natCast] at this
 have pY:(nS (fc m.L m.gT S (List.range m.n))).length≤6:=by rw[dy,fc,db,jN];exact hL
 simp only[Iz,ud,V.JD,V.ei,V.toInt_int,V.O3,pW,Int.toNat_natCast];refine bT (s9 24 (by omega)) (bT (s9 16 (by omega)) (bT (cp (by rw[hE.row,db];omega)) (bs jU (bT (by rw[oq];exact cap (b:=0) (by omega) (by omega)) (bT (s9 1 (by omega)) ?_)))));rw[oq];refine bs e2 ?_;rw[show R.length=S.length by rw[hE.row,db]];refine bs e3 ?_;simp only[un];rw[show (gy m).length=1 from rfl];refine bT (fO (n:=1) (by omega) (by omega)) (bs e4 ?_);rw[WV,show (gV m.L m.gT).length=m.L from fG];rfl
end
section
variable {a:Da} (h:a.Ok) (fA:(minD a).n≤32)
include h fA
theorem JE (e:CC pV [.int .i64 ((minD a).n:Int),.list ag (gV (minD a).L (minD a).gT),.list fN (gy (minD a))]=some [.int .i64 0,.list ag [],.list bZ [],.list ab [],.list ar [],.list ar [],.list kH [],.int .i64 3,.int .i64 ((minD a).n:Int),.list ag (gV (minD a).L (minD a).gT),.list fN (gy (minD a))]):CC kG (dK a)=some (JF 3):=by
 have hm:=rW h;have fin: ∀z,rY CC (a.L:Int) (a.st:Int) a.dU a.eh=z→CC kG (dK a)=z:=fun z h=>Ez h;refine fin _ ?_;unfold rY;exact bs (mC h) (bF rfl (bs (Bu h) (bs (JG hm fA) (bF rfl (bs e (bT rfl rfl))))))
theorem WW {S:List (List Nat)} {f:Nat→List UInt8} (e:CC pV [.int .i64 ((minD a).n:Int),.list ag (gV (minD a).L (minD a).gT),.list fN (gy (minD a))]=some [.int .i64 ((minD a).L:Int),.list ag (ln S),.list bZ (tab S.length fun j=> .str (f j)),.list ab (iI (minD a) S),.list ar [],.list ar (gN (minD a).L (minD a).gT S S.length),.list kH [.list ar (ja (minD a) S)],.int .i64 0,.int .i64 ((minD a).n:Int),.list ag (gV (minD a).L (minD a).gT),.list fN (gy (minD a))]):CC kG (dK a)=some (jb (minD a) S f++[.int .i64 0]):=by
 have hm:=rW h;have fin: ∀z,rY CC (a.L:Int) (a.st:Int) a.dU a.eh=z→CC kG (dK a)=z:=fun z h=>Ez h;refine fin _ ?_;unfold rY;refine bs (mC h) (bF rfl (bs (Bu h) (bs (JG hm fA) (bF rfl (bs e (bF rfl (bs (a:=V.list ar (ja (minD a) S)) rfl ?_)))))));rw[V.ei];rfl
end
theorem ag6 {a b:Da} (ha:a.Ok) (hb:b.Ok) (fA:(minD a).n≤32) (hn:(minD b).n=(minD a).n) (hL:(minD b).L=(minD a).L) (hg:(minD b).gT=(minD a).gT):
  (CC kG (dK a)=some (JF 3)∧CC kG (dK b)=some (JF 3))∨∃S,∃f f':Nat→List UInt8,CC kG (dK a)=some (jb (minD a) S f++[.int .i64 0])∧pX (minD a) S∧CC kG (dK b)=some (jb (minD b) S f'++[.int .i64 0])∧pX (minD b) S:=by
 have hm:=rW ha;have Bg:=rW hb;have JH:(minD b).n≤32:=by rw[hn];exact fA
 obtain ⟨r,e1,h1⟩:=WX (n:=(minD a).n) (by have:=hm.s;omega) fA (fun x hx=>hm.gT hx) hm.l1 hm.l6;rcases h1 with ⟨rfl,_⟩|⟨S,P,K,R,W,B,s,U,rfl,hE⟩
 ·exact .inl ⟨JE ha fA (WN e1),JE hb JH (WN (by rw[hL,hg];exact e1))⟩
 ·have e2:=e1;have EA:=hE;rw[←hL,←hg] at e2 EA;rw[←hn] at e2 EA;rcases js 400 S.length with c|c
  ·exact .inl ⟨JE ha fA (WO e1 c),JE hb JH (WO e2 c)⟩
  ·obtain ⟨f,m1,s1⟩:=WQ hm fA e1 hE c;obtain ⟨f',m2,s2⟩:=WQ Bg JH e2 EA c;exact .inr ⟨S,f,f',WW ha fA m1,s1,WW hb JH m2,s2⟩
end Go.AM
set_option maxRecDepth 100000
namespace Go.AM
open Go.IntKind (wrap)
open Go.Proofs
namespace Da
def qM (a:Da) (f:Nat→Bool):Da:=⟨a.L,a.st,tab a.n f,a.N⟩
def pre (a:Da) (k:Nat) (g:Nat→List Nat):Da:=⟨k,a.st,a.F,tab a.n fun q=>tab k fun x=>a.run q (g x)⟩
theorem wK {a:Da} {f:Nat→Bool}:(a.qM f).n=a.n:=by simp[qM,n]
theorem WY {a:Da} {f:Nat→Bool} {q:Nat} (h:q<a.n):(a.qM f).fin q=f q:=by
 show (tab a.n f).getD q false=f q;exact wM h
theorem Ok.qM {a:Da} (h:a.Ok) {f:Nat→Bool}:(a.qM f).Ok:=⟨h.l1,h.l6,by rw[wK];exact h.nN,fun r hr=>by rw[wK];exact h.row r hr,by rw[wK];exact h.s,by rw[wK];exact h.dP⟩
theorem ag7 {a:Da} {f:Nat→Bool} {q:Nat} {w:List Nat}:(a.qM f).run q w=a.run q w:=rfl
theorem O4 {a:Da} (h:a.Ok) {f:Nat→Bool} {q:Nat} (hq:q<a.n) {w:List Nat} (hw:WL a.L w):(a.qM f).acc q w=f (a.run q w):=by
 unfold acc;rw[ag7,WY (h.JI w hq hw)]
theorem ag8 {a:Da} {f:Nat→Bool}:(a.qM f).dU=bV a.n f:=by
 unfold dU bV;rw[wK];exact dB fun q hq=>by rw[WY hq]
theorem ag9 {a:Da} {f:Nat→Bool}:(a.qM f).eh=a.eh:=by unfold eh;rw[wK];rfl
theorem Ok.pre {a:Da} (h:a.Ok) {k:Nat} {g:Nat→List Nat} (h1:1≤k) (h6:k≤6) (hg: ∀x,x<k→WL a.L (g x)):(a.pre k g).Ok:=⟨h1,h6,by simp[Da.pre,n],fun r hr=>by
 obtain ⟨q,hq,rfl⟩:=JJ.1 hr;refine ⟨by simp[Da.pre],fun s hs=> ?_⟩;obtain ⟨x,hx,rfl⟩:=JJ.1 hs;exact h.JI _ hq (hg x hx),h.s,h.dP⟩
end Da
end Go.AM
set_option maxRecDepth 100000
namespace Go.AM
open Go.IntKind (wrap)
open Go.Proofs
noncomputable def EB (C:af) (t16:LV) (t17 bz bL:Int) (gG gb:LV) (gf gg EC ED:Int) (aN aR:LV) (t18:Int) (aO aA:LV) {β:Type} (kn:(Int×LV×LV)→Option β) (kr:(Int×Bool×LV×LV)→Option β):Option β:=
 bif decide (t18<t17) then
  (idx t16 t18).bind fun x2=>
  bif Nat.ble ((aO.length+([.bool (!x2.toBool)]:LV).length)*1) aW then
  (idx gb t18).bind fun x3=>
  bif Nat.ble (x3.toList.length*8) aW then
   bif Nat.ble ((aA.length+([.list ab x3.toList]:LV).length)*24) aW then
   kn (wrap .i64 (t18+1),aO++([.bool (!x2.toBool)]:LV),aA++([.list ab x3.toList]:LV))
   else none
  else none
  else none
 else
  kr (t18,decide (t18<t17),aO,aA)
noncomputable def O5 (C:af) (t16:LV) (t17 bz bL:Int) (gG gb:LV) (gf gg EC ED:Int) (aN aR:LV):=un fun t18=>un fun aO aA=>EB C t16 t17 bz bL gG gb gf gg EC ED aN aR t18 aO aA (fun y=>some (Sum.inl y)) (fun r=>some (Sum.inr r))
noncomputable def aha (C:af):cF:=bN 81 O6 [EQ,EQ,H1,EQ,EQ,EQ,EQ,EQ,EQ,EQ,EQ,EQ,EQ,H1,H1] [[1,2,0,0,4,5,6,7,8,9,10,11,12,13,0,0]] (@EB C) bO
theorem ahb (C:af):bB C (aha C) 6 (Lp [1,1,1,0,1,0,0] 6):=bP O6 [EQ,EQ,H1,EQ,EQ,EQ,EQ,EQ,EQ,EQ,EQ,EQ,EQ,H1,H1] [[1,2,0,0,4,5,6,7,8,9,10,11,12,13,0,0]] (@EB C) (bu aw)
noncomputable def WZ (C:af) (cU cX:Int) (cG c8:LV):Option LV:=
 (C s6 [V.int .i64 cU,V.int .i64 cX,.list ar cG,.list ag c8]).bind fun r1=>
 bif (((V.nth r1 0).toInt):Int) != 0 then
  some [V.int .i64 0,V.int .i64 0,.list ar ([]:LV),.list ag ([]:LV)]
 else
  (Loop (O5 C cG (cG.length:Int) cU cX cG c8 0 0 cU cX ([]:LV) ([]:LV)) (0,([]:LV),([]:LV))).bind (un fun lV=>un fun (kC:Bool)=>un fun (b_6:LV) (yu:LV)=>
   some [V.int .i64 cU,V.int .i64 cX,.list ar b_6,.list ag yu])
theorem ahc {cU cX:Int} {cG c8:LV} {r:Option LV} (h:WZ CC cU cX cG c8=r):CC Bv [V.int .i64 cU,V.int .i64 cX,.list ar cG,.list ag c8]=r:=bQ (bC (ahb CC) aw) h
theorem ahd {a:Da} (h:a.Ok):CC Bv (dK a)=some (dK (a.qM fun q=> !(a.fin q))):=by
 have hm:=h.dP;have h6:=h.l6;refine ahc ?_;unfold WZ;refine bs (mC h) (bF rfl ?_);rw[Da.EE];refine bs (gx a.n (fun i=>((i:Int),(tab i fun q=>V.bool (!(a.fin q))),(tab i fun q=>o6 a.L (a.nx q)))) ((a.n:Int),false,(bV a.n fun q=> !(a.fin q)),a.eh) (fun q hq=> ?_) ?_) ?_
 ·simp only[O5,EB,un];refine bT (bh hq) ?_;refine bs (Da.JK hq) ?_;refine bT (cap (by rw[fG];simp;omega) (by omega)) ?_;refine bs (Da.JL hq) ?_;rw[EF,fG];refine bT (by rw[fV,O7];omega) ?_;refine bT (cap (by rw[fG];simp;omega) (by omega)) ?_;rw[br (by omega),Bw,Bw];rfl
 ·simp only[O5,EB,un];refine bF (aV (av _)) ?_;rw[aV (av _)];rfl
 ·unfold dK o5;rw[Da.ag8,Da.ag9];rfl
def gH (a:Da):Da:=a.qM fun q=> !(a.fin q)
theorem EG {a:Da} (h:a.Ok):(gH a).Ok:=h.qM
theorem ahe {a:Da} (h:a.Ok) (hm:minD a=a):minD (gH a)=gH a:=by
 have hc:=uO h;rw[hm] at hc;have dp:a.st=0:=hc.st;have hn:(gH a).n=a.n:=Da.wK;have yv: ∀q,q<a.n→∀w,WL a.L w→(gH a).acc q w= !(a.acc q w):=fun q hq w hw=>Da.O4 h hq hw;have eQ:(gH a).pos=a.pos:=rfl;have O8: ∀t,(gH a).mt t=a.mt t:=by
  intro t
  induction t with
  | zero=>rfl
  | succ t ih=>
   show (if (gH a).pos t=(gH a).mt t then (gH a).mt t+1 else (gH a).mt t)=(if a.pos t=a.mt t then a.mt t+1 else a.mt t)
   rw[ih,eQ]
 have ahf:(gH a).EH:=by
  refine ⟨fun t ht=> ?_,fun q hq=> ?_,?_⟩
  ·rw[O8,eQ];exact hc.num.le t (by rw[hn] at ht;exact ht)
  ·rw[O8];exact hc.num.row q (by rw[hn] at hq;exact hq)
  ·rw[O8,hn];exact hc.num.all
 refine (O9 (EG h) ⟨EG h,rfl,dp,ahf,fun p q hp hq he=> ?_,fun w hw=> ?_⟩).symm
 ·rw[hn] at hp hq;refine hc.red p q hp hq fun w hw=> ?_;have:=he w hw;rw[yv p hp w hw,yv q hq w hw] at this;exact Bool.not_inj this
 ·rw[show (gH a).st=0 from dp]
theorem ahg {a:Da} (h:a.Ok):minD (gH a)=gH (minD a):=by
 have hm:=rW h;refine Eq.trans (Pb (EG h) (EG hm) (show (gH a).L=_ from (Bx h).symm) fun w hw=> ?_) (ahe hm (W0 h))
 have e1:(gH a).acc (gH a).st w= !(a.acc a.st w):=Da.O4 h h.s (show WL a.L w from hw);have e2:(gH (minD a)).acc (gH (minD a)).st w= !((minD a).acc (minD a).st w):=Da.O4 hm hm.s (by rw[Bx h];exact (show WL a.L w from hw));rw[e1,e2,JM h (show WL a.L w from hw)]
section
variable {m m':Da} {S:List (List Nat)} {f f':Nat→List UInt8} (hL:m'.L=m.L) (hg:m'.gT=m.gT) (hV:CC wO (jb m S f)=some [.int .i64 0]) (EI:CC wO (jb m' S f')=some [.int .i64 0])
include hL hg hV EI
theorem ahh (c:Int):CC uP (jb m' S f'++[.int .i64 c])=CC uP (jb m S f++[.int .i64 c]):=by
 have fin: ∀{m:Da} {f:Nat→List UInt8},CC uP (jb m S f++[.int .i64 c])=EJ CC (m.L:Int) (ln S) (tab S.length fun j=> .str (f j)) (iI m S) (ja m S) (gN m.L m.gT S S.length) c:=W3 rfl;rw[fin,fin];unfold EJ;refine bs EI (Eq.symm (bs hV ?_));rw[hL,hg]
theorem ahi (c b:Int):CC wG (jb m' S f'++[.int .i64 c,.int .i64 b])=CC wG (jb m S f++[.int .i64 c,.int .i64 b]):=by
 have fin: ∀{m:Da} {f:Nat→List UInt8},CC wG (jb m S f++[.int .i64 c,.int .i64 b])=By CC (m.L:Int) (ln S) (tab S.length fun j=> .str (f j)) (iI m S) (ja m S) (gN m.L m.gT S S.length) c b:=W4 rfl;have hE:=ahh hL hg hV EI c;rw[fin,fin];unfold By;cases he:CC uP (jb m S f++[.int .i64 c]) with
 | none=>
  rw[he] at hE;have n1: ∀{α:Type} {o:Option LV} {k:LV→Option α},o=none→o.bind k=none:=fun h=>by rw[h];rfl
  exact (n1 hE).trans (n1 he).symm
 | some r=>
  rw[he] at hE;exact bs hE (Eq.symm (bs he rfl))
end
section
variable {rows:LV} {s8:Nat→List ji} (hC:Jy rows s8)
include hC
theorem ahj {a:Da} (ha:a.Ok) (fA:(minD a).n≤32): ∃(z:Int) (l:LV),l.length≤17∧CC s7 (o5 a [.int .i64 3000])=some [.int .i64 z,.list ab l]∧CC s7 (o5 (gH a) [.int .i64 3000])=some [.int .i64 z,.list ab l]:=by
 have hb:=EG ha;have ec:=ahg ha;have hn:(minD (gH a)).n=(minD a).n:=by rw[ec];exact Da.wK
 have hL:(minD (gH a)).L=(minD a).L:=by rw[ec];rfl
 have hg:(minD (gH a)).gT=(minD a).gT:=funext fun x=>by unfold Da.gT;rw[hn,ec];rfl
 have A: ∀{a:Da} z,rV CC (a.L:Int) (a.st:Int) a.dU a.eh 3000=z→CC s7 (o5 a [.int .i64 3000])=z:=fun z h=>OY h;have uN:CC Ev [.int .i64 3000]=some [.bool true]:=WE rfl;rcases ag6 ha hb fA hn hL hg with ⟨eO,JN⟩|⟨S,f,f',eO,hS,JN,hS'⟩
 ·refine ⟨3,[],by simp,A _ ?_,A _ ?_⟩
  ·unfold rV;exact bs (mC ha) (bF rfl (bs uN (bF rfl (bs eO (bT rfl rfl)))))
  ·unfold rV;exact bs (mC hb) (bF rfl (bs uN (bF rfl (bs JN (bT rfl rfl)))))
 ·obtain ⟨z,l,hl,e1,_⟩:=ag3 hC ha ha fA rfl;refine ⟨z,l,hl,e1,?_⟩;have F: ∀{a:Da},CC s7 (o5 a [.int .i64 3000])=rV CC (a.L:Int) (a.st:Int) a.dU a.eh 3000:=OY rfl;rw[F] at e1⊢;refine Eq.trans ?_ e1;have hV:=O1 ha hS eO;have EI:=O1 hb hS' JN;obtain ⟨cl,j8,eC⟩:=WJ hC;unfold rV;refine bs (mC hb) (bF rfl (bs uN (bF rfl (bs JN (bF rfl (bs eC ?_))))));refine Eq.symm (bs (mC ha) (bF rfl (bs uN (bF rfl (bs eO (bF rfl (bs eC ?_)))))));have dp: ∀x,yk CC 3000 ((V.nth [V.list yj cl] 0).toList.length:Int) ((minD a).L:Int) (ln S) (tab S.length fun j=> .str (f j)) (iI (minD a) S) (ja (minD a) S) (gN (minD a).L (minD a).gT S S.length) x=yk CC 3000 ((V.nth [V.list yj cl] 0).toList.length:Int) ((minD (gH a)).L:Int) (ln S) (tab S.length fun j=> .str (f' j)) (iI (minD (gH a)) S) (ja (minD (gH a)) S) (gN (minD (gH a)).L (minD (gH a)).gT S S.length) x:=fun x=>by
   obtain ⟨i,y⟩:=x;have hM:=ahi hL hg hV EI i 3000;simp only[jb,List.cons_append,List.nil_append] at hM;simp only[yk,Bs,un];rw[hM]
  exact congrArg (fun o:Option (Int×Bool×LV)=>o.bind _) (congrArg (fun s=>Loop s (0,([]:LV))) (funext dp))
end
noncomputable def W5 (C:af) (x n:Int):Option LV:=
 bif decide (n<1) then
  some [V.int .i64 0]
 else
  bif !decide (n=0) then
  bif decide (((Int.tmod x n):Int)<0) then
   some [V.int .i64 (wrap .i64 ((Int.tmod x n)+n))]
  else
   some [V.int .i64 (Int.tmod x n)]
  else none
theorem ahk {x n:Int} {r:Option LV} (h:W5 CC x n=r):CC JO [V.int .i64 x,V.int .i64 n]=r:=bQ (L:=bO) aw h
noncomputable def Pc (C:af) (l:LV):Option LV:=
 bif decide ((l.length:Int)>80) then
  bif decide (80≤(l.length:Int)) then
  some [.list ab ((l.drop 0).take (80-0)),V.int .i64 0]
  else none
 else
  some [.list ab l,V.int .i64 0]
theorem W6 {l:LV} {r:Option LV} (h:Pc CC l=r):CC JP [.list ab l]=r:=bQ (L:=bO) aw h
noncomputable def Pd (C:af) (n:Int) (bI:LV) (bJ:Int):Option LV:=
 bif decide (bJ≥(bI.length:Int)) then
  some [V.int .i64 0,.list ab bI,V.int .i64 bJ]
 else
  (idx bI (wrap .i64 ((wrap .i64 (bJ+1))-1))).bind fun x1=>
  (C JO [V.int .i64 x1.toInt,V.int .i64 n]).bind fun r2=>
  some [V.int .i64 ((V.nth r2 0).toInt),.list ab bI,V.int .i64 (wrap .i64 (bJ+1))]
theorem W7 {n:Int} {bI:LV} {bJ:Int} {r:Option LV} (h:Pd CC n bI bJ=r):CC ot [V.int .i64 n,.list ab bI,V.int .i64 bJ]=r:=bQ (L:=bO) aw h
theorem ahl {x:Int} {n:Nat} (hn:1≤n) (hm:n≤1000000): ∃v:Nat,v<n∧CC JO [.int .i64 x,.int .i64 (n:Int)]=some [.int .i64 (v:Int)]:=by
 have h1:x %n<n:=Int.emod_lt_of_pos _ (by omega);have h2:0≤x %n:=Int.emod_nonneg _ (by omega);have e:((x %n).toNat:Int)=x %n:=Int.toNat_of_nonneg h2;have h0:Int.tmod x n=x %n∨Int.tmod x n=x %n-n:=by
  rw[Int.tmod_eq_emod];split<;>simp
 refine ⟨(x %n).toNat,by omega,ahk ?_⟩;unfold W5;refine bF (by simp;omega) (bT (by simp;omega) ?_);rw[e];by_cases h:Int.tmod x n<0
 ·refine bT (cp h) ?_;have h3:Int.tmod x n+n=x %n:=by omega
  rw[h3,rZ (by omega) (by omega)]
 ·refine bF (da h) ?_;have h3:Int.tmod x n=x %n:=by omega
  rw[h3]
structure Tp where
 l:List Int
 k:Nat
 h:l.length≤80
 hk:k≤80
def Tp.L (t:Tp):V:= .list ab (t.l.map iV)
def Tp.K (t:Tp):V:= .int .i64 (t.k:Int)
theorem ahm (l:List Int): ∃t:Tp,CC JP [.list ab (l.map iV)]=some [t.L,t.K]:=by
 by_cases h:80<l.length
 ·refine ⟨⟨l.take 80,0,by simp;omega,by omega⟩,W6 ?_⟩;unfold Pc;refine bT (by simp;omega) (bT (by simp;omega) ?_);simp[Tp.L,Tp.K,List.map_take]
 ·refine ⟨⟨l,0,by omega,by omega⟩,W6 ?_⟩;unfold Pc;exact bF (by simp;omega) rfl
theorem qO (t:Tp) {n:Nat} (hn:1≤n) (hm:n≤1000000): ∃(v:Nat) (u:Tp),v<n∧CC ot [.int .i64 (n:Int),t.L,t.K]=some [.int .i64 (v:Int),u.L,u.K]:=by
 have hh:=t.h;have hk:=t.hk;by_cases h:t.l.length≤t.k
 ·refine ⟨0,t,by omega,W7 ?_⟩;unfold Pd;exact bT (by simp;omega) rfl
 ·obtain ⟨v,hv,e⟩:=ahl (x:=t.l.getD t.k 0) hn hm;refine ⟨v,⟨t.l,t.k+1,t.h,by omega⟩,hv,W7 ?_⟩;unfold Pd;refine bF (by simp;omega) ?_;rw[br (by omega),rZ (by omega) (by omega),show ((t.k+1:Nat):Int)-1=(t.k:Int) by omega];refine bs (Pe (z:=0) (by omega)) ?_;refine bs (by rw[V.toInt_int];exact e) ?_;rfl
structure Nd where
 op:Nat
 x:Nat
 a:Nat
 b:Nat
deriving DecidableEq
def Nd.v (d:Nd):V:= .agg [.int .i64 (d.op:Int),.int .i64 (d.x:Int),.int .i64 (d.a:Int),.int .i64 (d.b:Int)]
structure Nd.Ok (d:Nd) (L i:Nat):Prop where
 o1:1≤d.op
 o8:d.op≤8
 x1:d.op=3→d.x<L
 x0:d.op≠3→d.x=0
 a1:5≤d.op→d.a<i
 a0:d.op<5→d.a=0
 b1:5≤d.op→d.op≠8→d.b<i
 b0:d.op<5∨d.op=8→d.b=0
structure W8 (g:List Nd) (L:Nat):Prop where
 l1:1≤L
 l2:L≤6
 n1:1≤g.length
 n2:g.length≤100
 nd: ∀i (h:i<g.length),g[i].Ok L i
theorem W8.get {g:List Nd} {L i:Nat} (h:W8 g L) (hi:i<g.length):idx (g.map Nd.v) (i:Int)=some g[i].v:=by
 rw[W9 rfl hi]
noncomputable def EK (C:af) (bc n q iJ iK bz bL:Int) (aR aO aA aQ:LV) (a:Int) (bI:LV) (bJ:Int) (rows:LV) {β:Type} (kn:(Int×LV×Int×LV)→Option β) (kr:(Int×Bool×LV×Int×LV)→Option β):Option β:=
 bif decide (a<bc) then
  (C ot [V.int .i64 n,.list ab bI,V.int .i64 bJ]).bind fun r4=>
  bif Nat.ble ((rows.length+([V.int .i64 ((V.nth r4 0).toInt)]:LV).length)*8) aW then
  kn (wrap .i64 (a+1),(V.nth (r4.drop 1) 0).toList,(V.nth ((r4.drop 1).drop 1) 0).toInt,rows++([V.int .i64 ((V.nth r4 0).toInt)]:LV))
  else none
 else
  kr (a,decide (a<bc),bI,bJ,rows)
noncomputable def EL (C:af) (bc n q iJ iK bz bL:Int) (aR aO aA aQ:LV):=un fun a=>un fun bI=>un fun bJ rows=>EK C bc n q iJ iK bz bL aR aO aA aQ a bI bJ rows (fun y=>some (Sum.inl y)) (fun r=>some (Sum.inr r))
noncomputable def EM (C:af) (bc n iJ iK bz bL:Int) (aN aR:LV) (q:Int) (bI:LV) (bJ:Int) (aO aA:LV) {β:Type} (kn:(Int×LV×Int×LV×LV)→Option β) (kr:(Int×Bool×LV×Int×LV×LV)→Option β):Option β:=
 bif decide (q<n) then
  (C ot [V.int .i64 2,.list ab bI,V.int .i64 bJ]).bind fun r3=>
  bif Nat.ble ((aO.length+([.bool ((((V.nth r3 0).toInt):Int)==1)]:LV).length)*1) aW then
  (Loop (EL C bc n q iJ iK bz bL aN aR (aO++([.bool ((((V.nth r3 0).toInt):Int)==1)]:LV)) aA) (0,(V.nth (r3.drop 1) 0).toList,(V.nth ((r3.drop 1).drop 1) 0).toInt,([]:LV))).bind (un fun a_5=>un fun (j7:Bool)=>un fun (Pf:LV)=>un fun (ahn:Int) (aho:LV)=>
   bif Nat.ble ((aA.length+1)*24) aW then
    kn (wrap .i64 (q+1),Pf,ahn,aO++([.bool ((((V.nth r3 0).toInt):Int)==1)]:LV),aA++([.list ab aho]:LV))
   else none)
  else none
 else
  kr (q,decide (q<n),bI,bJ,aO,aA)
noncomputable def JQ (C:af) (bc n iJ iK bz bL:Int) (aN aR:LV):=un fun q=>un fun bI=>un fun bJ=>un fun aO aA=>EM C bc n iJ iK bz bL aN aR q bI bJ aO aA (fun y=>some (Sum.inl y)) (fun r=>some (Sum.inr r))
noncomputable def Xa (C:af):cF:=bN 161 Pg [EQ,EQ,EQ,H1,H1,H1,EQ,EQ,EQ,EQ,H1,EQ,EQ,EQ,EQ] [[1,2,3,0,0,0,0,7,8,9,10,0,12,13,14,15]] (@EK C) (bN 81 Ph [EQ,EQ,H1,H1,H1,EQ,EQ,EQ,EQ,EQ,EQ,H1,H1] [[1,2,0,0,0,0,6,7,8,9,10,11,0,0]] (@EM C) bO)
theorem ahp (C:af):bB C (Xa C) 25 (Lp [1,1,1,1,0,1,0,0,1,0,0,1,1,0,1,0,0] 25):=bP Pg [EQ,EQ,EQ,H1,H1,H1,EQ,EQ,EQ,EQ,H1,EQ,EQ,EQ,EQ] [[1,2,3,0,0,0,0,7,8,9,10,0,12,13,14,15]] (@EK C) (bu aw)
theorem ahq (C:af):bB C (Xa C) 25 (Lp [1,1,1,1,0,1,0,0] 25):=bP Ph [EQ,EQ,H1,H1,H1,EQ,EQ,EQ,EQ,EQ,EQ,H1,H1] [[1,2,0,0,0,0,6,7,8,9,10,11,0,0]] (@EM C) (bu (bC (ahp C) aw))
noncomputable def Xb (C:af) (bc dP:Int) (bI:LV) (bJ:Int):Option LV:=
 (C ot [V.int .i64 dP,.list ab bI,V.int .i64 bJ]).bind fun r1=>
 (C ot [V.int .i64 (wrap .i64 (1+((V.nth r1 0).toInt))),.list ab ((V.nth (r1.drop 1) 0).toList),V.int .i64 ((V.nth ((r1.drop 1).drop 1) 0).toInt)]).bind fun r2=>
 (Loop (JQ C bc (wrap .i64 (1+((V.nth r1 0).toInt))) 0 0 bc ((V.nth r2 0).toInt) ([]:LV) ([]:LV)) (0,(V.nth (r2.drop 1) 0).toList,(V.nth ((r2.drop 1).drop 1) 0).toInt,([]:LV),([]:LV))).bind (un fun ahr=>un fun (yw:Bool)=>un fun (ahs:LV)=>un fun aht=>un fun (o7:LV) (uQ:LV)=>
  some [V.int .i64 bc,V.int .i64 ((V.nth r2 0).toInt),.list ab ahs,V.int .i64 aht,.list ar o7,.list ag uQ])
theorem ahu {bc dP:Int} {bI:LV} {bJ:Int} {r:Option LV} (h:Xb CC bc dP bI bJ=r):CC EN [V.int .i64 bc,V.int .i64 dP,.list ab bI,V.int .i64 bJ]=r:=bQ (bC (ahq CC) aw) h
def cM (N:List (List Nat)):LV:=N.map fun r=> .list ab (nS r)
structure FN (L:Nat) (F:List Bool) (N:List (List Nat)):Prop where
 len:F.length=N.length
 pos:1≤N.length
 row: ∀r∈N,r.length=L∧∀q∈r,q<N.length
theorem FN.ok {L st:Nat} {F:List Bool} {N:List (List Nat)} (h:FN L F N) (h1:1≤L) (h6:L≤6) (hs:st<N.length) (hn:N.length≤512):(⟨L,st,F,N⟩:Da).Ok:=by
 have e:(⟨L,st,F,N⟩:Da).n=N.length:=h.len;exact ⟨h1,h6,by rw[e],fun r hr=>by rw[e];exact h.row r hr,by rw[e];exact hs,by rw[e];exact hn⟩
theorem FN.leaves {L st:Nat} {F:List Bool} {N:List (List Nat)} (h:(⟨L,st,F,N⟩:Da).Ok):dK ⟨L,st,F,N⟩=[.int .i64 (L:Int),.int .i64 (st:Int),.list ar (F.map V.bool),.list ag (cM N)]:=by
 have:=h.leaves [];show o5 _ []=_;rw[←this];simp only[JR,Da.df,cM,AH];refine congrArg (fun x=>[V.int .i64 (L:Int),V.int .i64 (st:Int),V.list ar (F.map V.bool),V.list ag x]) (pK fun r _=> ?_);simp only[Function.comp,ta,sa,nS,AH];rfl
theorem Xc (t:Tp) {L m:Nat} (h1:1≤L) (h6:L≤6) (hm:1≤m) (sX:m≤50): ∃(F:List Bool) (N:List (List Nat)) (st:Nat) (u:Tp),FN L F N∧N.length≤m∧st<N.length∧
  CC EN [.int .i64 (L:Int),.int .i64 (m:Int),t.L,t.K]=some [.int .i64 (L:Int),.int .i64 (st:Int),u.L,u.K,.list ar (F.map V.bool),.list ag (cM N)]:=by
 obtain ⟨v,t1,hv,e1⟩:=qO t (n:=m) hm (by omega);obtain ⟨st,t2,dp,e2⟩:=qO t1 (n:=v+1) (by omega) (by omega);have inner: ∀(w:Tp) {x1 x2 x3 x4 x5:Int} {y1 y2 y3 y4:LV},∃(r:List Nat) (u:Tp),r.length=L∧(∀q∈r,q<v+1)∧
   Loop (EL CC (L:Int) ((v+1:Nat):Int) x1 x2 x3 x4 x5 y1 y2 y3 y4) (0,w.l.map iV,(w.k:Int),([]:LV))=some ((L:Int),false,u.l.map iV,(u.k:Int),nS r):=by
  intro w x1 x2 x3 x4 x5 y1 y2 y3 y4;have key:=jD (step:=EL CC (L:Int) ((v+1:Nat):Int) x1 x2 x3 x4 x5 y1 y2 y3 y4) (fun i x=> ∃(r:List Nat) (u:Tp),r.length=i∧(∀q∈r,q<v+1)∧x=((i:Int),u.l.map iV,(u.k:Int),nS r))
   (fun o=> ∃(r:List Nat) (u:Tp),r.length=L∧(∀q∈r,q<v+1)∧o=((L:Int),false,u.l.map iV,(u.k:Int),nS r)) L 0 (0,w.l.map iV,(w.k:Int),nS []) (fun i _ hi x hx=> ?_) (fun x hx=> ?_) ⟨[],w,rfl,fun _ h=>(by cases h),rfl⟩
  ·obtain ⟨o,e,r,u,a1,a2,rfl⟩:=key;exact ⟨r,u,a1,a2,e⟩
  ·obtain ⟨r,u,a1,a2,rfl⟩:=hx;obtain ⟨k,u2,hk,e⟩:=qO u (n:=v+1) (by omega) (by omega);simp only[EL,EK,un];refine ⟨_,bT (bh (by omega)) (bs e (bT (cap (a:=(nS r).length) (b:=1) (by rw[dy];omega) (by omega)) rfl)),r++[k],u2,by simp;omega,fun q hq=> ?_,?_⟩
   ·rcases eF.1 hq with hq|hq
    ·exact a2 q hq
    ·rw[fu.1 hq];exact hk
   ·rw[br (by omega)];refine cK rfl (cK rfl (cK rfl ?_));simp[nS,nV]
  ·obtain ⟨r,u,a1,a2,rfl⟩:=hx;rw[dt] at*
   simp only[EL,EK,un];exact ⟨_,bF (aV (av _)) rfl,r,u,a1,a2,cK rfl (cK (aV (av _)) rfl)⟩
 have key:=jD (step:=JQ CC (L:Int) ((v+1:Nat):Int) 0 0 (L:Int) (st:Int) [] []) (fun i x=> ∃(F:List Bool) (N:List (List Nat)) (u:Tp),F.length=i∧N.length=i∧(∀r∈N,r.length=L∧∀q∈r,q<v+1)∧x=((i:Int),u.l.map iV,(u.k:Int),F.map V.bool,cM N))
  (fun o=> ∃(F:List Bool) (N:List (List Nat)) (u:Tp),F.length=v+1∧N.length=v+1∧(∀r∈N,r.length=L∧∀q∈r,q<v+1)∧o=(((v+1:Nat):Int),false,u.l.map iV,(u.k:Int),F.map V.bool,cM N)) (v+1) 0 (0,t2.l.map iV,(t2.k:Int),([]:LV),([]:LV)) (fun i _ hi x hx=> ?_) (fun x hx=> ?_) ⟨[],[],t2,rfl,rfl,fun _ h=>(by cases h),rfl⟩
 ·obtain ⟨o,e,F,N,u,a1,a2,a3,rfl⟩:=key;refine ⟨F,N,st,u,⟨by omega,by omega,fun r hr=>by rw[a2];exact a3 r hr⟩,by omega,by omega,ahu ?_⟩;unfold Xb;have hw:wrap .i64 (1+(V.nth [V.int .i64 (v:Int),t1.L,t1.K] 0).toInt)=((v+1:Nat):Int):=by
   show wrap .i64 (1+(v:Int))=_;rw[show (1+(v:Int))=((v+1:Nat):Int) by omega];exact wrap64 (by omega) (by omega)
  refine bs e1 ?_;rw[hw];exact bs e2 (bs e rfl)
 ·obtain ⟨F,N,u,a1,a2,a3,rfl⟩:=hx;obtain ⟨k,u2,hk,e⟩:=qO u (n:=2) (by omega) (by omega);obtain ⟨r,u3,b1,b2,e3⟩:=inner u2 (x1:=(i:Int)) (x2:=0) (x3:=0) (x4:=(L:Int)) (x5:=(st:Int)) (y1:=[]) (y2:=[]) (y3:=F.map V.bool++[.bool ((k:Int)==1)]) (y4:=cM N);simp only[JQ,EM,un];refine ⟨(((i+1:Nat):Int),u3.l.map iV,(u3.k:Int),F.map V.bool++[.bool ((k:Int)==1)],cM N++[.list ab (nS r)]),bT (bh (by omega)) (bs e (bT (cap (a:=(F.map V.bool).length) (b:=1) (by rw[db];omega) (by omega)) (bs e3 ?_))),F++[(k:Int)==1],N++[r],u3,by simp;omega,by simp;omega,fun s hs=> ?_,?_⟩
  ·simp only[un];refine bT (cap (a:=(cM N).length) (b:=1) (by rw[cM,db];omega) (by omega)) ?_;rw[br (by omega)];rfl
  ·rcases eF.1 hs with hs|hs
   ·exact a3 s hs
   ·rw[fu.1 hs];exact ⟨b1,b2⟩
  ·simp[cM]
 ·obtain ⟨F,N,u,a1,a2,a3,rfl⟩:=hx;rw[dt] at*
  simp only[JQ,EM,un];exact ⟨_,bF (aV (av _)) rfl,F,N,u,a1,a2,a3,cK rfl (cK (aV (av _)) rfl)⟩
noncomputable def EO (C:af) (q t17 t18:Int) (t25:Nat) (t26:Int) (Bz:LV) (BA iJ iK bz bL:Int) (aR aO aA:LV) (t27:Int) (uR:LV) {β:Type} (kn:(Int×LV)→Option β) (kr:(Int×Bool×LV)→Option β):Option β:=
 bif decide (t27<t26) then
  (e9 Tryz.prog ag uR [(t25,0)]).bind fun x4=>
  bif (decide (0≤t27))&&(decide (t27<(x4.toList.length:Int))) then
  (e9 Tryz.prog ag uR [(t25,0)]).bind fun x5=>
  (x5.toList[t27.toNat]?).bind fun x6=>
  aP uR q fun x7=>
  (e9 Tryz.prog ag uR [(q.toNat,0)]).bind fun x8=>
  bif (decide (0≤t27))&&(decide (t27<(x8.toList.length:Int))) then
   (e9 Tryz.prog ag uR [(q.toNat,0)]).bind fun x9=>
   (x9.toList[t27.toNat]?).bind fun nU=>
   kn (wrap .i64 (t27+1),setRow Tryz.prog (bj x9.toList t27 (V.int .i64 (if x6.toInt>q then x6.toInt else q))) ag uR [(q.toNat,0)])
  else none
  else none
 else
  kr (t27,decide (t27<t26),uR)
noncomputable def EP (C:af) (q t17 t18:Int) (t25:Nat) (t26:Int) (Bz:LV) (BA iJ iK bz bL:Int) (aR aO aA:LV):=un fun t27 uR=>EO C q t17 t18 t25 t26 Bz BA iJ iK bz bL aR aO aA t27 uR (fun y=>some (Sum.inl y)) (fun r=>some (Sum.inr r))
noncomputable def ER (C:af) (t17:Int) (Bz:LV) (BA iJ iK bz bL:Int) (aN aR aO:LV) (t18:Int) (aA:LV) {β:Type} (kn:(Int×LV)→Option β) (kr:(Int×Bool×LV)→Option β):Option β:=
 bif decide (t18<t17) then
  aP aA t18 fun x2=>
  (e9 Tryz.prog ag aA [(t18.toNat,0)]).bind fun x3=>
  (Loop (EP C t18 t17 t18 (t18.toNat) (x3.toList.length:Int) Bz BA iJ iK bz bL aN aR aO) (0,aA)).bind (un fun yw=>un fun (JS:Bool) (ahv:LV)=>
   kn (wrap .i64 (t18+1),ahv))
 else
  kr (t18,decide (t18<t17),aA)
noncomputable def JT (C:af) (t17:Int) (Bz:LV) (BA iJ iK bz bL:Int) (aN aR aO:LV):=un fun t18 aA=>ER C t17 Bz BA iJ iK bz bL aN aR aO t18 aA (fun y=>some (Sum.inl y)) (fun r=>some (Sum.inr r))
noncomputable def Xd (C:af):cF:=bN 97 Pj [EQ,EQ,EQ,EQ,EQ,H1,EQ,EQ,EQ,EQ,EQ,EQ,H1,EQ,EQ,EQ] [[1,2,3,4,5,0,0,7,8,9,10,11,12,0,14,15,16]] (@EO C) (bN 49 Pk [EQ,H1,EQ,EQ,EQ,EQ,EQ,EQ,EQ,EQ,EQ,H1] [[1,0,0,3,4,5,6,7,8,9,10,11,0]] (@ER C) bO)
theorem ahw (C:af):bB C (Xd C) 22 (Lp [1,1,0,1,0,0,1,1,0,0,1,1,0,0] 22):=bP Pj [EQ,EQ,EQ,EQ,EQ,H1,EQ,EQ,EQ,EQ,EQ,EQ,H1,EQ,EQ,EQ] [[1,2,3,4,5,0,0,7,8,9,10,11,12,0,14,15,16]] (@EO C) (bu aw)
theorem ahx (C:af):bB C (Xd C) 22 (Lp [1,1,0,1,0,0] 22):=bP Pk [EQ,H1,EQ,EQ,EQ,EQ,EQ,EQ,EQ,EQ,EQ,H1] [[1,0,0,3,4,5,6,7,8,9,10,11,0]] (@ER C) (bu (bC (ahw C) aw))
noncomputable def Xe (C:af) (bc dP:Int) (bI:LV) (bJ:Int):Option LV:=
 (C EN [V.int .i64 bc,V.int .i64 dP,.list ab bI,V.int .i64 bJ]).bind fun r1=>
 (Loop (JT C (((V.nth (((r1.drop 2).drop 2).drop 1) 0).toList).length:Int) ((V.nth (r1.drop 2) 0).toList) ((V.nth ((r1.drop 2).drop 1) 0).toInt) 0 0 ((V.nth r1 0).toInt) ((V.nth (r1.drop 1) 0).toInt) ([]:LV) ([]:LV) ((V.nth ((r1.drop 2).drop 2) 0).toList)) (0,(V.nth (((r1.drop 2).drop 2).drop 1) 0).toList)).bind (un fun uS=>un fun (JU:Bool) (yx:LV)=>
  some [V.int .i64 ((V.nth r1 0).toInt),V.int .i64 0,.list ab ((V.nth (r1.drop 2) 0).toList),V.int .i64 ((V.nth ((r1.drop 2).drop 1) 0).toInt),.list ar ((V.nth ((r1.drop 2).drop 2) 0).toList),.list ag yx])
theorem ahy {bc dP:Int} {bI:LV} {bJ:Int} {r:Option LV} (h:Xe CC bc dP bI bJ=r):CC JV [V.int .i64 bc,V.int .i64 dP,.list ab bI,V.int .i64 bJ]=r:=bQ (bC (ahx CC) aw) h
theorem Pl {N:List (List Nat)}:(cM N).length=N.length:=by simp[cM]
theorem ahz {N:List (List Nat)} {q:Nat} {r:List Nat} (hq:q<N.length):(cM (N.set q r))[q]? =some (.list ab (nS r)):=by simp[cM,hq]
theorem ahA (t:Tp) {L m:Nat} (h1:1≤L) (h6:L≤6) (hm:1≤m) (sX:m≤50): ∃(F:List Bool) (N:List (List Nat)) (u:Tp),FN L F N∧N.length≤m∧
  CC JV [.int .i64 (L:Int),.int .i64 (m:Int),t.L,t.K]=some [.int .i64 (L:Int),.int .i64 0,u.L,u.K,.list ar (F.map V.bool),.list ag (cM N)]:=by
 obtain ⟨F,N0,st,u,hF,hNm,dp,e0⟩:=Xc t h1 h6 hm sX;obtain ⟨n,hn⟩: ∃n,n=N0.length:=⟨_,rfl⟩
 have Xf:=hF.row;rw[←hn] at Xf;have inner: ∀{N:List (List Nat)} {q:Nat},N.length=n→q<n→(∀r∈N,r.length=L∧∀y∈r,y<n)→∃r:List Nat,r.length=L∧(∀y∈r,y<n)∧
   Loop (EP CC (q:Int) (n:Int) (q:Int) q (L:Int) (u.l.map iV) (u.k:Int) 0 0 (L:Int) (st:Int) [] [] (F.map V.bool)) (0,cM N)=some ((L:Int),false,cM (N.set q r)):=by
  intro N q hN hq cR;have Xg:=cR N[q] (dm (by omega));have key:=jD (step:=EP CC (q:Int) (n:Int) (q:Int) q (L:Int) (u.l.map iV) (u.k:Int) 0 0 (L:Int) (st:Int) [] [] (F.map V.bool)) (fun j x=> ∃r:List Nat,r.length=L∧(∀y∈r,y<n)∧x=((j:Int),cM (N.set q r)))
   (fun o=> ∃r:List Nat,r.length=L∧(∀y∈r,y<n)∧o=((L:Int),false,cM (N.set q r))) L 0 (0,cM N) (fun j _ hj x hx=> ?_) (fun x hx=> ?_) ⟨N[q],Xg.1,Xg.2,by rw[List.set_getElem_self];rfl⟩
  ·obtain ⟨o,e,r,a1,a2,rfl⟩:=key;exact ⟨r,a1,a2,e⟩
  ·obtain ⟨r,a1,a2,rfl⟩:=hx;have dZ:j<r.length:=by omega
   have hg:=ahz (N:=N) (q:=q) (r:=r) (by omega);have yz:=pZ hg;have JW:=a2 _ (dm dZ);have JX:(V.list ab (nS r)).toList[((j:Int)).toNat]? =some (nV r[j]):=by rw[V.ei,Int.toNat_natCast];exact wP dZ
   have hb:(decide (0≤(j:Int))&&decide ((j:Int)<((V.list ab (nS r)).toList.length:Int)))=true:=by rw[V.ei];exact ou (by rw[dy];exact dZ)
   have jg:setRow Tryz.prog (bj (V.list ab (nS r)).toList (j:Int) (V.int .i64 (if (nV r[j]).toInt>(q:Int) then (nV r[j]).toInt else (q:Int)))) ag (cM (N.set q r)) [((q:Int).toNat,0)]=cM (N.set q (r.set j (if r[j]>q then r[j] else q))):=by
    rw[Int.toNat_natCast,ES hg,V.ei];have hv:(V.int .i64 (if (nV r[j]).toInt>(q:Int) then (nV r[j]).toInt else (q:Int)))=nV (if r[j]>q then r[j] else q):=by
     show V.int .i64 (if ((r[j]:Nat):Int)>(q:Int) then ((r[j]:Nat):Int) else (q:Int))=V.int .i64 ((if r[j]>q then r[j] else q:Nat):Int);by_cases c:r[j]>q
     ·rw[aE c,aE (by omega)]
     ·rw[aF c,aF (by omega)]
    rw[hv];simp only[bj,Int.toNat_natCast,cM,List.map_set];rw[AI];simp[nS]
   simp only[EP,EO,un];refine ⟨_,bT (bh (by omega)) (bs yz (bT hb (bs yz (bs (a:=nV r[j]) JX ((bX hg).trans (bs (by rw[Int.toNat_natCast];exact yz) (bT hb (bs (by rw[Int.toNat_natCast];exact yz) (bs (a:=nV r[j]) JX rfl))))))))),r.set j (if r[j]>q then r[j] else q),by rw[od,a1],fun y hy=> ?_,?_⟩
   ·rcases DD hy with hy|rfl
    ·exact a2 y hy
    ·split
     ·exact JW
     ·exact hq
   ·rw[br (by omega)];exact cK rfl jg
  ·obtain ⟨r,a1,a2,rfl⟩:=hx;rw[dt] at*
   simp only[EP,EO,un];exact ⟨_,bF (aV (av _)) rfl,r,a1,a2,cK rfl (cK (aV (av _)) rfl)⟩
 have key:=jD (step:=JT CC (n:Int) (u.l.map iV) (u.k:Int) 0 0 (L:Int) (st:Int) [] [] (F.map V.bool)) (fun q x=> ∃N:List (List Nat),N.length=n∧(∀r∈N,r.length=L∧∀y∈r,y<n)∧x=((q:Int),cM N))
  (fun o=> ∃N:List (List Nat),N.length=n∧(∀r∈N,r.length=L∧∀y∈r,y<n)∧o=((n:Int),false,cM N)) n 0 (0,cM N0) (fun q _ hq x hx=> ?_) (fun x hx=> ?_) ⟨N0,hn.symm,Xf,rfl⟩
 ·obtain ⟨o,e,N,a1,a2,rfl⟩:=key;refine ⟨F,N,u,⟨by rw[hF.len,←hn,a1],by rw[a1,hn];exact hF.pos,fun r hr=>by rw[a1];exact a2 r hr⟩,by omega,ahy ?_⟩;unfold Xe;refine bs e0 ?_;have hl:((V.nth ((([V.int .i64 (L:Int),.int .i64 (st:Int),u.L,u.K,.list ar (F.map V.bool),.list ag (cM N0)].drop 2).drop 2).drop 1) 0).toList.length:Int)=(n:Int):=by show ((cM N0).length:Int)=_;rw[Pl,hn]
  rw[hl];exact bs e rfl
 ·obtain ⟨N,a1,a2,rfl⟩:=hx;have dz:q<n:=by omega
  obtain ⟨r,b1,b2,e⟩:=inner a1 dz a2;have hg:(cM N)[q]? =some (.list ab (nS N[q])):=by simp[cM,a1,dz]
  have Pm:=(a2 N[q] (dm (by omega))).1;simp only[JT,ER,un];have hlen:((V.list ab (nS N[q])).toList.length:Int)=(L:Int):=by rw[V.ei,dy,Pm]
  refine ⟨(((q+1:Nat):Int),cM (N.set q r)),bT (bh dz) ((bX hg).trans (bs (by rw[Int.toNat_natCast];exact pZ hg) ?_)),N.set q r,by rw[od,a1],fun s hs=> ?_,rfl⟩
  ·rw[hlen,Int.toNat_natCast];refine bs e ?_;rw[br (by omega)];rfl
  ·rcases DD hs with hs|rfl
   ·exact a2 s hs
   ·exact ⟨b1,b2⟩
 ·obtain ⟨N,a1,a2,rfl⟩:=hx;rw[dt] at*
  simp only[JT,ER,un];exact ⟨_,bF (aV (av _)) rfl,N,a1,a2,cK rfl (cK (aV (av _)) rfl)⟩
noncomputable def ET (C:af) (bc n iJ iK bz bL:Int) (aN aR:LV) (q:Int) (bI:LV) (bJ:Int) (aO aA:LV) {β:Type} (kn:(Int×LV×Int×LV×LV)→Option β) (kr:(Int×Bool×LV×Int×LV×LV)→Option β):Option β:=
 bif decide (q<n) then
  (C ot [V.int .i64 2,.list ab bI,V.int .i64 bJ]).bind fun r3=>
  bif Nat.ble ((aO.length+([.bool ((((V.nth r3 0).toInt):Int)==1)]:LV).length)*1) aW then
  bif (decide (0≤bc))&&((decide (bc≤bc))&&(Nat.ble ((bc.toNat)*8) aW)) then
   bif Nat.ble ((aA.length+1)*24) aW then
   kn (wrap .i64 (q+1),(V.nth (r3.drop 1) 0).toList,(V.nth ((r3.drop 1).drop 1) 0).toInt,aO++([.bool ((((V.nth r3 0).toInt):Int)==1)]:LV),aA++([.list ab (List.replicate (bc.toNat) (V.int .i64 0))]:LV))
   else none
  else none
  else none
 else
  kr (q,decide (q<n),bI,bJ,aO,aA)
noncomputable def EU (C:af) (bc n iJ iK bz bL:Int) (aN aR:LV):=un fun q=>un fun bI=>un fun bJ=>un fun aO aA=>ET C bc n iJ iK bz bL aN aR q bI bJ aO aA (fun y=>some (Sum.inl y)) (fun r=>some (Sum.inr r))
noncomputable def EV (C:af) (bc n a:Int) (bI:LV) (bJ iJ iK bz bL:Int) (aR aO aA aQ:LV) (q:Int) (lu:LV) {β:Type} (kn:(Int×LV)→Option β) (kr:(Int×Bool×LV)→Option β):Option β:=
 bif decide (q<n) then
  bif Nat.ble ((lu.length+([V.int .i64 q]:LV).length)*8) aW then
  kn (wrap .i64 (q+1),lu++([V.int .i64 q]:LV))
  else none
 else
  kr (q,decide (q<n),lu)
noncomputable def JY (C:af) (bc n a:Int) (bI:LV) (bJ iJ iK bz bL:Int) (aR aO aA aQ:LV):=un fun q lu=>EV C bc n a bI bJ iJ iK bz bL aR aO aA aQ q lu (fun y=>some (Sum.inl y)) (fun r=>some (Sum.inr r))
noncomputable def EW (C:af) (bc n a iJ iK bz bL:Int) (aR aO aA:LV) (q:Int) (bI:LV) (bJ:Int) (lu aQ:LV) {β:Type} (kn:(Int×LV×Int×LV×LV)→Option β) (kr:(Int×Bool×LV×Int×LV×LV)→Option β):Option β:=
 bif decide (q<n) then
  (C ot [V.int .i64 (lu.length:Int),.list ab bI,V.int .i64 bJ]).bind fun gz=>
  aP aQ q fun JZ=>
  aP lu ((V.nth gz 0).toInt) fun J0=>
  (e9 Tryz.prog ag aQ [(q.toNat,0)]).bind fun J1=>
  bif (decide (0≤a))&&(decide (a<(J1.toList.length:Int))) then
  (e9 Tryz.prog ag aQ [(q.toNat,0)]).bind fun uT=>
  (uT.toList[a.toNat]?).bind fun J2=>
  bif (decide (0≤((V.nth gz 0).toInt)))&&(decide (((V.nth gz 0).toInt)≤(lu.length:Int))) then
   bif Nat.ble ((([]:LV).length+((lu.drop 0).take ((((V.nth gz 0).toInt:Int).toNat)-0)).length)*8) aW then
   bif (decide (0≤(wrap .i64 (((V.nth gz 0).toInt)+1))))&&(decide ((wrap .i64 (((V.nth gz 0).toInt)+1))≤(lu.length:Int))) then
    bif Nat.ble (((([]:LV)++((lu.drop 0).take ((((V.nth gz 0).toInt:Int).toNat)-0))).length+((lu.drop ((wrap .i64 (((V.nth gz 0).toInt)+1):Int).toNat)).take (lu.length-((wrap .i64 (((V.nth gz 0).toInt)+1):Int).toNat))).length)*8) aW then
    kn (wrap .i64 (q+1),(V.nth (gz.drop 1) 0).toList,(V.nth ((gz.drop 1).drop 1) 0).toInt,(([]:LV)++((lu.drop 0).take ((((V.nth gz 0).toInt:Int).toNat)-0)))++((lu.drop ((wrap .i64 (((V.nth gz 0).toInt)+1):Int).toNat)).take (lu.length-((wrap .i64 (((V.nth gz 0).toInt)+1):Int).toNat))),setRow Tryz.prog (bj uT.toList a (V.int .i64 J0.toInt)) ag aQ [(q.toNat,0)])
    else none
   else none
   else none
  else none
  else none
 else
  kr (q,decide (q<n),bI,bJ,lu,aQ)
noncomputable def EX (C:af) (bc n a iJ iK bz bL:Int) (aR aO aA:LV):=un fun q=>un fun bI=>un fun bJ=>un fun lu aQ=>EW C bc n a iJ iK bz bL aR aO aA q bI bJ lu aQ (fun y=>some (Sum.inl y)) (fun r=>some (Sum.inr r))
noncomputable def EY (C:af) (bc n iJ iK bz bL:Int) (aN aR aO:LV) (a:Int) (bI:LV) (bJ:Int) (aA:LV) {β:Type} (kn:(Int×LV×Int×LV)→Option β) (kr:(Int×Bool×LV×Int×LV)→Option β):Option β:=
 bif decide (a<bc) then
  (Loop (JY C bc n a bI bJ iJ iK bz bL aN aR aO aA) (0,([]:LV))).bind (un fun ahr=>un fun (yw:Bool) (ahB:LV)=>
   (Loop (EX C bc n a iJ iK bz bL aN aR aO) (0,bI,bJ,ahB,aA)).bind (un fun axq=>un fun (ahC:Bool)=>un fun (ahD:LV)=>un fun ahE=>un fun (axr:LV) (uU:LV)=>
    kn (wrap .i64 (a+1),ahD,ahE,uU)))
 else
  kr (a,decide (a<bc),bI,bJ,aA)
noncomputable def J3 (C:af) (bc n iJ iK bz bL:Int) (aN aR aO:LV):=un fun a=>un fun bI=>un fun bJ aA=>EY C bc n iJ iK bz bL aN aR aO a bI bJ aA (fun y=>some (Sum.inl y)) (fun r=>some (Sum.inr r))
noncomputable def J4 (C:af):cF:=bN 81 Pn [EQ,EQ,H1,H1,H1,EQ,EQ,EQ,EQ,EQ,EQ,H1,H1] [[1,2,0,0,0,0,6,7,8,9,10,11,0,0]] (@ET C) (bN 209 Po [EQ,EQ,EQ,H1,EQ,EQ,EQ,EQ,EQ,EQ,H1,EQ,EQ,EQ,EQ] [[1,2,3,0,0,5,6,7,8,9,10,0,12,13,14,15]] (@EV C) (bN 273 Pp [EQ,EQ,EQ,H1,H1,H1,EQ,EQ,EQ,EQ,H1,EQ,EQ,EQ,H1] [[1,2,3,0,0,0,0,7,8,9,10,0,12,13,14,0]] (@EW C) (bN 145 Pq [EQ,EQ,H1,H1,H1,EQ,EQ,EQ,EQ,EQ,EQ,EQ,H1] [[1,2,0,0,0,0,6,7,8,9,10,11,12,0]] (@EY C) bO)))
theorem ahF (C:af):bB C (J4 C) 23 (Lp [1,1,1,1,0,1,0,0] 23):=bP Pn [EQ,EQ,H1,H1,H1,EQ,EQ,EQ,EQ,EQ,EQ,H1,H1] [[1,2,0,0,0,0,6,7,8,9,10,11,0,0]] (@ET C) (bu aw)
theorem ahG (C:af):bB C (J4 C) 23 (Lp [1,1,1,1,1,0,1,0,0,1,0,0,1,0,1,0,0] 23):=bP Po [EQ,EQ,EQ,H1,EQ,EQ,EQ,EQ,EQ,EQ,H1,EQ,EQ,EQ,EQ] [[1,2,3,0,0,5,6,7,8,9,10,0,12,13,14,15]] (@EV C) (bu aw)
theorem ahH (C:af):bB C (J4 C) 23 (Lp [1,1,1,1,1,0,1,0,0,1,0,0,1,1,1,0,0] 23):=bP Pp [EQ,EQ,EQ,H1,H1,H1,EQ,EQ,EQ,EQ,H1,EQ,EQ,EQ,H1] [[1,2,3,0,0,0,0,7,8,9,10,0,12,13,14,0]] (@EW C) (bu aw)
theorem ahI (C:af):bB C (J4 C) 23 (Lp [1,1,1,1,1,0,1,0,0] 23):=bP Pq [EQ,EQ,H1,H1,H1,EQ,EQ,EQ,EQ,EQ,EQ,EQ,H1] [[1,2,0,0,0,0,6,7,8,9,10,11,12,0]] (@EY C) (bu (bC (ahG C) (bC (ahH C) aw)))
noncomputable def Xh (C:af) (bc dP:Int) (bI:LV) (bJ:Int):Option LV:=
 (C ot [V.int .i64 dP,.list ab bI,V.int .i64 bJ]).bind fun r1=>
 (C ot [V.int .i64 (wrap .i64 (1+((V.nth r1 0).toInt))),.list ab ((V.nth (r1.drop 1) 0).toList),V.int .i64 ((V.nth ((r1.drop 1).drop 1) 0).toInt)]).bind fun r2=>
 (Loop (EU C bc (wrap .i64 (1+((V.nth r1 0).toInt))) 0 0 bc ((V.nth r2 0).toInt) ([]:LV) ([]:LV)) (0,(V.nth (r2.drop 1) 0).toList,(V.nth ((r2.drop 1).drop 1) 0).toInt,([]:LV),([]:LV))).bind (un fun q_4=>un fun (kC:Bool)=>un fun (ahJ:LV)=>un fun Pf=>un fun (BB:LV) (yA:LV)=>
  (Loop (J3 C bc (wrap .i64 (1+((V.nth r1 0).toInt))) 0 0 bc ((V.nth r2 0).toInt) ([]:LV) ([]:LV) BB) (0,ahJ,Pf,yA)).bind (un fun axs=>un fun (axt:Bool)=>un fun (ahK:LV)=>un fun (ahL:Int) (Pr:LV)=>
   some [V.int .i64 bc,V.int .i64 ((V.nth r2 0).toInt),.list ab ahK,V.int .i64 ahL,.list ar BB,.list ag Pr]))
theorem ahM {bc dP:Int} {bI:LV} {bJ:Int} {r:Option LV} (h:Xh CC bc dP bI bJ=r):CC J5 [V.int .i64 bc,V.int .i64 dP,.list ab bI,V.int .i64 bJ]=r:=bQ (bC (ahF CC) (bC (ahI CC) aw)) h
theorem ahN (l:List Nat) (k:Nat):((([]:LV)++((nS l).drop 0).take (k-0))++((nS l).drop (k+1)).take ((nS l).length-(k+1)))=nS (l.take k++l.drop (k+1)):=by
 have h:((nS l).drop (k+1)).take ((nS l).length-(k+1))=(nS l).drop (k+1):=List.take_of_length_le (by rw[AJ];exact av _);rw[ud,Nat.sub_zero,List.nil_append,h];simp[nS,List.map_take,List.map_drop]
theorem ahO (t:Tp) {L m:Nat} (h1:1≤L) (h6:L≤6) (hm:1≤m) (sX:m≤50): ∃(F:List Bool) (N:List (List Nat)) (st:Nat) (u:Tp),FN L F N∧N.length≤m∧st<N.length∧
  CC J5 [.int .i64 (L:Int),.int .i64 (m:Int),t.L,t.K]=some [.int .i64 (L:Int),.int .i64 (st:Int),u.L,u.K,.list ar (F.map V.bool),.list ag (cM N)]:=by
 obtain ⟨v,t1,hv,e1⟩:=qO t (n:=m) hm (by omega);obtain ⟨st,t2,dp,e2⟩:=qO t1 (n:=v+1) (by omega) (by omega);obtain ⟨n,hn⟩: ∃n,n=v+1:=⟨_,rfl⟩
 rw[←hn] at dp e2;have l1: ∃(F:List Bool) (N:List (List Nat)) (u:Tp),F.length=n∧N.length=n∧(∀r∈N,r.length=L∧∀y∈r,y<n)∧
   Loop (EU CC (L:Int) (n:Int) 0 0 (L:Int) (st:Int) [] []) (0,t2.l.map iV,(t2.k:Int),([]:LV),([]:LV))=some ((n:Int),false,u.l.map iV,(u.k:Int),F.map V.bool,cM N):=by
  have key:=jD (step:=EU CC (L:Int) (n:Int) 0 0 (L:Int) (st:Int) [] []) (fun i x=> ∃(F:List Bool) (N:List (List Nat)) (u:Tp),F.length=i∧N.length=i∧(∀r∈N,r.length=L∧∀y∈r,y<n)∧x=((i:Int),u.l.map iV,(u.k:Int),F.map V.bool,cM N))
   (fun o=> ∃(F:List Bool) (N:List (List Nat)) (u:Tp),F.length=n∧N.length=n∧(∀r∈N,r.length=L∧∀y∈r,y<n)∧o=((n:Int),false,u.l.map iV,(u.k:Int),F.map V.bool,cM N)) n 0 (0,t2.l.map iV,(t2.k:Int),([]:LV),([]:LV)) (fun i _ hi x hx=> ?_) (fun x hx=> ?_) ⟨[],[],t2,rfl,rfl,fun _ h=>(by cases h),rfl⟩
  ·obtain ⟨o,e,F,N,u,a1,a2,a3,rfl⟩:=key;exact ⟨F,N,u,a1,a2,a3,e⟩
  ·obtain ⟨F,N,u,a1,a2,a3,rfl⟩:=hx;obtain ⟨k,u2,hk,e⟩:=qO u (n:=2) (by omega) (by omega);simp only[EU,ET,un];refine ⟨(((i+1:Nat):Int),u2.l.map iV,(u2.k:Int),F.map V.bool++[.bool ((k:Int)==1)],cM N++[.list ab (List.replicate L (V.int .i64 0))]),bT (bh (by omega)) (bs e (bT (cap (a:=(F.map V.bool).length) (b:=1) (by rw[db];omega) (by omega)) (bT (fO (by omega) (by omega)) (bT (cap (a:=(cM N).length) (b:=1) (by rw[Pl];omega) (by omega)) ?_)))),F++[(k:Int)==1],N++[List.replicate L 0],u2,by simp;omega,by simp;omega,fun s hs=> ?_,?_⟩
   ·rw[br (by omega),Int.toNat_natCast];rfl
   ·rcases eF.1 hs with hs|hs
    ·exact a3 s hs
    ·rw[fu.1 hs];exact ⟨by simp,fun y hy=>by rw[(List.mem_replicate.1 hy).2];omega⟩
   ·simp[cM,nS,nV]
  ·obtain ⟨F,N,u,a1,a2,a3,rfl⟩:=hx;rw[dt] at*
   simp only[EU,ET,un];exact ⟨_,bF (aV (av _)) rfl,F,N,u,a1,a2,a3,cK rfl (cK (aV (av _)) rfl)⟩
 obtain ⟨F,N0,u0,f1,f2,f3,eL1⟩:=l1;have l2: ∀{x1 x2 x3 x4 x5 x6:Int} {y0 y1 y2 y3 y4:LV},Loop (JY CC (L:Int) (n:Int) x1 y0 x2 x3 x4 x5 x6 y1 y2 y3 y4) (0,([]:LV))=some ((n:Int),false,nS (List.range n)):=by
  intro x1 x2 x3 x4 x5 x6 y0 y1 y2 y3 y4;refine gx n (fun i=>((i:Int),nS (List.range i))) _ (fun i hi=> ?_) ?_
  ·simp only[JY,EV,un];refine bT (bh hi) (bT (cap (a:=(nS (List.range i)).length) (b:=1) (by rw[dy,jN];omega) (by omega)) ?_);rw[br (by omega),List.range_succ];simp[nS,nV]
  ·simp only[JY,EV,un];refine bF (aV (av _)) ?_;rw[aV (av _)]
 have l3: ∀{a:Nat} (ha:a<L) {N:List (List Nat)} {w:Tp},N.length=n→(∀r∈N,r.length=L∧∀y∈r,y<n)→∃(N':List (List Nat)) (u:Tp) (l:LV),N'.length=n∧(∀r∈N',r.length=L∧∀y∈r,y<n)∧
   Loop (EX CC (L:Int) (n:Int) (a:Int) 0 0 (L:Int) (st:Int) [] [] (F.map V.bool)) (0,w.l.map iV,(w.k:Int),nS (List.range n),cM N)=some ((n:Int),false,u.l.map iV,(u.k:Int),l,cM N'):=by
  intro a ha N w hN cR;have key:=jD (step:=EX CC (L:Int) (n:Int) (a:Int) 0 0 (L:Int) (st:Int) [] [] (F.map V.bool)) (fun q x=> ∃(N':List (List Nat)) (u:Tp) (l:List Nat),N'.length=n∧(∀r∈N',r.length=L∧∀y∈r,y<n)∧l.length=n-q∧(∀y∈l,y<n)∧x=((q:Int),u.l.map iV,(u.k:Int),nS l,cM N'))
   (fun o=> ∃(N':List (List Nat)) (u:Tp) (l:LV),N'.length=n∧(∀r∈N',r.length=L∧∀y∈r,y<n)∧o=((n:Int),false,u.l.map iV,(u.k:Int),l,cM N')) n 0 (0,w.l.map iV,(w.k:Int),nS (List.range n),cM N) (fun q _ hq x hx=> ?_) (fun x hx=> ?_) ⟨N,w,List.range n,hN,cR,by simp,fun y hy=>iD.1 hy,rfl⟩
  ·obtain ⟨o,e,N',u,l,a1,a2,rfl⟩:=key;exact ⟨N',u,l,a1,a2,e⟩
  ·obtain ⟨N',u,l,a1,a2,a3,a4,rfl⟩:=hx;have dz:q<n:=by omega
   obtain ⟨k,u2,hk,e⟩:=qO u (n:=l.length) (by omega) (by omega);have hg:(cM N')[q]? =some (.list ab (nS N'[q])):=by simp[cM,a1,dz]
   have hr:=a2 N'[q] (dm (by omega));have yz:=pZ hg;have EZ:=a4 _ (dm hk);have Xi:a<(N'[q]).length:=by rw[hr.1];exact ha
   have JX:(V.list ab (nS N'[q])).toList[((a:Int)).toNat]? =some (nV (N'[q])[a]):=by rw[V.ei,Int.toNat_natCast];exact wP Xi
   have hb:(decide (0≤(a:Int))&&decide ((a:Int)<((V.list ab (nS N'[q])).toList.length:Int)))=true:=by rw[V.ei];exact ou (by rw[dy];exact Xi)
   have hw1:wrap .i64 ((k:Int)+1)=((k+1:Nat):Int):=br (by omega);have jg:setRow Tryz.prog (bj (V.list ab (nS N'[q])).toList (a:Int) (V.int .i64 (nV l[k]).toInt)) ag (cM N') [((q:Int).toNat,0)]=cM (N'.set q ((N'[q]).set a l[k])):=by
    rw[Int.toNat_natCast,ES hg,V.ei];simp[bj,cM,List.map_set,nS,nV]
   simp only[EX,EW,un];refine ⟨(((q+1:Nat):Int),u2.l.map iV,(u2.k:Int),nS (l.take k++l.drop (k+1)),cM (N'.set q ((N'[q]).set a l[k]))),bT (bh dz) ?_,N'.set q ((N'[q]).set a l[k]),u2,l.take k++l.drop (k+1),by rw[od,a1],fun s hs=> ?_,by rw[ik,mN,AJ];omega,fun y hy=> ?_,rfl⟩
   ·rw[dy];refine bs e ((bX hg).trans ((bX (i:=k) (wP hk)).trans (bs (by rw[Int.toNat_natCast];exact yz) (bT hb (bs (by rw[Int.toNat_natCast];exact yz) (bs (a:=nV (N'[q])[a]) JX ?_))))));have sb:(V.nth [V.int .i64 (k:Int),u2.L,u2.K] 0).toInt=(k:Int):=rfl;simp only[sb,hw1,Int.toNat_natCast];refine bT (kh.2 ⟨cp (by omega),cp (by omega)⟩) (bT (cap (a:=0) (by rw[mN];simp;omega) (by omega)) (bT (kh.2 ⟨cp (by omega),cp (by omega)⟩) (bT (cap (by rw[ik,mN,mN,AJ,AJ,dy];simp;omega) (by omega)) ?_)));rw[br (by omega)];have Xj:=jg;rw[Int.toNat_natCast] at Xj;refine congrArg (fun z=>some (Sum.inl z)) (cK rfl (cK rfl (cK rfl (cK ?_ Xj))));have:=ahN l k;rw[dy] at this;exact this
   ·rcases DD hs with hs|rfl
    ·exact a2 s hs
    ·refine ⟨by rw[od,hr.1],fun y hy=> ?_⟩;rcases DD hy with hy|rfl
     ·exact hr.2 y hy
     ·exact EZ
   ·rcases eF.1 hy with hy|hy
    ·exact a4 y (List.mem_of_mem_take hy)
    ·exact a4 y (List.mem_of_mem_drop hy)
  ·obtain ⟨N',u,l,a1,a2,a3,a4,rfl⟩:=hx;rw[dt] at*
   simp only[EX,EW,un];exact ⟨_,bF (aV (av _)) rfl,N',u,nS l,a1,a2,cK rfl (cK (aV (av _)) rfl)⟩
 have key:=jD (step:=J3 CC (L:Int) (n:Int) 0 0 (L:Int) (st:Int) [] [] (F.map V.bool)) (fun a x=> ∃(N':List (List Nat)) (u:Tp),N'.length=n∧(∀r∈N',r.length=L∧∀y∈r,y<n)∧x=((a:Int),u.l.map iV,(u.k:Int),cM N'))
  (fun o=> ∃(N':List (List Nat)) (u:Tp),N'.length=n∧(∀r∈N',r.length=L∧∀y∈r,y<n)∧o=((L:Int),false,u.l.map iV,(u.k:Int),cM N')) L 0 (0,u0.l.map iV,(u0.k:Int),cM N0) (fun a _ ha x hx=> ?_) (fun x hx=> ?_) ⟨N0,u0,f2,f3,rfl⟩
 ·obtain ⟨o,e,N,u,a1,a2,rfl⟩:=key;refine ⟨F,N,st,u,⟨by omega,by omega,fun r hr=>by rw[a1];exact a2 r hr⟩,by omega,by omega,ahM ?_⟩;unfold Xh;have hw:wrap .i64 (1+(V.nth [V.int .i64 (v:Int),t1.L,t1.K] 0).toInt)=(n:Int):=by
   show wrap .i64 (1+(v:Int))=_;rw[show (1+(v:Int))=(n:Int) by omega];exact wrap64 (by omega) (by omega)
  refine bs e1 ?_;rw[hw];exact bs e2 (bs eL1 (bs e rfl))
 ·obtain ⟨N',u,a1,a2,rfl⟩:=hx;obtain ⟨N2,u2,l,b1,b2,e⟩:=l3 (a:=a) (by omega) (w:=u) a1 a2;simp only[J3,EY,un];refine ⟨_,bT (bh (by omega)) (bs l2 (bs e rfl)),N2,u2,b1,b2,?_⟩;exact cK (br (by omega)) rfl
 ·obtain ⟨N',u,a1,a2,rfl⟩:=hx;rw[dt] at*
  simp only[J3,EY,un];exact ⟨_,bF (aV (av _)) rfl,N',u,a1,a2,cK rfl (cK (aV (av _)) rfl)⟩
noncomputable def E0 (C:af) (bc:Int) (w:List UInt8) (a:Int) (v:List UInt8) (t23 t24 t51:Int) (bI:LV) (bJ lx ly bz bL:Int) (ls rows aO aA aQ bw:LV) (to t52:Int) {β:Type} (kn:(Int×Int)→Option β) (kr:(Int×Int×Bool)→Option β):Option β:=
 bif decide (t52<t51) then
  aP ls t52 fun x5=>
  bif x5.toStr==v then
  kn (t52,wrap .i64 (t52+1))
  else
  kn (to,wrap .i64 (t52+1))
 else
  kr (to,t52,decide (t52<t51))
noncomputable def E1 (C:af) (bc:Int) (w:List UInt8) (a:Int) (v:List UInt8) (t23 t24 t51:Int) (bI:LV) (bJ lx ly bz bL:Int) (ls rows aO aA aQ bw:LV):=un fun to t52=>E0 C bc w a v t23 t24 t51 bI bJ lx ly bz bL ls rows aO aA aQ bw to t52 (fun y=>some (Sum.inl y)) (fun r=>some (Sum.inr r))
noncomputable def yB (C:af) (bc:Int) (w:List UInt8) (a t23 t24:Int) (bI:LV) (bJ lx ly bz bL:Int) (ls rows aO aA aQ bw:LV) (v:List UInt8) (to:Int) {β:Type} (kn:((List UInt8)×Int)→Option β) (kr:((List UInt8)×Int×Bool)→Option β):Option β:=
 bif to==(-1) then
  (Loop (E1 C bc w a v t23 t24 (ls.length:Int) bI bJ lx ly bz bL ls rows aO aA aQ bw) (to,0)).bind (un fun ahP=>un fun (oo:Int) (wQ:Bool)=>
   bif decide (1≤(v.length:Int)) then
   kn ((v.drop 1).take (v.length-1),ahP)
   else none)
 else
  kr (v,to,to==(-1))
noncomputable def yC (C:af) (bc:Int) (w:List UInt8) (a t23 t24:Int) (bI:LV) (bJ lx ly bz bL:Int) (ls rows aO aA aQ bw:LV):=un fun v to=>yB C bc w a t23 t24 bI bJ lx ly bz bL ls rows aO aA aQ bw v to (fun y=>some (Sum.inl y)) (fun r=>some (Sum.inr r))
noncomputable def E2 (C:af) (bc:Int) (w:List UInt8) (t23 t24:Int) (bI:LV) (bJ lx ly bz bL:Int) (ls aO aA aQ bw:LV) (a:Int) (rows:LV) {β:Type} (kn:(Int×LV)→Option β) (kr:(Int×Bool×LV)→Option β):Option β:=
 bif decide (a<bc) then
  bif Nat.ble (w.length+(lb ([.int .u8 (wrap .u8 (wrap .i64 (97+a)))]:LV)).length) oT then
  (Loop (yC C bc w a t23 t24 bI bJ lx ly bz bL ls rows aO aA aQ bw) (w++(lb ([.int .u8 (wrap .u8 (wrap .i64 (97+a)))]:LV)),(-1))).bind (un fun (v_9:List UInt8)=>un fun (Xk:Int) (yw:Bool)=>
   bif Nat.ble ((rows.length+([V.int .i64 Xk]:LV).length)*8) aW then
    kn (wrap .i64 (a+1),rows++([V.int .i64 Xk]:LV))
   else none)
  else none
 else
  kr (a,decide (a<bc),rows)
noncomputable def E3 (C:af) (bc:Int) (w:List UInt8) (t23 t24:Int) (bI:LV) (bJ lx ly bz bL:Int) (ls aO aA aQ bw:LV):=un fun a rows=>E2 C bc w t23 t24 bI bJ lx ly bz bL ls aO aA aQ bw a rows (fun y=>some (Sum.inl y)) (fun r=>some (Sum.inr r))
noncomputable def E4 (C:af) (bc t23 lx ly bz bL:Int) (ls aR aO:LV) (t24:Int) (bI:LV) (bJ:Int) (aA aQ:LV) {β:Type} (kn:(Int×LV×Int×LV×LV)→Option β) (kr:(Int×Bool×LV×Int×LV×LV)→Option β):Option β:=
 bif decide (t24<t23) then
  aP ls t24 fun x3=>
  (C ot [V.int .i64 2,.list ab bI,V.int .i64 bJ]).bind fun r4=>
  bif Nat.ble ((aA.length+([.bool ((((V.nth r4 0).toInt):Int)==1)]:LV).length)*1) aW then
  (Loop (E3 C bc x3.toStr t23 t24 ((V.nth (r4.drop 1) 0).toList) ((V.nth ((r4.drop 1).drop 1) 0).toInt) lx ly bz bL ls aR aO (aA++([.bool ((((V.nth r4 0).toInt):Int)==1)]:LV)) aQ) (0,([]:LV))).bind (un fun axu=>un fun (BC:Bool) (ahQ:LV)=>
   bif Nat.ble ((aQ.length+1)*24) aW then
    kn (wrap .i64 (t24+1),(V.nth (r4.drop 1) 0).toList,(V.nth ((r4.drop 1).drop 1) 0).toInt,aA++([.bool ((((V.nth r4 0).toInt):Int)==1)]:LV),aQ++([.list ab ahQ]:LV))
   else none)
  else none
 else
  kr (t24,decide (t24<t23),bI,bJ,aA,aQ)
noncomputable def E5 (C:af) (bc t23 lx ly bz bL:Int) (ls aR aO:LV):=un fun t24=>un fun bI=>un fun bJ=>un fun aA aQ=>E4 C bc t23 lx ly bz bL ls aR aO t24 bI bJ aA aQ (fun y=>some (Sum.inl y)) (fun r=>some (Sum.inr r))
noncomputable def J6 (C:af):cF:=bN 241 Ps [EQ,EQ,EQ,EQ,H1,EQ,EQ,EQ,H1,EQ,EQ,EQ,EQ,EQ,EQ,EQ,EQ,EQ,EQ,EQ,EQ] [[1,2,3,4,0,6,7,8,0,0,10,11,12,13,14,15,16,17,18,19,20,21]] (@E0 C) (bN 209 Pt [EQ,EQ,EQ,H1,H1,EQ,EQ,EQ,EQ,EQ,EQ,EQ,EQ,EQ,EQ,EQ,EQ,EQ,EQ] [[1,2,3,0,0,6,7,0,8,9,10,11,12,13,14,15,16,17,18,19]] (@yB C) (bN 145 Pu [EQ,EQ,H1,EQ,EQ,EQ,EQ,EQ,EQ,EQ,EQ,EQ,H1,EQ,EQ,EQ,EQ] [[1,2,0,4,5,0,6,7,8,9,10,11,12,0,14,15,16,17]] (@E2 C) (bN 65 Pv [EQ,EQ,H1,H1,H1,EQ,EQ,EQ,EQ,EQ,EQ,EQ,H1,H1] [[1,2,0,0,0,0,6,7,8,9,10,11,12,0,0]] (@E4 C) bO)))
theorem ahR (C:af):bB C (J6 C) 24 (Lp [1,1,1,0,1,0,0,1,1,0,0,1,1,1,0,1,0,0,1,0,0,1,1,0,0,0,1,0,0,1,0,0] 24):=bP Ps [EQ,EQ,EQ,EQ,H1,EQ,EQ,EQ,H1,EQ,EQ,EQ,EQ,EQ,EQ,EQ,EQ,EQ,EQ,EQ,EQ] [[1,2,3,4,0,6,7,8,0,0,10,11,12,13,14,15,16,17,18,19,20,21]] (@E0 C) (bu aw)
theorem ahS (C:af):bB C (J6 C) 24 (Lp [1,1,1,0,1,0,0,1,1,0,0,1,1,1,0,1,0,0,1,0,0,1,1,0,0,0] 24):=bP Pt [EQ,EQ,EQ,H1,H1,EQ,EQ,EQ,EQ,EQ,EQ,EQ,EQ,EQ,EQ,EQ,EQ,EQ,EQ] [[1,2,3,0,0,6,7,0,8,9,10,11,12,13,14,15,16,17,18,19]] (@yB C) (bu (bC (ahR C) aw))
theorem ahT (C:af):bB C (J6 C) 24 (Lp [1,1,1,0,1,0,0,1,1,0,0,1,1,1,0,1,0,0] 24):=bP Pu [EQ,EQ,H1,EQ,EQ,EQ,EQ,EQ,EQ,EQ,EQ,EQ,H1,EQ,EQ,EQ,EQ] [[1,2,0,4,5,0,6,7,8,9,10,11,12,0,14,15,16,17]] (@E2 C) (bu (bC (ahS C) aw))
theorem ahU (C:af):bB C (J6 C) 24 (Lp [1,1,1,0,1,0,0] 24):=bP Pv [EQ,EQ,H1,H1,H1,EQ,EQ,EQ,EQ,EQ,EQ,EQ,H1,H1] [[1,2,0,0,0,0,6,7,8,9,10,11,12,0,0]] (@E4 C) (bu (bC (ahT C) aw))
noncomputable def Xl (C:af) (bc:Int) (bI:LV) (bJ:Int):Option LV:=
 (C ot [V.int .i64 2,.list ab bI,V.int .i64 bJ]).bind fun r1=>
 (C yD [V.int .i64 bc,V.int .i64 (wrap .i64 (1+((V.nth r1 0).toInt)))]).bind fun r2=>
 (Loop (E5 C bc (((V.nth r2 0).toList).length:Int) 0 0 bc 0 ((V.nth r2 0).toList) ([]:LV) ([]:LV)) (0,(V.nth (r1.drop 1) 0).toList,(V.nth ((r1.drop 1).drop 1) 0).toInt,([]:LV),([]:LV))).bind (un fun JU=>un fun (yE:Bool)=>un fun (ahV:LV)=>un fun ahW=>un fun (p5:LV) (o9:LV)=>
  some [V.int .i64 bc,V.int .i64 0,.list ab ahV,V.int .i64 ahW,.list ar p5,.list ag o9])
theorem ahX {bc:Int} {bI:LV} {bJ:Int} {r:Option LV} (h:Xl CC bc bI bJ=r):CC J7 [V.int .i64 bc,.list ab bI,V.int .i64 bJ]=r:=bQ (bC (ahU CC) aw) h
section
variable {ws:List (List UInt8)} (hw:ws.length≤100)
include hw
theorem Xm {L a t23 t24 k x1 x2 x3 x4:Int} {w v:List UInt8} {y0 y1 y2 y3 y4 y5:LV} {to:Int} (uV:to= -1): ∃lz:Int,(lz= -1∧v∉ws∨∃i:Nat,i<ws.length∧lz=(i:Int))∧
  Loop (E1 CC L w a v t23 t24 (ws.length:Int) y0 k x1 x2 x3 x4 (ws.map V.str) y1 y2 y3 y4 y5) (to,0)=some (lz,(ws.length:Int),false):=by
 subst uV;have key:=jD (step:=E1 CC L w a v t23 t24 (ws.length:Int) y0 k x1 x2 x3 x4 (ws.map V.str) y1 y2 y3 y4 y5) (fun j x=> ∃lz:Int,(lz= -1∧v∉ws.take j∨∃i:Nat,i<ws.length∧lz=(i:Int))∧x=(lz,(j:Int)))
  (fun o=> ∃lz:Int,(lz= -1∧v∉ws∨∃i:Nat,i<ws.length∧lz=(i:Int))∧o=(lz,(ws.length:Int),false)) ws.length 0 ((-1:Int),0) (fun j _ hj x hx=> ?_) (fun x hx=> ?_) ⟨-1,.inl ⟨rfl,by simp⟩,rfl⟩
 ·obtain ⟨o,e,lz,h1,rfl⟩:=key;exact ⟨lz,h1,e⟩
 ·obtain ⟨lz,h1,rfl⟩:=hx;have dZ:j<ws.length:=by omega
  have hg:(ws.map V.str)[j]? =some (.str ws[j]):=by simp[dZ]
  simp only[E1,E0,un];by_cases c:(ws[j]==v)=true
  ·exact ⟨((j:Int),((j+1:Nat):Int)),bT (bh dZ) ((bX hg).trans (bT c (by rw[br (by omega)]))),(j:Int),.inr ⟨j,dZ,rfl⟩,rfl⟩
  ·have c:(ws[j]==v)=false:=by simpa using c
   refine ⟨(lz,((j+1:Nat):Int)),bT (bh dZ) ((bX hg).trans (bF c (by rw[br (by omega)]))),lz,?_,rfl⟩;rcases h1 with ⟨h1,h2⟩|h1
   ·refine .inl ⟨h1,fun hm=> ?_⟩;rw[N6 dZ] at hm;rcases eF.1 hm with hm|hm
    ·exact h2 hm
    ·rw[fu.1 hm] at c;simp at c
   ·exact .inr h1
 ·obtain ⟨lz,h1,rfl⟩:=hx;rw[dt] at*
  rw[vW] at h1;simp only[E1,E0,un];exact ⟨_,bF (aV (av _)) rfl,lz,h1,cK rfl (cK rfl (aV (av _)))⟩
theorem ahY {L a t23 t24 k x1 x2 x3 x4:Int} {w:List UInt8} {y0 y1 y2 y3 y4 y5:LV} {b:UInt8} (hb:[b]∈ws): ∀(p:List UInt8),∃(v:List UInt8) (i:Nat),i<ws.length∧
  Loop (yC CC L w a t23 t24 y0 k x1 x2 x3 x4 (ws.map V.str) y1 y2 y3 y4 y5) (p++[b],-1)=some (v,(i:Int),false):=by
 have fin: ∀{v:List UInt8} {i:Nat},Loop (yC CC L w a t23 t24 y0 k x1 x2 x3 x4 (ws.map V.str) y1 y2 y3 y4 y5) (v,(i:Int))=some (v,(i:Int),false):=fun {v i}=>by
  refine jX ?_;simp only[yC,yB,un];have hf:((i:Int)==(-1))=false:=by rw[ue];omega
  exact bF hf (by rw[hf])
 intro p
 induction p with
 | nil=>
  obtain ⟨lz,h1,e⟩:=Xm hw (L:=L) (a:=a) (t23:=t23) (t24:=t24) (k:=k) (x1:=x1) (x2:=x2) (x3:=x3) (x4:=x4) (w:=w) (v:=[b]) (y0:=y0) (y1:=y1) (y2:=y2) (y3:=y3) (y4:=y4) (y5:=y5) rfl;rcases h1 with ⟨_,h1⟩|⟨i,hi,rfl⟩
  ·exact absurd hb h1
  ·refine ⟨[],i,hi,(iR (y:=([],(i:Int))) ?_).trans fin⟩;simp only[yC,yB,un];rw[db];refine bT rfl (bs e ?_);simp only[un];exact bT rfl rfl
 | cons c p ih=>
  obtain ⟨lz,h1,e⟩:=Xm hw (L:=L) (a:=a) (t23:=t23) (t24:=t24) (k:=k) (x1:=x1) (x2:=x2) (x3:=x3) (x4:=x4) (w:=w) (v:=c::(p++[b])) (y0:=y0) (y1:=y1) (y2:=y2) (y3:=y3) (y4:=y4) (y5:=y5) rfl;have hlen:decide (1≤(((c::(p++[b])).length:Nat):Int))=true:=cp (by simp;omega);have Xn:((c::(p++[b])).drop 1).take ((c::(p++[b])).length-1)=p++[b]:=by
   show (p++[b]).take _=_;exact List.take_of_length_le (by simp)
  rcases h1 with ⟨rfl,_⟩|⟨i,hi,rfl⟩
  ·obtain ⟨v,i,hi,e2⟩:=ih;refine ⟨v,i,hi,(iR ?_).trans e2⟩;simp only[yC,yB,un,List.cons_append];rw[db];refine bT rfl (bs e (bT hlen ?_));rw[Xn]
  ·refine ⟨p++[b],i,hi,(iR ?_).trans fin⟩;simp only[yC,yB,un,List.cons_append];rw[db];refine bT rfl (bs e (bT hlen ?_));rw[Xn]
end
theorem ahZ {ws:List (List UInt8)} (hw:ws.length≤100) (hwl: ∀w∈ws,w.length≤100) {L:Nat} (hL:L≤2) (ah0: ∀a,a<L→[UInt8.ofNat (97+a)]∈ws) (t:Tp): ∃(F:List Bool) (N:List (List Nat)) (u:Tp),F.length=ws.length∧N.length=ws.length∧(∀r∈N,r.length=L∧∀y∈r,y<ws.length)∧
  Loop (E5 CC (L:Int) (ws.length:Int) 0 0 (L:Int) 0 (ws.map V.str) [] []) (0,t.l.map iV,(t.k:Int),([]:LV),([]:LV))=some ((ws.length:Int),false,u.l.map iV,(u.k:Int),F.map V.bool,cM N):=by
 have ah1: ∀a:Nat,a<L→lb ([.int .u8 (wrap .u8 (wrap .i64 (97+(a:Int))))]:LV)=[UInt8.ofNat (97+a)]:=fun a ha=>by
  rcases (by omega:a=0∨a=1) with rfl|rfl<;>rfl
 have row: ∀{w:List UInt8} (hwi:w.length≤100) {x1 x2 x3 x4 x5 x6 x7:Int} {y0 y1 y2 y3 y4:LV},∃r:List Nat,r.length=L∧(∀y∈r,y<ws.length)∧
   Loop (E3 CC (L:Int) w x1 x2 y0 x3 x4 x5 x6 x7 (ws.map V.str) y1 y2 y3 y4) (0,([]:LV))=some ((L:Int),false,nS r):=by
  intro w hwi x1 x2 x3 x4 x5 x6 x7 y0 y1 y2 y3 y4;have key:=jD (step:=E3 CC (L:Int) w x1 x2 y0 x3 x4 x5 x6 x7 (ws.map V.str) y1 y2 y3 y4) (fun a x=> ∃r:List Nat,r.length=a∧(∀y∈r,y<ws.length)∧x=((a:Int),nS r))
   (fun o=> ∃r:List Nat,r.length=L∧(∀y∈r,y<ws.length)∧o=((L:Int),false,nS r)) L 0 (0,nS []) (fun a _ ha x hx=> ?_) (fun x hx=> ?_) ⟨[],rfl,fun _ h=>(by cases h),rfl⟩
  ·obtain ⟨o,e,r,a1,a2,rfl⟩:=key;exact ⟨r,a1,a2,e⟩
  ·obtain ⟨r,a1,a2,rfl⟩:=hx;have Pw:a<L:=by omega
   obtain ⟨v,i,hi,e⟩:=ahY hw (ah0 a Pw) (L:=(L:Int)) (a:=(a:Int)) (t23:=x1) (t24:=x2) (k:=x3) (x1:=x4) (x2:=x5) (x3:=x6) (x4:=x7) (w:=w) (y0:=y0) (y1:=nS r) (y2:=y1) (y3:=y2) (y4:=y3) (y5:=y4) w;simp only[E3,E2,un];rw[ah1 a Pw];refine ⟨(((a+1:Nat):Int),nS (r++[i])),bT (bh Pw) (bT (xH (by unfold oT;simp;omega)) (bs e ?_)),r++[i],by simp;omega,fun y hy=> ?_,rfl⟩
   ·simp only[un];refine bT (cap (a:=(nS r).length) (b:=1) (by rw[dy];omega) (by omega)) ?_;rw[br (by omega)];simp[nS,nV]
   ·rcases eF.1 hy with hy|hy
    ·exact a2 y hy
    ·rw[fu.1 hy];exact hi
  ·obtain ⟨r,a1,a2,rfl⟩:=hx;rw[dt] at*
   simp only[E3,E2,un];exact ⟨_,bF (aV (av _)) rfl,r,a1,a2,cK rfl (cK (aV (av _)) rfl)⟩
 have key:=jD (step:=E5 CC (L:Int) (ws.length:Int) 0 0 (L:Int) 0 (ws.map V.str) [] []) (fun i x=> ∃(F:List Bool) (N:List (List Nat)) (u:Tp),F.length=i∧N.length=i∧(∀r∈N,r.length=L∧∀y∈r,y<ws.length)∧x=((i:Int),u.l.map iV,(u.k:Int),F.map V.bool,cM N))
  (fun o=> ∃(F:List Bool) (N:List (List Nat)) (u:Tp),F.length=ws.length∧N.length=ws.length∧(∀r∈N,r.length=L∧∀y∈r,y<ws.length)∧o=((ws.length:Int),false,u.l.map iV,(u.k:Int),F.map V.bool,cM N)) ws.length 0 (0,t.l.map iV,(t.k:Int),([]:LV),([]:LV)) (fun i _ hi x hx=> ?_) (fun x hx=> ?_) ⟨[],[],t,rfl,rfl,fun _ h=>(by cases h),rfl⟩
 ·obtain ⟨o,e,F,N,u,a1,a2,a3,rfl⟩:=key;exact ⟨F,N,u,a1,a2,a3,e⟩
 ·obtain ⟨F,N,u,a1,a2,a3,rfl⟩:=hx;have bp:i<ws.length:=by omega
  obtain ⟨k,u2,hk,e⟩:=qO u (n:=2) (by omega) (by omega);have hg:(ws.map V.str)[i]? =some (.str ws[i]):=by simp[bp]
  obtain ⟨r,b1,b2,er⟩:=row (hwl _ (dm bp)) (x1:=(ws.length:Int)) (x2:=(i:Int)) (x3:=(u2.k:Int)) (x4:=0) (x5:=0) (x6:=(L:Int)) (x7:=0) (y0:=u2.l.map iV) (y1:=[]) (y2:=[]) (y3:=F.map V.bool++[.bool ((k:Int)==1)]) (y4:=cM N);simp only[E5,E4,un];refine ⟨(((i+1:Nat):Int),u2.l.map iV,(u2.k:Int),F.map V.bool++[.bool ((k:Int)==1)],cM N++[.list ab (nS r)]),bT (bh bp) ((bX hg).trans (bs e (bT (cap (a:=(F.map V.bool).length) (b:=1) (by rw[db];omega) (by omega)) (bs er ?_)))),F++[(k:Int)==1],N++[r],u2,by simp;omega,by simp;omega,fun s hs=> ?_,?_⟩
  ·simp only[un];refine bT (cap (a:=(cM N).length) (b:=1) (by rw[Pl];omega) (by omega)) ?_;rw[br (by omega)];rfl
  ·rcases eF.1 hs with hs|hs
   ·exact a3 s hs
   ·rw[fu.1 hs];exact ⟨b1,b2⟩
  ·simp[cM]
 ·obtain ⟨F,N,u,a1,a2,a3,rfl⟩:=hx;rw[dt] at*
  simp only[E5,E4,un];exact ⟨_,bF (aV (av _)) rfl,F,N,u,a1,a2,a3,cK rfl (cK (aV (av _)) rfl)⟩
noncomputable def BD (C:af) (bc dP:Int) (bI:LV) (bJ:Int):Option LV:=
 (C ot [V.int .i64 6,.list ab bI,V.int .i64 bJ]).bind fun r1=>
 bif (((V.nth r1 0).toInt):Int)==1 then
  (C JV [V.int .i64 bc,V.int .i64 dP,.list ab ((V.nth (r1.drop 1) 0).toList),V.int .i64 ((V.nth ((r1.drop 1).drop 1) 0).toInt)]).bind fun r2=>
  some [V.int .i64 ((V.nth r2 0).toInt),V.int .i64 ((V.nth (r2.drop 1) 0).toInt),.list ab ((V.nth (r2.drop 2) 0).toList),V.int .i64 ((V.nth ((r2.drop 2).drop 1) 0).toInt),.list ar ((V.nth ((r2.drop 2).drop 2) 0).toList),.list ag ((V.nth (((r2.drop 2).drop 2).drop 1) 0).toList)]
 else
  bif (((V.nth r1 0).toInt):Int)==2 then
  (C J5 [V.int .i64 bc,V.int .i64 (if 4<dP then 4 else dP),.list ab ((V.nth (r1.drop 1) 0).toList),V.int .i64 ((V.nth ((r1.drop 1).drop 1) 0).toInt)]).bind fun r3=>
  some [V.int .i64 ((V.nth r3 0).toInt),V.int .i64 ((V.nth (r3.drop 1) 0).toInt),.list ab ((V.nth (r3.drop 2) 0).toList),V.int .i64 ((V.nth ((r3.drop 2).drop 1) 0).toInt),.list ar ((V.nth ((r3.drop 2).drop 2) 0).toList),.list ag ((V.nth (((r3.drop 2).drop 2).drop 1) 0).toList)]
  else
  bif (((V.nth r1 0).toInt):Int)==3 then
   (C J7 [V.int .i64 bc,.list ab ((V.nth (r1.drop 1) 0).toList),V.int .i64 ((V.nth ((r1.drop 1).drop 1) 0).toInt)]).bind fun r4=>
   some [V.int .i64 ((V.nth r4 0).toInt),V.int .i64 ((V.nth (r4.drop 1) 0).toInt),.list ab ((V.nth (r4.drop 2) 0).toList),V.int .i64 ((V.nth ((r4.drop 2).drop 1) 0).toInt),.list ar ((V.nth ((r4.drop 2).drop 2) 0).toList),.list ag ((V.nth (((r4.drop 2).drop 2).drop 1) 0).toList)]
  else
   (C EN [V.int .i64 bc,V.int .i64 dP,.list ab ((V.nth (r1.drop 1) 0).toList),V.int .i64 ((V.nth ((r1.drop 1).drop 1) 0).toInt)]).bind fun r5=>
   some [V.int .i64 ((V.nth r5 0).toInt),V.int .i64 ((V.nth (r5.drop 1) 0).toInt),.list ab ((V.nth (r5.drop 2) 0).toList),V.int .i64 ((V.nth ((r5.drop 2).drop 1) 0).toInt),.list ar ((V.nth ((r5.drop 2).drop 2) 0).toList),.list ag ((V.nth (((r5.drop 2).drop 2).drop 1) 0).toList)]
theorem ah2 {bc dP:Int} {bI:LV} {bJ:Int} {r:Option LV} (h:BD CC bc dP bI bJ=r):CC E6 [V.int .i64 bc,V.int .i64 dP,.list ab bI,V.int .i64 bJ]=r:=bQ (L:=bO) aw h
noncomputable def Xo (C:af) (bI:LV) (bJ:Int):Option LV:=
 (C ot [V.int .i64 8,.list ab bI,V.int .i64 bJ]).bind fun r1=>
 some [V.int .i64 (wrap .i64 (2-(wrap .i64 (Int.tdiv ((V.nth r1 0).toInt) 7)))),.list ab ((V.nth (r1.drop 1) 0).toList),V.int .i64 ((V.nth ((r1.drop 1).drop 1) 0).toInt)]
theorem ah3 {bI:LV} {bJ:Int} {r:Option LV} (h:Xo CC bI bJ=r):CC J8 [.list ab bI,V.int .i64 bJ]=r:=bQ (L:=bO) aw h
noncomputable def Xp (C:af) (l:LV) (dP:Int):Option LV:=
 (C JP [.list ab l]).bind fun r1=>
 (C J8 [.list ab ((V.nth r1 0).toList),V.int .i64 ((V.nth (r1.drop 1) 0).toInt)]).bind fun r2=>
 (C E6 [V.int .i64 ((V.nth r2 0).toInt),V.int .i64 dP,.list ab ((V.nth (r2.drop 1) 0).toList),V.int .i64 ((V.nth ((r2.drop 1).drop 1) 0).toInt)]).bind fun r3=>
 some [V.int .i64 ((V.nth r3 0).toInt),V.int .i64 ((V.nth (r3.drop 1) 0).toInt),.list ar ((V.nth ((r3.drop 2).drop 2) 0).toList),.list ag ((V.nth (((r3.drop 2).drop 2).drop 1) 0).toList)]
theorem ah4 {l:LV} {dP:Int} {r:Option LV} (h:Xp CC l dP=r):CC J9 [.list ab l,V.int .i64 dP]=r:=bQ (L:=bO) aw h
def BE (L k:Nat):List (List UInt8):=
 if L=1 then (if k=1 then [[],[97]] else [[],[97],[97,97]])
 else (if k=1 then [[],[97],[98]] else [[],[97],[98],[97,97],[97,98],[98,97],[98,98]])
theorem ah5:CC yD [.int .i64 1,.int .i64 1]=some [.list bZ [.str [],.str [97]]]:=aD (N:=60) (n:=30) (by kernel_rfl)
theorem ah6:CC yD [.int .i64 1,.int .i64 2]=some [.list bZ [.str [],.str [97],.str [97,97]]]:=aD (N:=60) (n:=30) (by kernel_rfl)
theorem ah7:CC yD [.int .i64 2,.int .i64 1]=some [.list bZ [.str [],.str [97],.str [98]]]:=aD (N:=60) (n:=30) (by kernel_rfl)
theorem ah8:CC yD [.int .i64 2,.int .i64 2]=some [.list bZ [.str [],.str [97],.str [98],.str [97,97],.str [97,98],.str [98,97],.str [98,98]]]:=aD (N:=60) (n:=30) (by kernel_rfl)
theorem ah9 {L k:Nat} (h1:1≤L) (h2:L≤2) (k1:1≤k) (k2:k≤2):CC yD [.int .i64 (L:Int),.int .i64 (k:Int)]=some [.list bZ ((BE L k).map V.str)]:=by
 rcases (by omega:L=1∨L=2) with rfl|rfl<;>rcases (by omega:k=1∨k=2) with rfl|rfl
 ·exact ah5
 ·exact ah6
 ·exact ah7
 ·exact ah8
theorem aia {L k:Nat} (h1:1≤L) (h2:L≤2) (k1:1≤k) (k2:k≤2):1≤(BE L k).length∧(BE L k).length≤7∧(∀w∈BE L k,w.length≤100)∧∀a,a<L→[UInt8.ofNat (97+a)]∈BE L k:=by
 rcases (by omega:L=1∨L=2) with rfl|rfl<;>rcases (by omega:k=1∨k=2) with rfl|rfl<;>decide
theorem aib (t:Tp) {L:Nat} (h1:1≤L) (h2:L≤2): ∃(F:List Bool) (N:List (List Nat)) (u:Tp),FN L F N∧N.length≤7∧
  CC J7 [.int .i64 (L:Int),t.L,t.K]=some [.int .i64 (L:Int),.int .i64 0,u.L,u.K,.list ar (F.map V.bool),.list ag (cM N)]:=by
 obtain ⟨v,t1,hv,e1⟩:=qO t (n:=2) (by omega) (by omega);obtain ⟨w1,w2,w3,w4⟩:=aia (L:=L) (k:=v+1) h1 h2 (by omega) (by omega);have hW:=ah9 (L:=L) (k:=v+1) h1 h2 (by omega) (by omega);generalize BE L (v+1)=ws at*
 obtain ⟨F,N,u,a1,a2,a3,e⟩:=ahZ (ws:=ws) (by omega) w3 h2 w4 t1;refine ⟨F,N,u,⟨by omega,by omega,fun r hr=>by rw[a2];exact a3 r hr⟩,by omega,ahX ?_⟩;unfold Xl;have hw:wrap .i64 (1+(V.nth [V.int .i64 (v:Int),t1.L,t1.K] 0).toInt)=((v+1:Nat):Int):=by
  show wrap .i64 (1+(v:Int))=_;rw[show (1+(v:Int))=((v+1:Nat):Int) by omega];exact wrap64 (by omega) (by omega)
 refine bs e1 ?_;rw[hw];refine bs hW ?_;have hl:((V.nth [V.list bZ (ws.map V.str)] 0).toList.length:Int)=(ws.length:Int):=by show ((ws.map V.str).length:Int)=_;rw[db]
 rw[hl];exact bs e rfl
theorem aic (t:Tp) {L m:Nat} (h1:1≤L) (h2:L≤2) (hm:1≤m) (sX:m≤4): ∃(F:List Bool) (N:List (List Nat)) (st:Nat) (u:Tp),FN L F N∧N.length≤7∧st<N.length∧
  CC E6 [.int .i64 (L:Int),.int .i64 (m:Int),t.L,t.K]=some [.int .i64 (L:Int),.int .i64 (st:Int),u.L,u.K,.list ar (F.map V.bool),.list ag (cM N)]:=by
 obtain ⟨v,t1,hv,e1⟩:=qO t (n:=6) (by omega) (by omega);have A: ∀z,BD CC (L:Int) (m:Int) (t.l.map iV) (t.k:Int)=z→CC E6 [.int .i64 (L:Int),.int .i64 (m:Int),t.L,t.K]=z:=fun z h=>ah2 h;have BF: ∀k:Nat,v≠k→((V.nth [V.int .i64 (v:Int),t1.L,t1.K] 0).toInt==(k:Int))=false:=fun k hk=>by
  show ((v:Int)==(k:Int))=false;rw[ue];omega
 by_cases c1:v=1
 ·subst c1;obtain ⟨F,N,u,a1,a2,e⟩:=ahA t1 h1 (L:=L) (m:=m) (by omega) hm (by omega);refine ⟨F,N,0,u,a1,by omega,a1.pos,A _ ?_⟩;unfold BD;exact bs e1 (bT rfl (bs e rfl))
 by_cases c2:v=2
 ·subst c2;obtain ⟨F,N,st,u,a1,a2,a3,e⟩:=ahO t1 h1 (L:=L) (m:=m) (by omega) hm (by omega);refine ⟨F,N,st,u,a1,by omega,a3,A _ ?_⟩;unfold BD;have Ka:(if (4:Int)<(m:Int) then (4:Int) else (m:Int))=(m:Int):=aF (by omega);refine bs e1 (bF (BF 1 (by omega)) (bT rfl ?_));rw[Ka];exact bs e rfl
 by_cases c3:v=3
 ·subst c3;obtain ⟨F,N,u,a1,a2,e⟩:=aib t1 h1 h2;refine ⟨F,N,0,u,a1,a2,a1.pos,A _ ?_⟩;unfold BD;exact bs e1 (bF (BF 1 (by omega)) (bF (BF 2 (by omega)) (bT rfl (bs e rfl))))
 ·obtain ⟨F,N,st,u,a1,a2,a3,e⟩:=Xc t1 h1 (L:=L) (m:=m) (by omega) hm (by omega);refine ⟨F,N,st,u,a1,by omega,a3,A _ ?_⟩;unfold BD;exact bs e1 (bF (BF 1 c1) (bF (BF 2 c2) (bF (BF 3 c3) (bs e rfl))))
theorem aid (t:Tp): ∃(L:Nat) (u:Tp),1≤L∧L≤2∧CC J8 [t.L,t.K]=some [.int .i64 (L:Int),u.L,u.K]:=by
 obtain ⟨v,t1,hv,e1⟩:=qO t (n:=8) (by omega) (by omega);have key: ∀v:Nat,v<8→∃L:Nat,1≤L∧L≤2∧wrap .i64 (2-(wrap .i64 (Int.tdiv ((v:Nat):Int) 7)))=(L:Int):=fun v hv=>by
  rcases (by omega:v=0∨v=1∨v=2∨v=3∨v=4∨v=5∨v=6∨v=7) with rfl|rfl|rfl|rfl|rfl|rfl|rfl|rfl
  all_goals first|exact ⟨2,by omega,by omega,by decide⟩|exact ⟨1,by omega,by omega,by decide⟩
 obtain ⟨L,h1,h2,hL⟩:=key v hv;refine ⟨L,t1,h1,h2,ah3 ?_⟩;unfold Xo;refine bs e1 ?_;show some [V.int .i64 (wrap .i64 (2-(wrap .i64 (Int.tdiv ((v:Nat):Int) 7)))),_,_]=_;rw[hL];rfl
theorem aie (l:List Int) {m:Nat} (hm:1≤m) (sX:m≤4): ∃a:Da,a.Ok∧a.L≤2∧a.n≤7∧CC J9 [.list ab (l.map iV),.int .i64 (m:Int)]=some (dK a):=by
 obtain ⟨t,e0⟩:=ahm l;obtain ⟨L,t1,h1,h2,e1⟩:=aid t;obtain ⟨F,N,st,u,hF,hN,hs,e2⟩:=aic t1 h1 h2 hm sX;have ao:=hF.ok h1 (by omega) hs (by omega);refine ⟨⟨L,st,F,N⟩,ao,h2,by show F.length≤7;rw[hF.len];exact hN,?_⟩;rw[FN.leaves ao];refine ah4 ?_;unfold Xp;exact bs e0 (bs e1 (bs e2 rfl))
inductive wR (mul:Nat→Nat→Nat) (G:List Nat):Nat→Prop
 | one {g:Nat}:g∈G→wR mul G g
 | more {x g:Nat}:wR mul G x→g∈G→wR mul G (mul x g)
theorem wR.mono {mul:Nat→Nat→Nat} {G H:List Nat} (h: ∀g∈G,g∈H) {x:Nat} (hx:wR mul G x):wR mul H x:=by
 induction hx with
 | one hg=>exact .one (h _ hg)
 | more _ hg ih=>exact .more ih (h _ hg)
structure ClI (K:Nat) (mul:Nat→Nat→Nat) (G M:List Nat):Prop where
 gd:nc K M
 sub: ∀g∈G,g∈M
 pr: ∀x∈M,wR mul G x
 cl: ∀x∈M,∀g∈G,mul x g∈M
 gl:G.length≤M.length
end Go.AM
set_option maxRecDepth 100000
namespace Go.AM
open Go.IntKind (wrap)
open Go.Proofs Go.Sort
end Go.AM
set_option maxRecDepth 100000
namespace Go.AM
open Go.IntKind (wrap)
open Go.Proofs
structure Kb (K:Nat) (mul:Nat→Nat→Nat) (G Z:List Nat):Prop where
 asc:Z.Pairwise (· < ·)
 lt: ∀x∈Z,x<K
 sub: ∀g∈G,g∈Z
 pr: ∀x∈Z,wR mul G x
 cl: ∀x∈Z,∀y∈Z,mul x y∈Z
section
variable {K:Nat} {mul:Nat→Nat→Nat} (h:Tb K mul) (ha: ∀i j k,i<K→j<K→k<K→mul (mul i j) k=mul i (mul j k))
include ha
end
theorem aif {Z:List Nat} (h:Z.Pairwise (· < ·)):Z.Nodup:=h.imp fun h=>by omega
section
variable {K:Nat} {mul:Nat→Nat→Nat} {G Z:List Nat} (h:Tb K mul) (ha: ∀i j k,i<K→j<K→k<K→mul (mul i j) k=mul i (mul j k)) (hZ:Kb K mul G Z)
include hZ
theorem Kb.le:Z.length≤K:=nc.le ⟨aif hZ.asc,hZ.lt⟩
include h
end
end Go.AM
set_option maxRecDepth 100000
namespace Go.AM
open Go.IntKind (wrap)
open Go.Proofs
namespace Da
theorem EH.reach {d:Da} (h1:1≤d.L) (h:d.EH): ∀t,t≤d.n*d.L→∀q,q<d.mt t→∃w,WL d.L w∧d.run 0 w=q
 | 0,_,q,hq=>⟨[],WL.nil,by have:q<1:=hq;show 0=q;omega⟩
 | t+1,ht,q,hq=>by
  have ih:=h.reach h1 t (by omega);rcases js q (d.mt t) with c|c
  ·exact ih q c
  ·have e:d.pos t=q:=by
    unfold mt at hq;split at hq
    ·rename_i h3;omega
    ·omega
   have hx:t %d.L<d.L:=xI _ (by omega);have hp:t/d.L<d.n:=by rw[IA (by omega)];omega
   have h2:=h.row _ hp;have h3:=d.Kd (Nat.div_mul_le_self t d.L);obtain ⟨w,hw,hr⟩:=ih (t/d.L) (by omega);refine ⟨w++[t %d.L],WL.app.2 ⟨hw,WL.nil.cons hx⟩,?_⟩;rw[Xq,hr];exact e
end Da
theorem aih {a:Da} (h:a.Ok) {q:Nat} (hq:q<(minD a).n): ∃w,WL a.L w∧(minD a).run (minD a).st w=q:=by
 have hc:=uO h;obtain ⟨w,hw,hr⟩:=hc.num.reach (rW h).l1 _ (av _) q (by rw[hc.num.all];exact hq);exact ⟨w,by rw[Bx h] at hw;exact hw,by rw[Xr h];exact hr⟩
end Go.AM
set_option maxRecDepth 100000
namespace Go.AM
open Go.IntKind (wrap)
open Go.Proofs
theorem aii {f:Nat→Nat} {n:Nat} (h: ∀p q,p<n→q<n→f p=f q→p=q):((List.range n).map f).Nodup:=by
 refine List.pairwise_map.2 (List.nodup_range.imp_of_mem fun {a b} ha hb bH e=>bH ?_);exact h a b (iD.1 ha) (iD.1 hb) e
theorem aij {a:Da} (h:a.Ok):(minD a).n≤a.n:=by
 have hc:=uO h;have hL:=Bx h;have hex: ∀q:Nat,∃w,q<(minD a).n→WL a.L w∧(minD a).run (minD a).st w=q:=fun q=>by
  by_cases c:q<(minD a).n
  ·obtain ⟨w,h1,h2⟩:=aih h c;exact ⟨w,fun _=>⟨h1,h2⟩⟩
  ·exact ⟨[],fun c2=>absurd c2 c⟩
 obtain ⟨W,hW⟩:=Classical.axiomOfChoice hex;have key:=AK (l₁:=(List.range (minD a).n).map fun q=>a.run a.st (W q)) (l₂:=List.range a.n) (aii fun p q hp hq e=> ?_) fun x hx=> ?_
 ·simpa using key
 ·obtain ⟨p1,p2⟩:=hW p hp;obtain ⟨q1,q2⟩:=hW q hq;refine hc.red p q hp hq fun w hw=> ?_;rw[hL] at hw;rw[←p2,←q2,←Da.Ke,←Da.Ke,JM h (WL.app.2 ⟨p1,hw⟩),JM h (WL.app.2 ⟨q1,hw⟩),Da.Ke,Da.Ke,e]
 ·obtain ⟨q,hq,rfl⟩:=iQ.1 hx;exact iD.2 (h.JI _ h.s (hW q (iD.1 hq)).1)
section
variable {m:Da} (hm:m.Ok) {S:List (List Nat)} (hS:pX m S) {k:Nat} (h1:1≤k) (h6:k≤6) {g:Nat→List Nat} (hg: ∀x,x<k→WL m.L (g x)) {S2:List (List Nat)} (hS2:pX (minD (m.pre k g)) S2)
def vals (m:Da) (S:List (List Nat)) (k:Nat) (g:Nat→List Nat):List Nat:=0::(List.range k).map fun x=>vl m S (g x)
section
variable {Z:List Nat} (hZ:Kb S.length (fP S) (vals m S k g) Z)
include hZ
end
end
section
variable {K:Nat} {mul:Nat→Nat→Nat} {G Z:List Nat} (hZ:Kb K mul G Z)
include hZ
end
noncomputable def Xs (C:af) (l:LV):Option LV:=
 (C J9 [.list ab l,V.int .i64 3]).bind fun r1=>
 (C wI [V.int .i64 ((V.nth r1 0).toInt),V.int .i64 ((V.nth (r1.drop 1) 0).toInt),.list ar ((V.nth (r1.drop 2) 0).toList),.list ag ((V.nth ((r1.drop 2).drop 1) 0).toList)]).bind fun r2=>
 bif (V.nth r2 0).toBool then
  (C Bv [V.int .i64 ((V.nth r1 0).toInt),V.int .i64 ((V.nth (r1.drop 1) 0).toInt),.list ar ((V.nth (r1.drop 2) 0).toList),.list ag ((V.nth ((r1.drop 2).drop 1) 0).toList)]).bind fun r3=>
  (C wI [V.int .i64 ((V.nth r3 0).toInt),V.int .i64 ((V.nth (r3.drop 1) 0).toInt),.list ar ((V.nth (r3.drop 2) 0).toList),.list ag ((V.nth ((r3.drop 2).drop 1) 0).toList)]).bind fun r4=>
  bif (V.nth r4 0).toBool then
  bif ((V.nth ((r2.drop 1).drop 2) 0).toBool)==((V.nth ((r4.drop 1).drop 2) 0).toBool) then
   (C yl [.list ab ((((V.nth ((r2.drop 1).drop 3) 0).toList).drop (jQ (V.nth (r2.drop 1) 0))).take (jQ (V.nth (r2.drop 1) 1))),.list ab ((((V.nth ((r4.drop 1).drop 3) 0).toList).drop (jQ (V.nth (r4.drop 1) 0))).take (jQ (V.nth (r4.drop 1) 1)))]).bind fun r5=>
   bif (V.nth r5 0).toBool then
   (C yF []).bind fun r6=>
   some [.bool ((V.nth r6 0).toBool)]
   else
   some [.bool false]
  else
   some [.bool false]
  else
  bif ((V.nth ((r2.drop 1).drop 2) 0).toBool)==((V.nth (r4.drop 1) 0).toBool) then
   (C yl [.list ab ((((V.nth ((r2.drop 1).drop 3) 0).toList).drop (jQ (V.nth (r2.drop 1) 0))).take (jQ (V.nth (r2.drop 1) 1))),.list ab ((V.nth ((r4.drop 1).drop 1) 0).toList)]).bind fun r7=>
   bif (V.nth r7 0).toBool then
   (C yF []).bind fun r8=>
   some [.bool ((V.nth r8 0).toBool)]
   else
   some [.bool false]
  else
   some [.bool false]
 else
  (C Bv [V.int .i64 ((V.nth r1 0).toInt),V.int .i64 ((V.nth (r1.drop 1) 0).toInt),.list ar ((V.nth (r1.drop 2) 0).toList),.list ag ((V.nth ((r1.drop 2).drop 1) 0).toList)]).bind fun r9=>
  (C wI [V.int .i64 ((V.nth r9 0).toInt),V.int .i64 ((V.nth (r9.drop 1) 0).toInt),.list ar ((V.nth (r9.drop 2) 0).toList),.list ag ((V.nth ((r9.drop 2).drop 1) 0).toList)]).bind fun eb=>
  bif (V.nth eb 0).toBool then
  bif ((V.nth (r2.drop 1) 0).toBool)==((V.nth ((eb.drop 1).drop 2) 0).toBool) then
   (C yl [.list ab ((V.nth ((r2.drop 1).drop 1) 0).toList),.list ab ((((V.nth ((eb.drop 1).drop 3) 0).toList).drop (jQ (V.nth (eb.drop 1) 0))).take (jQ (V.nth (eb.drop 1) 1)))]).bind fun cx=>
   bif (V.nth cx 0).toBool then
   (C yF []).bind fun tc=>
   some [.bool ((V.nth tc 0).toBool)]
   else
   some [.bool false]
  else
   some [.bool false]
  else
  bif ((V.nth (r2.drop 1) 0).toBool)==((V.nth (eb.drop 1) 0).toBool) then
   (C yl [.list ab ((V.nth ((r2.drop 1).drop 1) 0).toList),.list ab ((V.nth ((eb.drop 1).drop 1) 0).toList)]).bind fun gz=>
   bif (V.nth gz 0).toBool then
   (C yF []).bind fun r14=>
   some [.bool ((V.nth r14 0).toBool)]
   else
   some [.bool false]
  else
   some [.bool false]
theorem aik {l:LV} {r:Option LV} (h:Xs CC l=r):CC Px [.list ab l]=r:=bQ (L:=bO) aw h
theorem ail {a:Da} (ha:a.Ok) (fA:(minD a).n≤32): ∃r:LV,CC wI (dK a)=some r∧CC wI (dK (gH a))=some r∧(r=[.bool false,.bool false,.list ab []]∨∃l:LV,l.length≤17∧r=[.bool true,fv 0,fv 16,.bool true,.list ab l]):=by
 obtain ⟨z,l,hl,e1,e2⟩:=ahj agK ha fA;have A: ∀{a:Da} z,wH CC (a.L:Int) (a.st:Int) a.dU a.eh=z→CC wI (dK a)=z:=fun z h=>ag1 h;by_cases c1:(z != 0)=true
 ·refine ⟨_,A _ ?_,A _ ?_,.inl rfl⟩
  ·unfold wH;exact bs e1 (bT c1 rfl)
  ·unfold wH;exact bs e2 (bT c1 rfl)
 have c1:(z != 0)=false:=by simpa using c1
 by_cases c2:((l.length:Int) != 17)=true
 ·refine ⟨_,A _ ?_,A _ ?_,.inl rfl⟩
  ·unfold wH;exact bs e1 (bF c1 (bT c2 rfl))
  ·unfold wH;exact bs e2 (bF c1 (bT c2 rfl))
 have c2:((l.length:Int) != 17)=false:=by simpa using c2
 have h17:(l.length:Int)=17:=by simpa using c2
 refine ⟨_,A _ ?_,A _ ?_,.inr ⟨l,hl,rfl⟩⟩
 ·unfold wH;exact bs e1 (bF c1 (bF c2 (bT (cp (show (16:Int)≤(l.length:Int) by omega)) rfl)))
 ·unfold wH;exact bs e2 (bF c1 (bF c2 (bT (cp (show (16:Int)≤(l.length:Int) by omega)) rfl)))
theorem afE (l:List Int):CC Px [.list ab (l.map iV)]=some [.bool true]:=by
 obtain ⟨a,ha,hL,hn,e0⟩:=aie l (m:=3) (by omega) (by omega);have eC:CC Bv (dK a)=some (dK (gH a)):=ahd ha;obtain ⟨r,e1,e2,hr⟩:=ail ha (oc (aij ha) (by omega));refine aik ?_;unfold Xs;refine bs e0 (bs e1 ?_);rcases hr with rfl|⟨v,hv,rfl⟩
 ·exact bF rfl (bs eC (bs e2 (bF rfl (bT rfl (bs (WH (l:=[]) (by simp)) (bT rfl (bs Xt rfl)))))))
 ·refine bT rfl (bs eC (bs e2 (bT rfl (bT rfl ?_))));exact bs (WH (by simp;omega)) (bT rfl (bs Xt rfl))
end Go.AM
set_option maxRecDepth 100000
namespace Go.AM
open Go.IntKind (wrap)
theorem WT.aim {P:Program} {t:TypeId} {x:V} (hu:P.underlying t=some (.int .i64)) (h:WT P t x): ∃n:Int,x= .int .i64 n∧ -9223372036854775808≤n∧n≤9223372036854775807:=by
 obtain ⟨n,rfl,h1,h2⟩:=h.fM hu;have e1:IntKind.min .i64= -9223372036854775808:=by decide
 have e2:IntKind.max .i64=9223372036854775807:=by decide
 rw[e1] at h1;rw[e2] at h2;exact ⟨n,rfl,h1,h2⟩
theorem WT.Py {P:Program} {t:TypeId} {x:V} (hu:P.underlying t=some (.int .u8)) (h:WT P t x): ∃n:Int,x= .int .u8 n∧0≤n∧n≤255:=by
 obtain ⟨n,rfl,h1,h2⟩:=h.fM hu;have e1:IntKind.min .u8=0:=by decide
 have e2:IntKind.max .u8=255:=by decide
 rw[e1] at h1;rw[e2] at h2;exact ⟨n,rfl,h1,h2⟩
end Go.AM
set_option maxRecDepth 100000
namespace Go.AM
open Go.IntKind (wrap)
open Go.Proofs
def VC (r:List Int):V:= .list ab (r.map fun n=> .int .i64 n)
theorem afD {t:TypeId} {x:V} (hu:Tryz.prog.underlying t=some (.slice ab)) (hi:Tryz.prog.underlying ab=some (.int .i64)) (h:nf Tryz.prog t x): ∃r:List Int,x=VC r∧(r.length≤maxLen∧∀q∈r,-9223372036854775808≤q∧q≤9223372036854775807):=by
 obtain ⟨es,rfl,e1,e2⟩:=WT.ain hu (nf.one (by simp[bY,hu]) h);obtain ⟨r,rfl,hr⟩:=Xu (f:=fun n=>V.int .i64 n) (p:=fun q=> -9223372036854775808≤q∧q≤9223372036854775807) fun y hy=>WT.aim hi (nf.one (by simp[bY,hi]) (e2 y hy));exact ⟨r,rfl,by simpa using e1,hr⟩
end Go.AM
