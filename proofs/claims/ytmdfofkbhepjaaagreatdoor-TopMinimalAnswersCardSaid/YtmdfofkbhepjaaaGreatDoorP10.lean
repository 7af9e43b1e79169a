/-
  Functions of the program, lifted to plain data.
-/
import Derived.Sort.AssemblyPlain
import Derived.Test.YtmdfofkbhepjaaaGreatDoorP9
set_option linter.unusedVariables false
set_option linter.unusedSimpArgs false
set_option linter.unusedSectionVars false
set_option maxRecDepth 100000
namespace Go.AM
open Go.IntKind (wrap)
open Go.Proofs
theorem XG:CC lY (cL eG)=some [.int .i64 0]:=aG (N:=60) (n:=30) (by kernel_rfl)
theorem aho:CC fI [.int .i64 eG.l0,.int .i64 eG.l1,.list ai eG.l2]=some [.list bG (eG.p.map cb)]:=aG (N:=60) (n:=30) (by kernel_rfl)
theorem ahp:CC fI [.int .i64 eG.r0,.int .i64 eG.r1,.list ai eG.r2]=some [.list bG (eG.q.map cb)]:=aG (N:=60) (n:=30) (by kernel_rfl)
theorem ahq:CC gy ([.int .i64 eG.l0,.int .i64 eG.l1,.list ai eG.l2,.int .i64 0,.int .i64 0,.list ai []]++cQ (fun _=>false) (fun _=>false))=some (cQ eG.o1 eG.e1):=aG (N:=60) (n:=30) (by kernel_rfl)
theorem ahr:CC gy ([.int .i64 eG.r0,.int .i64 eG.r1,.list ai eG.r2,.int .i64 0,.int .i64 0,.list ai []]++cQ eG.o1 eG.e1)=some (cQ eG.cR eG.cU):=aG (N:=60) (n:=30) (by kernel_rfl)
theorem ahs:CC nr [.list ai [.agg [.int .i64 eG.l0,.int .i64 eG.l1,.list ai eG.l2],.agg [.int .i64 eG.r0,.int .i64 eG.r1,.list ai eG.r2]]]=some [.int .i64 (eG.nv:Int)]:=aG (N:=60) (n:=30) (by kernel_rfl)
theorem aht:CC gg [.str yX,.int .i64 0]=some [.int .i64 eG.l0,.int .i64 eG.l1,.list ai eG.l2,.bool true,.str yX,.int .i64 42]:=aG (N:=60) (n:=30) (by kernel_rfl)
theorem ahu:CC nt [.int .u8 61,.str yX,.int .i64 42]=some [.bool true,.str yX,.int .i64 43]:=aG (N:=60) (n:=30) (by kernel_rfl)
theorem ahv:CC gg [.str yX,.int .i64 43]=some [.int .i64 eG.r0,.int .i64 eG.r1,.list ai eG.r2,.bool true,.str yX,.int .i64 74]:=aG (N:=60) (n:=30) (by kernel_rfl)
theorem ahw:oj eG:=⟨XG,aho,ahp,ahq,ahr,ahs,by decide,by unfold fC;decide,by unfold fC;decide,by decide,by decide,by decide,by decide⟩
theorem ahx:mK yX eG:=pC (by decide) aht ahu ahv (by decide) XG
theorem sI:CC BY [.str []]=some [.int .i64 0,.int .i64 0,.list ai [],.int .i64 0,.int .i64 0,.list ai [],.int .i64 0,.int .i64 2]:=aG (N:=60) (n:=30) (by kernel_rfl)
theorem ahy:CC BZ []=some [.list E0 XH]:=aG (N:=60) (n:=30) (by kernel_rfl)
theorem ahz:CC jy [.str [116,114,105,118,105,97,108],.bool true,.int .i64 1,.int .i64 0,.str [120,32,61,32,49],.str []]=some [.str [116,114,105,118,105,97,108],.bool true,.int .i64 1,.int .i64 0,.list iq ([eH].map fun d=> .agg (cL d))]:=sJ ahA sI
theorem ahB:CC jy [.str [99,111,109,109,117,116,97,116,105,118,101],.bool true,.int .i64 4,.int .i64 0,.str [120,121,32,61,32,121,120],.str []]=some [.str [99,111,109,109,117,116,97,116,105,118,101],.bool true,.int .i64 4,.int .i64 0,.list iq ([dx].map fun d=> .agg (cL d))]:=sJ Kl sI
theorem ahC:CC jy [.str [99,111,109,109,117,116,97,116,105,118,101,45,97,112,101,114,105,111,100,105,99],.bool true,.int .i64 4,.int .i64 0,.str [120,121,32,61,32,121,120],.str [120,94,40,119,43,49,41,32,61,32,120,94,119]]=some [.str [99,111,109,109,117,116,97,116,105,118,101,45,97,112,101,114,105,111,100,105,99],.bool true,.int .i64 4,.int .i64 0,.list iq ([dx,aH].map fun d=> .agg (cL d))]:=B0 Kl XI
theorem ahD:CC jy [.str [97,98,101,108,105,97,110],.bool true,.int .i64 4,.int .i64 0,.str [120,121,32,61,32,121,120],.str [120,94,119,32,61,32,49]]=some [.str [97,98,101,108,105,97,110],.bool true,.int .i64 4,.int .i64 0,.list iq ([dx,dO].map fun d=> .agg (cL d))]:=B0 Kl XJ
theorem ahE:CC jy [.str [115,101,109,105,108,97,116,116,105,99,101],.bool true,.int .i64 2,.int .i64 6,.str [120,121,32,61,32,121,120],.str [120,120,32,61,32,120]]=some [.str [115,101,109,105,108,97,116,116,105,99,101],.bool true,.int .i64 2,.int .i64 6,.list iq ([dx,eI].map fun d=> .agg (cL d))]:=B0 Kl ahF
theorem ahG:CC jy [.str [97,112,101,114,105,111,100,105,99],.bool true,.int .i64 1,.int .i64 0,.str [120,94,40,119,43,49,41,32,61,32,120,94,119],.str []]=some [.str [97,112,101,114,105,111,100,105,99],.bool true,.int .i64 1,.int .i64 0,.list iq ([aH].map fun d=> .agg (cL d))]:=sJ XI sI
theorem ahH:CC jy [.str [103,114,111,117,112],.bool true,.int .i64 5,.int .i64 0,.str [120,94,119,32,61,32,49],.str []]=some [.str [103,114,111,117,112],.bool true,.int .i64 5,.int .i64 0,.list iq ([dO].map fun d=> .agg (cL d))]:=sJ XJ sI
theorem ahI:CC jy [.str [106,45,116,114,105,118,105,97,108],.bool true,.int .i64 2,.int .i64 6,.str [40,120,121,41,94,119,120,32,61,32,40,120,121,41,94,119],.str [121,40,120,121,41,94,119,32,61,32,40,120,121,41,94,119]]=some [.str [106,45,116,114,105,118,105,97,108],.bool true,.int .i64 2,.int .i64 6,.list iq ([eh,ei].map fun d=> .agg (cL d))]:=B0 XK XL
theorem ahJ:CC jy [.str [114,45,116,114,105,118,105,97,108],.bool true,.int .i64 3,.int .i64 1,.str [40,120,121,41,94,119,120,32,61,32,40,120,121,41,94,119],.str []]=some [.str [114,45,116,114,105,118,105,97,108],.bool true,.int .i64 3,.int .i64 1,.list iq ([eh].map fun d=> .agg (cL d))]:=sJ XK sI
theorem ahK:CC jy [.str [108,45,116,114,105,118,105,97,108],.bool true,.int .i64 3,.int .i64 2,.str [121,40,120,121,41,94,119,32,61,32,40,120,121,41,94,119],.str []]=some [.str [108,45,116,114,105,118,105,97,108],.bool true,.int .i64 3,.int .i64 2,.list iq ([ei].map fun d=> .agg (cL d))]:=sJ XL sI
theorem ahL:CC jy [.str [100,97],.bool true,.int .i64 3,.int .i64 3,.str [40,120,121,41,94,119,120,40,120,121,41,94,119,32,61,32,40,120,121,41,94,119],.str []]=some [.str [100,97],.bool true,.int .i64 3,.int .i64 3,.list iq ([eJ].map fun d=> .agg (cL d))]:=sJ ahM sI
theorem ahN:CC jy [.str [102,105,110,105,116,101,45,111,114,45,99,111,102,105,110,105,116,101],.bool false,.int .i64 2,.int .i64 1,.str [120,94,119,121,32,61,32,120,94,119],.str [121,120,94,119,32,61,32,120,94,119]]=some [.str [102,105,110,105,116,101,45,111,114,45,99,111,102,105,110,105,116,101],.bool false,.int .i64 2,.int .i64 1,.list iq ([ej,en].map fun d=> .agg (cL d))]:=B0 XM XN
theorem ahO:CC jy [.str [100,101,102,105,110,105,116,101],.bool false,.int .i64 2,.int .i64 3,.str [121,120,94,119,32,61,32,120,94,119],.str []]=some [.str [100,101,102,105,110,105,116,101],.bool false,.int .i64 2,.int .i64 3,.list iq ([en].map fun d=> .agg (cL d))]:=sJ XN sI
theorem ahP:CC jy [.str [114,101,118,101,114,115,101,45,100,101,102,105,110,105,116,101],.bool false,.int .i64 2,.int .i64 2,.str [120,94,119,121,32,61,32,120,94,119],.str []]=some [.str [114,101,118,101,114,115,101,45,100,101,102,105,110,105,116,101],.bool false,.int .i64 2,.int .i64 2,.list iq ([ej].map fun d=> .agg (cL d))]:=sJ XM sI
theorem ahQ:CC jy [.str [103,101,110,101,114,97,108,105,115,101,100,45,100,101,102,105,110,105,116,101],.bool false,.int .i64 2,.int .i64 4,.str [120,94,119,121,120,94,119,32,61,32,120,94,119],.str []]=some [.str [103,101,110,101,114,97,108,105,115,101,100,45,100,101,102,105,110,105,116,101],.bool false,.int .i64 2,.int .i64 4,.list iq ([eL].map fun d=> .agg (cL d))]:=sJ ahR sI
theorem ahS:CC jy [.str [108,111,99,97,108,108,121,45,116,101,115,116,97,98,108,101],.bool false,.int .i64 2,.int .i64 5,.str [120,94,119,121,120,94,119,121,120,94,119,32,61,32,120,94,119,121,120,94,119],.str [120,94,119,121,120,94,119,122,120,94,119,32,61,32,120,94,119,122,120,94,119,121,120,94,119]]=some [.str [108,111,99,97,108,108,121,45,116,101,115,116,97,98,108,101],.bool false,.int .i64 2,.int .i64 5,.list iq ([eM,eN].map fun d=> .agg (cL d))]:=B0 ahT ahU
theorem ahV:CC jy [.str [100,111,116,45,100,101,112,116,104,45,111,110,101],.bool false,.int .i64 2,.int .i64 7,.str [40,120,94,119,122,121,94,119,117,120,94,119,41,94,119,120,94,119,122,121,94,119,116,120,94,119,40,120,94,119,118,121,94,119,116,120,94,119,41,94,119,32,61,32,40,120,94,119,122,121,94,119,117,120,94,119,41,94,119,40,120,94,119,118,121,94,119,116,120,94,119,41,94,119],.str []]=some [.str [100,111,116,45,100,101,112,116,104,45,111,110,101],.bool false,.int .i64 2,.int .i64 7,.list iq ([eG].map fun d=> .agg (cL d))]:=sJ ahx sI
theorem ahW:P9 XH ahX where
 xr:=ahy
 len:=rfl
 cls:=fun c hc=>by
  rcases (by omega:c=0∨c=1∨c=2∨c=3∨c=4∨c=5∨c=6∨c=7∨c=8∨c=9∨c=10∨c=11∨c=12∨c=13∨c=14∨c=15∨c=16) with rfl|rfl|rfl|rfl|rfl|rfl|rfl|rfl|rfl|rfl|rfl|rfl|rfl|rfl|rfl|rfl|rfl
  ·exact ⟨_,rfl,_,_,_,_,ahz⟩
  ·exact ⟨_,rfl,_,_,_,_,ahB⟩
  ·exact ⟨_,rfl,_,_,_,_,ahC⟩
  ·exact ⟨_,rfl,_,_,_,_,ahD⟩
  ·exact ⟨_,rfl,_,_,_,_,ahE⟩
  ·exact ⟨_,rfl,_,_,_,_,ahG⟩
  ·exact ⟨_,rfl,_,_,_,_,ahH⟩
  ·exact ⟨_,rfl,_,_,_,_,ahI⟩
  ·exact ⟨_,rfl,_,_,_,_,ahJ⟩
  ·exact ⟨_,rfl,_,_,_,_,ahK⟩
  ·exact ⟨_,rfl,_,_,_,_,ahL⟩
  ·exact ⟨_,rfl,_,_,_,_,ahN⟩
  ·exact ⟨_,rfl,_,_,_,_,ahO⟩
  ·exact ⟨_,rfl,_,_,_,_,ahP⟩
  ·exact ⟨_,rfl,_,_,_,_,ahQ⟩
  ·exact ⟨_,rfl,_,_,_,_,ahS⟩
  ·exact ⟨_,rfl,_,_,_,_,ahV⟩
 ok:=fun c hc=>by
  rcases (by omega:c=0∨c=1∨c=2∨c=3∨c=4∨c=5∨c=6∨c=7∨c=8∨c=9∨c=10∨c=11∨c=12∨c=13∨c=14∨c=15∨c=16) with rfl|rfl|rfl|rfl|rfl|rfl|rfl|rfl|rfl|rfl|rfl|rfl|rfl|rfl|rfl|rfl|rfl
  ·intro d hd;have hd:d∈[eH]:=hd;simp only[fY,mz,na] at hd;subst hd;exact ahY
  ·intro d hd;have hd:d∈[dx]:=hd;simp only[fY,mz,na] at hd;subst hd;exact Km
  ·intro d hd;have hd:d∈[dx,aH]:=hd;simp only[fY,mz,na] at hd;rcases hd with rfl|rfl
   ·exact Km
   ·exact XO
  ·intro d hd;have hd:d∈[dx,dO]:=hd;simp only[fY,mz,na] at hd;rcases hd with rfl|rfl
   ·exact Km
   ·exact XP
  ·intro d hd;have hd:d∈[dx,eI]:=hd;simp only[fY,mz,na] at hd;rcases hd with rfl|rfl
   ·exact Km
   ·exact ahZ
  ·intro d hd;have hd:d∈[aH]:=hd;simp only[fY,mz,na] at hd;subst hd;exact XO
  ·intro d hd;have hd:d∈[dO]:=hd;simp only[fY,mz,na] at hd;subst hd;exact XP
  ·intro d hd;have hd:d∈[eh,ei]:=hd;simp only[fY,mz,na] at hd;rcases hd with rfl|rfl
   ·exact XQ
   ·exact XR
  ·intro d hd;have hd:d∈[eh]:=hd;simp only[fY,mz,na] at hd;subst hd;exact XQ
  ·intro d hd;have hd:d∈[ei]:=hd;simp only[fY,mz,na] at hd;subst hd;exact XR
  ·intro d hd;have hd:d∈[eJ]:=hd;simp only[fY,mz,na] at hd;subst hd;exact ah0
  ·intro d hd;have hd:d∈[ej,en]:=hd;simp only[fY,mz,na] at hd;rcases hd with rfl|rfl
   ·exact XS
   ·exact XT
  ·intro d hd;have hd:d∈[en]:=hd;simp only[fY,mz,na] at hd;subst hd;exact XT
  ·intro d hd;have hd:d∈[ej]:=hd;simp only[fY,mz,na] at hd;subst hd;exact XS
  ·intro d hd;have hd:d∈[eL]:=hd;simp only[fY,mz,na] at hd;subst hd;exact ah1
  ·intro d hd;have hd:d∈[eM,eN]:=hd;simp only[fY,mz,na] at hd;rcases hd with rfl|rfl
   ·exact ah2
   ·exact ah3
  ·intro d hd;have hd:d∈[eG]:=hd;simp only[fY,mz,na] at hd;subst hd;exact ahw
 il:=fun c hc=>by
  rcases (by omega:c=0∨c=1∨c=2∨c=3∨c=4∨c=5∨c=6∨c=7∨c=8∨c=9∨c=10∨c=11∨c=12∨c=13∨c=14∨c=15∨c=16) with rfl|rfl|rfl|rfl|rfl|rfl|rfl|rfl|rfl|rfl|rfl|rfl|rfl|rfl|rfl|rfl|rfl<;>decide
noncomputable def E1 (C:af) (t5:Int) (Qa:LV) (t6:Int) (dQ:LV) {β:Type} (kn:(Int×LV)→Option β) (kr:(Int×Bool×LV)→Option β):Option β:=
 bif decide (t6<t5) then
  aM Qa t6 fun x2=>
  (C jy [.str ((x2.cell 0).toStr),.bool ((x2.cell 1).toBool),V.int .i64 ((x2.cell 2).toInt),V.int .i64 ((x2.cell 3).toInt),.str ((x2.cell 4).toStr),.str ((x2.cell 5).toStr)]).bind fun r3=>
  bif Nat.ble ((dQ.length+([.agg [.str ((V.nth r3 0).toStr),.bool ((V.nth (r3.drop 1) 0).toBool),.list iq ((V.nth (r3.drop 4) 0).toList),V.int .i64 ((V.nth ((r3.drop 1).drop 1) 0).toInt),V.int .i64 ((V.nth (((r3.drop 1).drop 1).drop 1) 0).toInt)]]:LV).length)*64) aX then
  kn (wrap .i64 (t6+1),dQ++([.agg [.str ((V.nth r3 0).toStr),.bool ((V.nth (r3.drop 1) 0).toBool),.list iq ((V.nth (r3.drop 4) 0).toList),V.int .i64 ((V.nth ((r3.drop 1).drop 1) 0).toInt),V.int .i64 ((V.nth (((r3.drop 1).drop 1).drop 1) 0).toInt)]]:LV))
  else none
 else
  kr (t6,decide (t6<t5),dQ)
noncomputable def Kn (C:af) (t5:Int) (Qa:LV):=un fun t6 dQ=>E1 C t5 Qa t6 dQ (fun y=>some (Sum.inl y)) (fun r=>some (Sum.inr r))
noncomputable def ah4 (C:af):cD:=bI 49 Qb [EQ,H1,H1,EQ] [[1,0,0,0,4]] (@E1 C) bB
theorem ah5 (C:af):bD C (ah4 C) 35 (Lp [1,1,0,1,0,0] 35):=bJ Qb [EQ,H1,H1,EQ] [[1,0,0,0,4]] (@E1 C) (bq au)
noncomputable def XU (C:af):Option LV:=
 (C BZ []).bind fun r1=>
 (Loop (Kn C (((V.nth r1 0).toList).length:Int) ((V.nth r1 0).toList)) (0,([]:LV))).bind (un fun lx=>un fun (kC:Bool) (ah6:LV)=>
  some [.list E2 ah6])
theorem ah7 {r:Option LV} (h:XU CC=r):CC Ko []=r:=bC (bE (ah5 CC) au) h
noncomputable def ah8 (C:af) (ec:Int):Option LV:=
 bif decide (ec≥1) then
  some [.bool (decide (ec≤1048576))]
 else
  some [.bool false]
theorem ah9 {ec:Int} {r:Option LV} (h:ah8 CC ec=r):CC Kp [V.int .i64 ec]=r:=bC (L:=bB) au h
noncomputable def E3 (C:af) (ec t33 iu:Int) (dA lZ kD ma mb:LV) (t34:Int) (vy:LV) {β:Type} (kn:(Int×LV)→Option β) (kr:(Int×Bool×LV)→Option β):Option β:=
 bif decide (t34<t33) then
  (C E4 [V.int .i64 iu,.list ag dA,.list cu lZ,.list ab kD,.list ak ma,.list ak mb,V.int .i64 t34,V.int .i64 ec]).bind fun r5=>
  bif (((V.nth (((r5.drop 1).drop 1).drop 1) 0).toInt):Int) != 0 then
  bif Nat.ble ((vy.length+([V.int .i64 (wrap .i64 (0-((V.nth (((r5.drop 1).drop 1).drop 1) 0).toInt)))]:LV).length)*8) aX then
   kn (wrap .i64 (t34+1),vy++([V.int .i64 (wrap .i64 (0-((V.nth (((r5.drop 1).drop 1).drop 1) 0).toInt)))]:LV))
  else none
  else
  bif (V.nth r5 0).toBool then
   bif Nat.ble ((vy.length+([V.int .i64 1]:LV).length)*8) aX then
   kn (wrap .i64 (t34+1),vy++([V.int .i64 1]:LV))
   else none
  else
   bif Nat.ble ((vy.length+([V.int .i64 0]:LV).length)*8) aX then
   kn (wrap .i64 (t34+1),vy++([V.int .i64 0]:LV))
   else none
 else
  kr (t34,decide (t34<t33),vy)
noncomputable def Kq (C:af) (ec t33 iu:Int) (dA lZ kD ma mb:LV):=un fun t34 vy=>E3 C ec t33 iu dA lZ kD ma mb t34 vy (fun y=>some (Sum.inl y)) (fun r=>some (Sum.inr r))
noncomputable def aia (C:af):cD:=bI 177 Qc [EQ,EQ,H1,EQ,EQ,EQ,EQ,EQ,EQ,H1] [[1,2,0,0,4,5,6,7,8,9,0]] (@E3 C) bB
theorem aib (C:af):bD C (aia C) 16 (Lp [1,1,1,1,1,1,0,1,0,0] 16):=bJ Qc [EQ,EQ,H1,EQ,EQ,EQ,EQ,EQ,EQ,H1] [[1,2,0,0,4,5,6,7,8,9,0]] (@E3 C) (bq au)
noncomputable def B3 (C:af) (c6 db:Int) (cE c7:LV) (ec:Int):Option LV:=
 (C qs [V.int .i64 c6,V.int .i64 db,.list ak cE,.list ag c7]).bind fun r1=>
 bif (((V.nth r1 0).toInt):Int) != 0 then
  some [V.int .i64 ((V.nth r1 0).toInt),.list ab ([]:LV)]
 else
  (C Kp [V.int .i64 ec]).bind fun r2=>
  bif !((V.nth r2 0).toBool) then
  some [V.int .i64 1,.list ab ([]:LV)]
  else
  (C qt [V.int .i64 c6,V.int .i64 db,.list ak cE,.list ag c7]).bind fun r3=>
  bif (((V.nth (r3.drop 6) 0).toInt):Int) != 0 then
   some [V.int .i64 ((V.nth (r3.drop 6) 0).toInt),.list ab ([]:LV)]
  else
   (C Ko []).bind fun r4=>
   (Loop (Kq C ec (((V.nth r4 0).toList).length:Int) ((V.nth r3 0).toInt) ((V.nth (r3.drop 1) 0).toList) ((V.nth ((r3.drop 1).drop 1) 0).toList) ((V.nth (((r3.drop 1).drop 1).drop 1) 0).toList) ((V.nth ((((r3.drop 1).drop 1).drop 1).drop 1) 0).toList) ((V.nth (((((r3.drop 1).drop 1).drop 1).drop 1).drop 1) 0).toList)) (0,([]:LV))).bind (un fun jz=>un fun (mL:Bool) (aic:LV)=>
    some [V.int .i64 0,.list ab aic])
theorem aid {c6 db:Int} {cE c7:LV} {ec:Int} {r:Option LV} (h:B3 CC c6 db cE c7 ec=r):CC B4 [V.int .i64 c6,V.int .i64 db,.list ak cE,.list ag c7,V.int .i64 ec]=r:=bC (bE (aib CC) au) h
noncomputable def XV (C:af) (a b':LV):Option LV:=
 (C Qd [.list ab a,.list ab b']).bind fun r1=>
 some [.bool ((V.nth r1 0).toBool)]
theorem aie {a b':LV} {r:Option LV} (h:XV CC a b'=r):CC yY [.list ab a,.list ab b']=r:=bC (L:=bB) au h
noncomputable def xt (C:af) (c6 db:Int) (cE c7:LV):Option LV:=
 (C B4 [V.int .i64 c6,V.int .i64 db,.list ak cE,.list ag c7,V.int .i64 3000]).bind fun r1=>
 bif (((V.nth r1 0).toInt):Int) != 0 then
  some [V.bool false,.bool false,.list ab ([]:LV)]
 else
  bif ((((V.nth (r1.drop 1) 0).toList).length:Int):Int) != 17 then
  some [V.bool false,.bool false,.list ab ([]:LV)]
  else
  bif decide (16≤(((V.nth (r1.drop 1) 0).toList).length:Int)) then
   some [V.bool true,fy 0,fy (16-0),.bool true,.list ab ((V.nth (r1.drop 1) 0).toList)]
  else none
theorem aif {c6 db:Int} {cE c7:LV} {r:Option LV} (h:xt CC c6 db cE c7=r):CC xu [V.int .i64 c6,V.int .i64 db,.list ak cE,.list ag c7]=r:=bC (L:=bB) au h
theorem XW {l:LV} (hl:l.length≤1000000):CC yY [.list ab l,.list ab l]=some [.bool true]:=by
 refine aie ?_;unfold XV;refine bs (a:=[.bool true]) (aih ?_) rfl;unfold XX;refine bF (by simp) (bs (gz l.length (fun i=>(i:Int)) (.inr ((l.length:Int),false)) (fun i hi=> ?_) ?_) rfl)
 ·have e:idx l (i:Int)=some l[i]:=by rw[yZ rfl];exact bU hi
  simp only[Qe,E5];refine bT (bp hi) (bs e (bs e (bF (by simp) ?_)));rw[bz (by omega)]
 ·simp only[Qe,E5];rw[aV (aw _)];rfl
section
variable {rows:LV} {xw:Nat→List jA} (hC:P9 rows xw)
include hC
theorem aii: ∃l:LV,l.length=17∧CC Ko []=some [.list E2 l]:=by
 have hl:=hC.len;have key:=jB (step:=Kn CC (rows.length:Int) rows) (fun i y=> ∃l:LV,y=((i:Int),l)∧l.length=i) (fun r=> ∃l:LV,l.length=17∧r=((rows.length:Int),false,l)) 17 0 (0,([]:LV)) (fun i _ hi y hy=> ?_) (fun y hy=> ?_) ⟨[],rfl,rfl⟩
 ·obtain ⟨r,e,l,h1,rfl⟩:=key;refine ⟨l,h1,ah7 ?_⟩;unfold XU;exact bs hC.xr (bs e rfl)
 ·obtain ⟨l,rfl,h1⟩:=hy;obtain ⟨x,hx,a,b,e,f,kG⟩:=hC.cls i (by omega);simp only[Kn,E1,un];exact ⟨_,bT (bp (by omega)) ((bY hx).trans (bs kG (bT (cap (a:=l.length) (b:=1) (by omega) (by omega)) rfl))),_,cx (bz (by omega)) rfl,by rw[gS,h1];rfl⟩
 ·obtain ⟨l,rfl,h1⟩:=hy;simp only[Kn,E1,un];rw[hl];exact ⟨_,bF rfl rfl,l,by omega,rfl⟩
theorem aij {a b:Da} (ha:a.Ok) (hb:b.Ok) (mc:(minD a).n≤32) (e:minD a=minD b): ∃(z:Int) (l:LV),l.length≤17∧CC B4 (jC a [.int .i64 3000])=some [.int .i64 z,.list ab l]∧CC B4 (jC b [.int .i64 3000])=some [.int .i64 z,.list ab l]:=by
 have E6:=XY ha hb e;have A: ∀{a:Da} z,B3 CC (a.L:Int) (a.st:Int) a.cM a.cW 3000=z→CC B4 (jC a [.int .i64 3000])=z:=fun z h=>aid h;have Kr:CC Kp [.int .i64 3000]=some [.bool true]:=ah9 rfl;rcases aik ha mc with ⟨eO,_⟩|⟨S,f,eO,hS⟩
 ·refine ⟨3,[],by simp,A _ ?_,A _ ?_⟩
  ·unfold B3;exact bs (oM ha) (bF rfl (bs Kr (bF rfl (bs eO (bT rfl rfl)))))
  ·unfold B3;exact bs (oM hb) (bF rfl (bs Kr (bF rfl (bs (E6.symm.trans eO) (bT rfl rfl)))))
 ·obtain ⟨cl,kG,eC⟩:=aii hC;have hm:=kH ha;have hV:=ail ha hS eO;have key:=jB (step:=Kq CC 3000 (17:Int) ((minD a).L:Int) (pD S) (tab S.length fun j=> .str (f j)) (me (minD a) S) (nu (minD a) S) (jD (minD a).L (minD a).gT S S.length)) (fun i y=> ∃l:LV,l.length=i∧y=((i:Int),l)) (fun r=> ∃l:LV,l.length=17∧r=(17,false,l)) 17 0 (0,([]:LV)) (fun i _ hi y hy=> ?_) (fun y hy=> ?_) ⟨[],rfl,rfl⟩
  ·obtain ⟨r,el,l,h1,rfl⟩:=key;have XZ:((V.nth [V.list E2 cl] 0).toList.length:Int)=17:=by show (cl.length:Int)=17;omega
   refine ⟨0,l,by omega,A _ ?_,A _ ?_⟩
   ·unfold B3;refine bs (oM ha) (bF rfl (bs Kr (bF rfl (bs eO (bF rfl (bs eC ?_))))));rw[XZ];exact bs el rfl
   ·unfold B3;refine bs (oM hb) (bF rfl (bs Kr (bF rfl (bs (E6.symm.trans eO) (bF rfl (bs eC ?_))))));rw[XZ];exact bs el rfl
  ·obtain ⟨l,h1,rfl⟩:=hy;obtain ⟨b',i',j',e',l',hM⟩:=aim hC hm hS hV (c:=i) (by omega) (bud:=3000) (by omega);have bS: ∀v:V,Nat.ble ((l.length+([v]:LV).length)*8) aX=true:=fun v=>cap (by simp;omega) (by omega);simp only[Kq,E3,un];by_cases c:(e' != 0)=true
   ·refine ⟨(((i+1:Nat):Int),l++[.int .i64 (wrap .i64 (0-e'))]),bT (cq (by omega)) (bs hM (bT c (bT (bS _) ?_))),_,by simp[h1],rfl⟩;rw[bz (by omega)];rfl
   ·have c:(e' != 0)=false:=by simpa using c
    cases b' with
    | true=>
     refine ⟨(((i+1:Nat):Int),l++[.int .i64 1]),bT (cq (by omega)) (bs hM (bF c (bT rfl (bT (bS _) ?_)))),_,by simp[h1],rfl⟩;rw[bz (by omega)]
    | false=>
     refine ⟨(((i+1:Nat):Int),l++[.int .i64 0]),bT (cq (by omega)) (bs hM (bF c (bF rfl (bT (bS _) ?_)))),_,by simp[h1],rfl⟩;rw[bz (by omega)]
  ·obtain ⟨l,h1,rfl⟩:=hy;simp only[Kq,E3,un];exact ⟨_,bF rfl rfl,l,by omega,rfl⟩
end
noncomputable def X0 (C:af) (x n:Int):Option LV:=
 bif decide (n<1) then
  some [V.int .i64 0]
 else
  bif !decide (n=0) then
  bif decide (((Int.tmod x n):Int)<0) then
   some [V.int .i64 (wrap .i64 ((Int.tmod x n)+n))]
  else
   some [V.int .i64 (Int.tmod x n)]
  else none
theorem ain {x n:Int} {r:Option LV} (h:X0 CC x n=r):CC Ks [V.int .i64 x,V.int .i64 n]=r:=bC (L:=bB) au h
noncomputable def Qf (C:af) (l:LV):Option LV:=
 bif decide ((l.length:Int)>80) then
  bif decide (80≤(l.length:Int)) then
  some [.list ab ((l.drop 0).take (80-0)),V.int .i64 0]
  else none
 else
  some [.list ab l,V.int .i64 0]
theorem X1 {l:LV} {r:Option LV} (h:Qf CC l=r):CC Kt [.list ab l]=r:=bC (L:=bB) au h
noncomputable def Qg (C:af) (n:Int) (bO:LV) (bP:Int):Option LV:=
 bif decide (bP≥(bO.length:Int)) then
  some [V.int .i64 0,.list ab bO,V.int .i64 bP]
 else
  (idx bO (wrap .i64 ((wrap .i64 (bP+1))-1))).bind fun x1=>
  (C Ks [V.int .i64 x1.toInt,V.int .i64 n]).bind fun r2=>
  some [V.int .i64 ((V.nth r2 0).toInt),.list ab bO,V.int .i64 (wrap .i64 (bP+1))]
theorem X2 {n:Int} {bO:LV} {bP:Int} {r:Option LV} (h:Qg CC n bO bP=r):CC oN [V.int .i64 n,.list ab bO,V.int .i64 bP]=r:=bC (L:=bB) au h
theorem aio {x:Int} {n:Nat} (hn:1≤n) (hm:n≤1000000): ∃v:Nat,v<n∧CC Ks [.int .i64 x,.int .i64 (n:Int)]=some [.int .i64 (v:Int)]:=by
 have h1:x %n<n:=Int.emod_lt_of_pos _ (by omega);have h2:0≤x %n:=Int.emod_nonneg _ (by omega);have e:((x %n).toNat:Int)=x %n:=Int.toNat_of_nonneg h2;have h0:Int.tmod x n=x %n∨Int.tmod x n=x %n-n:=by
  rw[Int.tmod_eq_emod];split<;>simp
 refine ⟨(x %n).toNat,by omega,ain ?_⟩;unfold X0;refine bF (by simp;omega) (bT (by simp;omega) ?_);rw[e];by_cases h:Int.tmod x n<0
 ·refine bT (cq h) ?_;have h3:Int.tmod x n+n=x %n:=by omega
  rw[h3,qu (by omega) (by omega)]
 ·refine bF (c8 h) ?_;have h3:Int.tmod x n=x %n:=by omega
  rw[h3]
structure Tp where
 l:List Int
 k:Nat
 h:l.length≤80
 hk:k≤80
def Tp.L (t:Tp):V:= .list ab (t.l.map iV)
def Tp.K (t:Tp):V:= .int .i64 (t.k:Int)
theorem aip (l:List Int): ∃t:Tp,CC Kt [.list ab (l.map iV)]=some [t.L,t.K]:=by
 by_cases h:80<l.length
 ·refine ⟨⟨l.take 80,0,by simp;omega,by omega⟩,X1 ?_⟩;unfold Qf;refine bT (by simp;omega) (bT (by simp;omega) ?_);simp[Tp.L,Tp.K,List.map_take]
 ·refine ⟨⟨l,0,by omega,by omega⟩,X1 ?_⟩;unfold Qf;exact bF (by simp;omega) rfl
theorem rH (t:Tp) {n:Nat} (hn:1≤n) (hm:n≤1000000): ∃(v:Nat) (u:Tp),v<n∧CC oN [.int .i64 (n:Int),t.L,t.K]=some [.int .i64 (v:Int),u.L,u.K]:=by
 have hh:=t.h;have hk:=t.hk;by_cases h:t.l.length≤t.k
 ·refine ⟨0,t,by omega,X2 ?_⟩;unfold Qg;exact bT (by simp;omega) rfl
 ·obtain ⟨v,hv,e⟩:=aio (x:=t.l.getD t.k 0) hn hm;refine ⟨v,⟨t.l,t.k+1,t.h,by omega⟩,hv,X2 ?_⟩;unfold Qg;refine bF (by simp;omega) ?_;rw[bz (by omega),qu (by omega) (by omega),show ((t.k+1:Nat):Int)-1=(t.k:Int) by omega];refine bs (E7 (z:=0) (by omega)) ?_;refine bs (by rw[V.toInt_int];exact e) ?_;rfl
structure Nd where
 op:Nat
 x:Nat
 a:Nat
 b:Nat
deriving DecidableEq
def Nd.v (d:Nd):V:= .agg [.int .i64 (d.op:Int),.int .i64 (d.x:Int),.int .i64 (d.a:Int),.int .i64 (d.b:Int)]
structure Nd.Ok (d:Nd) (L i:Nat):Prop where
 o1:1≤d.op
 o8:d.op≤8
 x1:d.op=3→d.x<L
 x0:d.op≠3→d.x=0
 a1:5≤d.op→d.a<i
 a0:d.op<5→d.a=0
 b1:5≤d.op→d.op≠8→d.b<i
 b0:d.op<5∨d.op=8→d.b=0
structure X3 (g:List Nd) (L:Nat):Prop where
 l1:1≤L
 l2:L≤6
 n1:1≤g.length
 n2:g.length≤100
 nd: ∀i (h:i<g.length),g[i].Ok L i
theorem X3.get {g:List Nd} {L i:Nat} (h:X3 g L) (hi:i<g.length):idx (g.map Nd.v) (i:Int)=some g[i].v:=by
 rw[X4 rfl hi]
noncomputable def E8 (C:af) (aO n q iM iN bj bt:Int) (aW aU aF aP:LV) (a:Int) (bO:LV) (bP:Int) (rows:LV) {β:Type} (kn:(Int×LV×Int×LV)→Option β) (kr:(Int×Bool×LV×Int×LV)→Option β):Option β:=
 bif decide (a<aO) then
  (C oN [V.int .i64 n,.list ab bO,V.int .i64 bP]).bind fun r4=>
  bif Nat.ble ((rows.length+([V.int .i64 ((V.nth r4 0).toInt)]:LV).length)*8) aX then
  kn (wrap .i64 (a+1),(V.nth (r4.drop 1) 0).toList,(V.nth ((r4.drop 1).drop 1) 0).toInt,rows++([V.int .i64 ((V.nth r4 0).toInt)]:LV))
  else none
 else
  kr (a,decide (a<aO),bO,bP,rows)
noncomputable def E9 (C:af) (aO n q iM iN bj bt:Int) (aW aU aF aP:LV):=un fun a=>un fun bO=>un fun bP rows=>E8 C aO n q iM iN bj bt aW aU aF aP a bO bP rows (fun y=>some (Sum.inl y)) (fun r=>some (Sum.inr r))
noncomputable def Fa (C:af) (aO n iM iN bj bt:Int) (aQ aW:LV) (q:Int) (bO:LV) (bP:Int) (aU aF:LV) {β:Type} (kn:(Int×LV×Int×LV×LV)→Option β) (kr:(Int×Bool×LV×Int×LV×LV)→Option β):Option β:=
 bif decide (q<n) then
  (C oN [V.int .i64 2,.list ab bO,V.int .i64 bP]).bind fun r3=>
  bif Nat.ble ((aU.length+([.bool ((((V.nth r3 0).toInt):Int)==1)]:LV).length)*1) aX then
  (Loop (E9 C aO n q iM iN bj bt aQ aW (aU++([.bool ((((V.nth r3 0).toInt):Int)==1)]:LV)) aF) (0,(V.nth (r3.drop 1) 0).toList,(V.nth ((r3.drop 1).drop 1) 0).toInt,([]:LV))).bind (un fun a_5=>un fun (jz:Bool)=>un fun (Qh:LV)=>un fun (aiq:Int) (air:LV)=>
   bif Nat.ble ((aF.length+1)*24) aX then
    kn (wrap .i64 (q+1),Qh,aiq,aU++([.bool ((((V.nth r3 0).toInt):Int)==1)]:LV),aF++([.list ab air]:LV))
   else none)
  else none
 else
  kr (q,decide (q<n),bO,bP,aU,aF)
noncomputable def Ku (C:af) (aO n iM iN bj bt:Int) (aQ aW:LV):=un fun q=>un fun bO=>un fun bP=>un fun aU aF=>Fa C aO n iM iN bj bt aQ aW q bO bP aU aF (fun y=>some (Sum.inl y)) (fun r=>some (Sum.inr r))
noncomputable def X5 (C:af):cD:=bI 161 Qi [EQ,EQ,EQ,H1,H1,H1,EQ,EQ,EQ,EQ,H1,EQ,EQ,EQ,EQ] [[1,2,3,0,0,0,0,7,8,9,10,0,12,13,14,15]] (@E8 C) (bI 81 Qj [EQ,EQ,H1,H1,H1,EQ,EQ,EQ,EQ,EQ,EQ,H1,H1] [[1,2,0,0,0,0,6,7,8,9,10,11,0,0]] (@Fa C) bB)
theorem ais (C:af):bD C (X5 C) 27 (Lp [1,1,1,1,0,1,0,0,1,0,0,1,1,0,1,0,0] 27):=bJ Qi [EQ,EQ,EQ,H1,H1,H1,EQ,EQ,EQ,EQ,H1,EQ,EQ,EQ,EQ] [[1,2,3,0,0,0,0,7,8,9,10,0,12,13,14,15]] (@E8 C) (bq au)
theorem ait (C:af):bD C (X5 C) 27 (Lp [1,1,1,1,0,1,0,0] 27):=bJ Qj [EQ,EQ,H1,H1,H1,EQ,EQ,EQ,EQ,EQ,EQ,H1,H1] [[1,2,0,0,0,0,6,7,8,9,10,11,0,0]] (@Fa C) (bq (bE (ais C) au))
noncomputable def X6 (C:af) (aO dH:Int) (bO:LV) (bP:Int):Option LV:=
 (C oN [V.int .i64 dH,.list ab bO,V.int .i64 bP]).bind fun r1=>
 (C oN [V.int .i64 (wrap .i64 (1+((V.nth r1 0).toInt))),.list ab ((V.nth (r1.drop 1) 0).toList),V.int .i64 ((V.nth ((r1.drop 1).drop 1) 0).toInt)]).bind fun r2=>
 (Loop (Ku C aO (wrap .i64 (1+((V.nth r1 0).toInt))) 0 0 aO ((V.nth r2 0).toInt) ([]:LV) ([]:LV)) (0,(V.nth (r2.drop 1) 0).toList,(V.nth ((r2.drop 1).drop 1) 0).toInt,([]:LV),([]:LV))).bind (un fun aiu=>un fun (y6:Bool)=>un fun (aiv:LV)=>un fun aiw=>un fun (pE:LV) (vz:LV)=>
  some [V.int .i64 aO,V.int .i64 ((V.nth r2 0).toInt),.list ab aiv,V.int .i64 aiw,.list ak pE,.list ag vz])
theorem aix {aO dH:Int} {bO:LV} {bP:Int} {r:Option LV} (h:X6 CC aO dH bO bP=r):CC Fb [V.int .i64 aO,V.int .i64 dH,.list ab bO,V.int .i64 bP]=r:=bC (bE (ait CC) au) h
def cO (N:List (List Nat)):LV:=N.map fun r=> .list ab (nS r)
structure FN (L:Nat) (F:List Bool) (N:List (List Nat)):Prop where
 len:F.length=N.length
 pos:1≤N.length
 row: ∀r∈N,r.length=L∧∀q∈r,q<N.length
theorem FN.ok {L st:Nat} {F:List Bool} {N:List (List Nat)} (h:FN L F N) (h1:1≤L) (h6:L≤6) (hs:st<N.length) (hn:N.length≤512):(⟨L,st,F,N⟩:Da).Ok:=by
 have e:(⟨L,st,F,N⟩:Da).n=N.length:=h.len;exact ⟨h1,h6,by rw[e],fun r hr=>by rw[e];exact h.row r hr,by rw[e];exact hs,by rw[e];exact hn⟩
theorem FN.leaves {L st:Nat} {F:List Bool} {N:List (List Nat)} (h:(⟨L,st,F,N⟩:Da).Ok):eY ⟨L,st,F,N⟩=[.int .i64 (L:Int),.int .i64 (st:Int),.list ak (F.map V.bool),.list ag (cO N)]:=by
 have:=h.leaves [];show jC _ []=_;rw[←this];simp only[Fc,Da.df,cO,Bj];refine congrArg (fun x=>[V.int .i64 (L:Int),V.int .i64 (st:Int),V.list ak (F.map V.bool),V.list ag x]) (qh fun r _=> ?_);simp only[Function.comp,pF,sK,nS,Bj];rfl
theorem X7 (t:Tp) {L m:Nat} (h1:1≤L) (h6:L≤6) (hm:1≤m) (tQ:m≤50): ∃(F:List Bool) (N:List (List Nat)) (st:Nat) (u:Tp),FN L F N∧N.length≤m∧st<N.length∧
  CC Fb [.int .i64 (L:Int),.int .i64 (m:Int),t.L,t.K]=some [.int .i64 (L:Int),.int .i64 (st:Int),u.L,u.K,.list ak (F.map V.bool),.list ag (cO N)]:=by
 obtain ⟨v,t1,hv,e1⟩:=rH t (n:=m) hm (by omega);obtain ⟨st,t2,dN,e2⟩:=rH t1 (n:=v+1) (by omega) (by omega);have inner: ∀(w:Tp) {x1 x2 x3 x4 x5:Int} {y1 y2 y3 y4:LV},∃(r:List Nat) (u:Tp),r.length=L∧(∀q∈r,q<v+1)∧
   Loop (E9 CC (L:Int) ((v+1:Nat):Int) x1 x2 x3 x4 x5 y1 y2 y3 y4) (0,w.l.map iV,(w.k:Int),([]:LV))=some ((L:Int),false,u.l.map iV,(u.k:Int),nS r):=by
  intro w x1 x2 x3 x4 x5 y1 y2 y3 y4;have key:=jB (step:=E9 CC (L:Int) ((v+1:Nat):Int) x1 x2 x3 x4 x5 y1 y2 y3 y4) (fun i x=> ∃(r:List Nat) (u:Tp),r.length=i∧(∀q∈r,q<v+1)∧x=((i:Int),u.l.map iV,(u.k:Int),nS r))
   (fun o=> ∃(r:List Nat) (u:Tp),r.length=L∧(∀q∈r,q<v+1)∧o=((L:Int),false,u.l.map iV,(u.k:Int),nS r)) L 0 (0,w.l.map iV,(w.k:Int),nS []) (fun i _ hi x hx=> ?_) (fun x hx=> ?_) ⟨[],w,rfl,fun _ h=>(by cases h),rfl⟩
  ·obtain ⟨o,e,r,u,a1,a2,rfl⟩:=key;exact ⟨r,u,a1,a2,e⟩
  ·obtain ⟨r,u,a1,a2,rfl⟩:=hx;obtain ⟨k,u2,hk,e⟩:=rH u (n:=v+1) (by omega) (by omega);simp only[E9,E8,un];refine ⟨_,bT (bp (by omega)) (bs e (bT (cap (a:=(nS r).length) (b:=1) (by rw[dC];omega) (by omega)) rfl)),r++[k],u2,by simp;omega,fun q hq=> ?_,?_⟩
   ·rcases eD.1 hq with hq|hq
    ·exact a2 q hq
    ·rw[fx.1 hq];exact hk
   ·rw[bz (by omega)];refine cx rfl (cx rfl (cx rfl ?_));simp[nS,nV]
  ·obtain ⟨r,u,a1,a2,rfl⟩:=hx;rw[dq] at*
   simp only[E9,E8,un];exact ⟨_,bF (aV (aw _)) rfl,r,u,a1,a2,cx rfl (cx (aV (aw _)) rfl)⟩
 have key:=jB (step:=Ku CC (L:Int) ((v+1:Nat):Int) 0 0 (L:Int) (st:Int) [] []) (fun i x=> ∃(F:List Bool) (N:List (List Nat)) (u:Tp),F.length=i∧N.length=i∧(∀r∈N,r.length=L∧∀q∈r,q<v+1)∧x=((i:Int),u.l.map iV,(u.k:Int),F.map V.bool,cO N))
  (fun o=> ∃(F:List Bool) (N:List (List Nat)) (u:Tp),F.length=v+1∧N.length=v+1∧(∀r∈N,r.length=L∧∀q∈r,q<v+1)∧o=(((v+1:Nat):Int),false,u.l.map iV,(u.k:Int),F.map V.bool,cO N)) (v+1) 0 (0,t2.l.map iV,(t2.k:Int),([]:LV),([]:LV)) (fun i _ hi x hx=> ?_) (fun x hx=> ?_) ⟨[],[],t2,rfl,rfl,fun _ h=>(by cases h),rfl⟩
 ·obtain ⟨o,e,F,N,u,a1,a2,a3,rfl⟩:=key;refine ⟨F,N,st,u,⟨by omega,by omega,fun r hr=>by rw[a2];exact a3 r hr⟩,by omega,by omega,aix ?_⟩;unfold X6;have hw:wrap .i64 (1+(V.nth [V.int .i64 (v:Int),t1.L,t1.K] 0).toInt)=((v+1:Nat):Int):=by
   show wrap .i64 (1+(v:Int))=_;rw[show (1+(v:Int))=((v+1:Nat):Int) by omega];exact wrap64 (by omega) (by omega)
  refine bs e1 ?_;rw[hw];exact bs e2 (bs e rfl)
 ·obtain ⟨F,N,u,a1,a2,a3,rfl⟩:=hx;obtain ⟨k,u2,hk,e⟩:=rH u (n:=2) (by omega) (by omega);obtain ⟨r,u3,b1,b2,e3⟩:=inner u2 (x1:=(i:Int)) (x2:=0) (x3:=0) (x4:=(L:Int)) (x5:=(st:Int)) (y1:=[]) (y2:=[]) (y3:=F.map V.bool++[.bool ((k:Int)==1)]) (y4:=cO N);simp only[Ku,Fa,un];refine ⟨(((i+1:Nat):Int),u3.l.map iV,(u3.k:Int),F.map V.bool++[.bool ((k:Int)==1)],cO N++[.list ab (nS r)]),bT (bp (by omega)) (bs e (bT (cap (a:=(F.map V.bool).length) (b:=1) (by rw[cY];omega) (by omega)) (bs e3 ?_))),F++[(k:Int)==1],N++[r],u3,by simp;omega,by simp;omega,fun s hs=> ?_,?_⟩
  ·simp only[un];refine bT (cap (a:=(cO N).length) (b:=1) (by rw[cO,cY];omega) (by omega)) ?_;rw[bz (by omega)];rfl
  ·rcases eD.1 hs with hs|hs
   ·exact a3 s hs
   ·rw[fx.1 hs];exact ⟨b1,b2⟩
  ·simp[cO]
 ·obtain ⟨F,N,u,a1,a2,a3,rfl⟩:=hx;rw[dq] at*
  simp only[Ku,Fa,un];exact ⟨_,bF (aV (aw _)) rfl,F,N,u,a1,a2,a3,cx rfl (cx (aV (aw _)) rfl)⟩
noncomputable def Fe (C:af) (q t17 t18:Int) (t25:Nat) (t26:Int) (y7:LV) (y8 iM iN bj bt:Int) (aW aU aF:LV) (t27:Int) (vA:LV) {β:Type} (kn:(Int×LV)→Option β) (kr:(Int×Bool×LV)→Option β):Option β:=
 bif decide (t27<t26) then
  (fc Tryz.prog ag vA [(t25,0)]).bind fun x4=>
  bif (decide (0≤t27))&&(decide (t27<(x4.toList.length:Int))) then
  (fc Tryz.prog ag vA [(t25,0)]).bind fun x5=>
  (x5.toList[t27.toNat]?).bind fun x6=>
  aM vA q fun x7=>
  (fc Tryz.prog ag vA [(q.toNat,0)]).bind fun x8=>
  bif (decide (0≤t27))&&(decide (t27<(x8.toList.length:Int))) then
   (fc Tryz.prog ag vA [(q.toNat,0)]).bind fun x9=>
   (x9.toList[t27.toNat]?).bind fun om=>
   kn (wrap .i64 (t27+1),setRow Tryz.prog (bn x9.toList t27 (V.int .i64 (if x6.toInt>q then x6.toInt else q))) ag vA [(q.toNat,0)])
  else none
  else none
 else
  kr (t27,decide (t27<t26),vA)
noncomputable def Ff (C:af) (q t17 t18:Int) (t25:Nat) (t26:Int) (y7:LV) (y8 iM iN bj bt:Int) (aW aU aF:LV):=un fun t27 vA=>Fe C q t17 t18 t25 t26 y7 y8 iM iN bj bt aW aU aF t27 vA (fun y=>some (Sum.inl y)) (fun r=>some (Sum.inr r))
noncomputable def Fg (C:af) (t17:Int) (y7:LV) (y8 iM iN bj bt:Int) (aQ aW aU:LV) (t18:Int) (aF:LV) {β:Type} (kn:(Int×LV)→Option β) (kr:(Int×Bool×LV)→Option β):Option β:=
 bif decide (t18<t17) then
  aM aF t18 fun x2=>
  (fc Tryz.prog ag aF [(t18.toNat,0)]).bind fun x3=>
  (Loop (Ff C t18 t17 t18 (t18.toNat) (x3.toList.length:Int) y7 y8 iM iN bj bt aQ aW aU) (0,aF)).bind (un fun y6=>un fun (Kv:Bool) (aiy:LV)=>
   kn (wrap .i64 (t18+1),aiy))
 else
  kr (t18,decide (t18<t17),aF)
noncomputable def Kw (C:af) (t17:Int) (y7:LV) (y8 iM iN bj bt:Int) (aQ aW aU:LV):=un fun t18 aF=>Fg C t17 y7 y8 iM iN bj bt aQ aW aU t18 aF (fun y=>some (Sum.inl y)) (fun r=>some (Sum.inr r))
noncomputable def X8 (C:af):cD:=bI 97 Qk [EQ,EQ,EQ,EQ,EQ,H1,EQ,EQ,EQ,EQ,EQ,EQ,H1,EQ,EQ,EQ] [[1,2,3,4,5,0,0,7,8,9,10,11,12,0,14,15,16]] (@Fe C) (bI 49 Ql [EQ,H1,EQ,EQ,EQ,EQ,EQ,EQ,EQ,EQ,EQ,H1] [[1,0,0,3,4,5,6,7,8,9,10,11,0]] (@Fg C) bB)
theorem aiz (C:af):bD C (X8 C) 24 (Lp [1,1,0,1,0,0,1,1,0,0,1,1,0,0] 24):=bJ Qk [EQ,EQ,EQ,EQ,EQ,H1,EQ,EQ,EQ,EQ,EQ,EQ,H1,EQ,EQ,EQ] [[1,2,3,4,5,0,0,7,8,9,10,11,12,0,14,15,16]] (@Fe C) (bq au)
theorem aiA (C:af):bD C (X8 C) 24 (Lp [1,1,0,1,0,0] 24):=bJ Ql [EQ,H1,EQ,EQ,EQ,EQ,EQ,EQ,EQ,EQ,EQ,H1] [[1,0,0,3,4,5,6,7,8,9,10,11,0]] (@Fg C) (bq (bE (aiz C) au))
noncomputable def X9 (C:af) (aO dH:Int) (bO:LV) (bP:Int):Option LV:=
 (C Fb [V.int .i64 aO,V.int .i64 dH,.list ab bO,V.int .i64 bP]).bind fun r1=>
 (Loop (Kw C (((V.nth (((r1.drop 2).drop 2).drop 1) 0).toList).length:Int) ((V.nth (r1.drop 2) 0).toList) ((V.nth ((r1.drop 2).drop 1) 0).toInt) 0 0 ((V.nth r1 0).toInt) ((V.nth (r1.drop 1) 0).toInt) ([]:LV) ([]:LV) ((V.nth ((r1.drop 2).drop 2) 0).toList)) (0,(V.nth (((r1.drop 2).drop 2).drop 1) 0).toList)).bind (un fun vB=>un fun (Kx:Bool) (y9:LV)=>
  some [V.int .i64 ((V.nth r1 0).toInt),V.int .i64 0,.list ab ((V.nth (r1.drop 2) 0).toList),V.int .i64 ((V.nth ((r1.drop 2).drop 1) 0).toInt),.list ak ((V.nth ((r1.drop 2).drop 2) 0).toList),.list ag y9])
theorem aiB {aO dH:Int} {bO:LV} {bP:Int} {r:Option LV} (h:X9 CC aO dH bO bP=r):CC Ky [V.int .i64 aO,V.int .i64 dH,.list ab bO,V.int .i64 bP]=r:=bC (bE (aiA CC) au) h
theorem Qm {N:List (List Nat)}:(cO N).length=N.length:=by simp[cO]
theorem aiC {N:List (List Nat)} {q:Nat} {r:List Nat} (hq:q<N.length):(cO (N.set q r))[q]? =some (.list ab (nS r)):=by simp[cO,hq]
theorem aiD (t:Tp) {L m:Nat} (h1:1≤L) (h6:L≤6) (hm:1≤m) (tQ:m≤50): ∃(F:List Bool) (N:List (List Nat)) (u:Tp),FN L F N∧N.length≤m∧
  CC Ky [.int .i64 (L:Int),.int .i64 (m:Int),t.L,t.K]=some [.int .i64 (L:Int),.int .i64 0,u.L,u.K,.list ak (F.map V.bool),.list ag (cO N)]:=by
 obtain ⟨F,N0,st,u,hF,hNm,dN,e0⟩:=X7 t h1 h6 hm tQ;obtain ⟨n,hn⟩: ∃n,n=N0.length:=⟨_,rfl⟩
 have Ya:=hF.row;rw[←hn] at Ya;have inner: ∀{N:List (List Nat)} {q:Nat},N.length=n→q<n→(∀r∈N,r.length=L∧∀y∈r,y<n)→∃r:List Nat,r.length=L∧(∀y∈r,y<n)∧
   Loop (Ff CC (q:Int) (n:Int) (q:Int) q (L:Int) (u.l.map iV) (u.k:Int) 0 0 (L:Int) (st:Int) [] [] (F.map V.bool)) (0,cO N)=some ((L:Int),false,cO (N.set q r)):=by
  intro N q hN hq cS;have Yb:=cS N[q] (dr (by omega));have key:=jB (step:=Ff CC (q:Int) (n:Int) (q:Int) q (L:Int) (u.l.map iV) (u.k:Int) 0 0 (L:Int) (st:Int) [] [] (F.map V.bool)) (fun j x=> ∃r:List Nat,r.length=L∧(∀y∈r,y<n)∧x=((j:Int),cO (N.set q r)))
   (fun o=> ∃r:List Nat,r.length=L∧(∀y∈r,y<n)∧o=((L:Int),false,cO (N.set q r))) L 0 (0,cO N) (fun j _ hj x hx=> ?_) (fun x hx=> ?_) ⟨N[q],Yb.1,Yb.2,by rw[List.set_getElem_self];rfl⟩
  ·obtain ⟨o,e,r,a1,a2,rfl⟩:=key;exact ⟨r,a1,a2,e⟩
  ·obtain ⟨r,a1,a2,rfl⟩:=hx;have dX:j<r.length:=by omega
   have hg:=aiC (N:=N) (q:=q) (r:=r) (by omega);have za:=qv hg;have Kz:=a2 _ (dr dX);have KA:(V.list ab (nS r)).toList[((j:Int)).toNat]? =some (nV r[j]):=by rw[V.ez,Int.toNat_natCast];exact xx dX
   have hb:(decide (0≤(j:Int))&&decide ((j:Int)<((V.list ab (nS r)).toList.length:Int)))=true:=by rw[V.ez];exact oO (by rw[dC];exact dX)
   have jf:setRow Tryz.prog (bn (V.list ab (nS r)).toList (j:Int) (V.int .i64 (if (nV r[j]).toInt>(q:Int) then (nV r[j]).toInt else (q:Int)))) ag (cO (N.set q r)) [((q:Int).toNat,0)]=cO (N.set q (r.set j (if r[j]>q then r[j] else q))):=by
    rw[Int.toNat_natCast,Fh hg,V.ez];have hv:(V.int .i64 (if (nV r[j]).toInt>(q:Int) then (nV r[j]).toInt else (q:Int)))=nV (if r[j]>q then r[j] else q):=by
     show V.int .i64 (if ((r[j]:Nat):Int)>(q:Int) then ((r[j]:Nat):Int) else (q:Int))=V.int .i64 ((if r[j]>q then r[j] else q:Nat):Int);by_cases c:r[j]>q
     ·rw[aB c,aB (by omega)]
     ·rw[aC c,aC (by omega)]
    rw[hv];simp only[bn,Int.toNat_natCast,cO,List.map_set];rw[Bk];simp[nS]
   simp only[Ff,Fe,un];refine ⟨_,bT (bp (by omega)) (bs za (bT hb (bs za (bs (a:=nV r[j]) KA ((bY hg).trans (bs (by rw[Int.toNat_natCast];exact za) (bT hb (bs (by rw[Int.toNat_natCast];exact za) (bs (a:=nV r[j]) KA rfl))))))))),r.set j (if r[j]>q then r[j] else q),by rw[oG,a1],fun y hy=> ?_,?_⟩
   ·rcases D9 hy with hy|rfl
    ·exact a2 y hy
    ·split
     ·exact Kz
     ·exact hq
   ·rw[bz (by omega)];exact cx rfl jf
  ·obtain ⟨r,a1,a2,rfl⟩:=hx;rw[dq] at*
   simp only[Ff,Fe,un];exact ⟨_,bF (aV (aw _)) rfl,r,a1,a2,cx rfl (cx (aV (aw _)) rfl)⟩
 have key:=jB (step:=Kw CC (n:Int) (u.l.map iV) (u.k:Int) 0 0 (L:Int) (st:Int) [] [] (F.map V.bool)) (fun q x=> ∃N:List (List Nat),N.length=n∧(∀r∈N,r.length=L∧∀y∈r,y<n)∧x=((q:Int),cO N))
  (fun o=> ∃N:List (List Nat),N.length=n∧(∀r∈N,r.length=L∧∀y∈r,y<n)∧o=((n:Int),false,cO N)) n 0 (0,cO N0) (fun q _ hq x hx=> ?_) (fun x hx=> ?_) ⟨N0,hn.symm,Ya,rfl⟩
 ·obtain ⟨o,e,N,a1,a2,rfl⟩:=key;refine ⟨F,N,u,⟨by rw[hF.len,←hn,a1],by rw[a1,hn];exact hF.pos,fun r hr=>by rw[a1];exact a2 r hr⟩,by omega,aiB ?_⟩;unfold X9;refine bs e0 ?_;have hl:((V.nth ((([V.int .i64 (L:Int),.int .i64 (st:Int),u.L,u.K,.list ak (F.map V.bool),.list ag (cO N0)].drop 2).drop 2).drop 1) 0).toList.length:Int)=(n:Int):=by show ((cO N0).length:Int)=_;rw[Qm,hn]
  rw[hl];exact bs e rfl
 ·obtain ⟨N,a1,a2,rfl⟩:=hx;have dB:q<n:=by omega
  obtain ⟨r,b1,b2,e⟩:=inner a1 dB a2;have hg:(cO N)[q]? =some (.list ab (nS N[q])):=by simp[cO,a1,dB]
  have Qn:=(a2 N[q] (dr (by omega))).1;simp only[Kw,Fg,un];have hlen:((V.list ab (nS N[q])).toList.length:Int)=(L:Int):=by rw[V.ez,dC,Qn]
  refine ⟨(((q+1:Nat):Int),cO (N.set q r)),bT (bp dB) ((bY hg).trans (bs (by rw[Int.toNat_natCast];exact qv hg) ?_)),N.set q r,by rw[oG,a1],fun s hs=> ?_,rfl⟩
  ·rw[hlen,Int.toNat_natCast];refine bs e ?_;rw[bz (by omega)];rfl
  ·rcases D9 hs with hs|rfl
   ·exact a2 s hs
   ·exact ⟨b1,b2⟩
 ·obtain ⟨N,a1,a2,rfl⟩:=hx;rw[dq] at*
  simp only[Kw,Fg,un];exact ⟨_,bF (aV (aw _)) rfl,N,a1,a2,cx rfl (cx (aV (aw _)) rfl)⟩
noncomputable def Fi (C:af) (aO n iM iN bj bt:Int) (aQ aW:LV) (q:Int) (bO:LV) (bP:Int) (aU aF:LV) {β:Type} (kn:(Int×LV×Int×LV×LV)→Option β) (kr:(Int×Bool×LV×Int×LV×LV)→Option β):Option β:=
 bif decide (q<n) then
  (C oN [V.int .i64 2,.list ab bO,V.int .i64 bP]).bind fun r3=>
  bif Nat.ble ((aU.length+([.bool ((((V.nth r3 0).toInt):Int)==1)]:LV).length)*1) aX then
  bif (decide (0≤aO))&&((decide (aO≤aO))&&(Nat.ble ((aO.toNat)*8) aX)) then
   bif Nat.ble ((aF.length+1)*24) aX then
   kn (wrap .i64 (q+1),(V.nth (r3.drop 1) 0).toList,(V.nth ((r3.drop 1).drop 1) 0).toInt,aU++([.bool ((((V.nth r3 0).toInt):Int)==1)]:LV),aF++([.list ab (List.replicate (aO.toNat) (V.int .i64 0))]:LV))
   else none
  else none
  else none
 else
  kr (q,decide (q<n),bO,bP,aU,aF)
noncomputable def Fj (C:af) (aO n iM iN bj bt:Int) (aQ aW:LV):=un fun q=>un fun bO=>un fun bP=>un fun aU aF=>Fi C aO n iM iN bj bt aQ aW q bO bP aU aF (fun y=>some (Sum.inl y)) (fun r=>some (Sum.inr r))
noncomputable def Fk (C:af) (aO n a:Int) (bO:LV) (bP iM iN bj bt:Int) (aW aU aF aP:LV) (q:Int) (ly:LV) {β:Type} (kn:(Int×LV)→Option β) (kr:(Int×Bool×LV)→Option β):Option β:=
 bif decide (q<n) then
  bif Nat.ble ((ly.length+([V.int .i64 q]:LV).length)*8) aX then
  kn (wrap .i64 (q+1),ly++([V.int .i64 q]:LV))
  else none
 else
  kr (q,decide (q<n),ly)
noncomputable def KC (C:af) (aO n a:Int) (bO:LV) (bP iM iN bj bt:Int) (aW aU aF aP:LV):=un fun q ly=>Fk C aO n a bO bP iM iN bj bt aW aU aF aP q ly (fun y=>some (Sum.inl y)) (fun r=>some (Sum.inr r))
noncomputable def Fl (C:af) (aO n a iM iN bj bt:Int) (aW aU aF:LV) (q:Int) (bO:LV) (bP:Int) (ly aP:LV) {β:Type} (kn:(Int×LV×Int×LV×LV)→Option β) (kr:(Int×Bool×LV×Int×LV×LV)→Option β):Option β:=
 bif decide (q<n) then
  (C oN [V.int .i64 (ly.length:Int),.list ab bO,V.int .i64 bP]).bind fun gA=>
  aM aP q fun KD=>
  aM ly ((V.nth gA 0).toInt) fun KE=>
  (fc Tryz.prog ag aP [(q.toNat,0)]).bind fun KF=>
  bif (decide (0≤a))&&(decide (a<(KF.toList.length:Int))) then
  (fc Tryz.prog ag aP [(q.toNat,0)]).bind fun vC=>
  (vC.toList[a.toNat]?).bind fun KG=>
  bif (decide (0≤((V.nth gA 0).toInt)))&&(decide (((V.nth gA 0).toInt)≤(ly.length:Int))) then
   bif Nat.ble ((([]:LV).length+((ly.drop 0).take ((((V.nth gA 0).toInt:Int).toNat)-0)).length)*8) aX then
   bif (decide (0≤(wrap .i64 (((V.nth gA 0).toInt)+1))))&&(decide ((wrap .i64 (((V.nth gA 0).toInt)+1))≤(ly.length:Int))) then
    bif Nat.ble (((([]:LV)++((ly.drop 0).take ((((V.nth gA 0).toInt:Int).toNat)-0))).length+((ly.drop ((wrap .i64 (((V.nth gA 0).toInt)+1):Int).toNat)).take (ly.length-((wrap .i64 (((V.nth gA 0).toInt)+1):Int).toNat))).length)*8) aX then
    kn (wrap .i64 (q+1),(V.nth (gA.drop 1) 0).toList,(V.nth ((gA.drop 1).drop 1) 0).toInt,(([]:LV)++((ly.drop 0).take ((((V.nth gA 0).toInt:Int).toNat)-0)))++((ly.drop ((wrap .i64 (((V.nth gA 0).toInt)+1):Int).toNat)).take (ly.length-((wrap .i64 (((V.nth gA 0).toInt)+1):Int).toNat))),setRow Tryz.prog (bn vC.toList a (V.int .i64 KE.toInt)) ag aP [(q.toNat,0)])
    else none
   else none
   else none
  else none
  else none
 else
  kr (q,decide (q<n),bO,bP,ly,aP)
noncomputable def Fm (C:af) (aO n a iM iN bj bt:Int) (aW aU aF:LV):=un fun q=>un fun bO=>un fun bP=>un fun ly aP=>Fl C aO n a iM iN bj bt aW aU aF q bO bP ly aP (fun y=>some (Sum.inl y)) (fun r=>some (Sum.inr r))
noncomputable def Fo (C:af) (aO n iM iN bj bt:Int) (aQ aW aU:LV) (a:Int) (bO:LV) (bP:Int) (aF:LV) {β:Type} (kn:(Int×LV×Int×LV)→Option β) (kr:(Int×Bool×LV×Int×LV)→Option β):Option β:=
 bif decide (a<aO) then
  (Loop (KC C aO n a bO bP iM iN bj bt aQ aW aU aF) (0,([]:LV))).bind (un fun aiu=>un fun (y6:Bool) (aiE:LV)=>
   (Loop (Fm C aO n a iM iN bj bt aQ aW aU) (0,bO,bP,aiE,aF)).bind (un fun azm=>un fun (Qo:Bool)=>un fun (aiF:LV)=>un fun aiG=>un fun (azn:LV) (sL:LV)=>
    kn (wrap .i64 (a+1),aiF,aiG,sL)))
 else
  kr (a,decide (a<aO),bO,bP,aF)
noncomputable def KH (C:af) (aO n iM iN bj bt:Int) (aQ aW aU:LV):=un fun a=>un fun bO=>un fun bP aF=>Fo C aO n iM iN bj bt aQ aW aU a bO bP aF (fun y=>some (Sum.inl y)) (fun r=>some (Sum.inr r))
noncomputable def KI (C:af):cD:=bI 81 Qp [EQ,EQ,H1,H1,H1,EQ,EQ,EQ,EQ,EQ,EQ,H1,H1] [[1,2,0,0,0,0,6,7,8,9,10,11,0,0]] (@Fi C) (bI 209 Qq [EQ,EQ,EQ,H1,EQ,EQ,EQ,EQ,EQ,EQ,H1,EQ,EQ,EQ,EQ] [[1,2,3,0,0,5,6,7,8,9,10,0,12,13,14,15]] (@Fk C) (bI 273 Qr [EQ,EQ,EQ,H1,H1,H1,EQ,EQ,EQ,EQ,H1,EQ,EQ,EQ,H1] [[1,2,3,0,0,0,0,7,8,9,10,0,12,13,14,0]] (@Fl C) (bI 145 Qs [EQ,EQ,H1,H1,H1,EQ,EQ,EQ,EQ,EQ,EQ,EQ,H1] [[1,2,0,0,0,0,6,7,8,9,10,11,12,0]] (@Fo C) bB)))
theorem aiH (C:af):bD C (KI C) 25 (Lp [1,1,1,1,0,1,0,0] 25):=bJ Qp [EQ,EQ,H1,H1,H1,EQ,EQ,EQ,EQ,EQ,EQ,H1,H1] [[1,2,0,0,0,0,6,7,8,9,10,11,0,0]] (@Fi C) (bq au)
theorem aiI (C:af):bD C (KI C) 25 (Lp [1,1,1,1,1,0,1,0,0,1,0,0,1,0,1,0,0] 25):=bJ Qq [EQ,EQ,EQ,H1,EQ,EQ,EQ,EQ,EQ,EQ,H1,EQ,EQ,EQ,EQ] [[1,2,3,0,0,5,6,7,8,9,10,0,12,13,14,15]] (@Fk C) (bq au)
theorem aiJ (C:af):bD C (KI C) 25 (Lp [1,1,1,1,1,0,1,0,0,1,0,0,1,1,1,0,0] 25):=bJ Qr [EQ,EQ,EQ,H1,H1,H1,EQ,EQ,EQ,EQ,H1,EQ,EQ,EQ,H1] [[1,2,3,0,0,0,0,7,8,9,10,0,12,13,14,0]] (@Fl C) (bq au)
theorem aiK (C:af):bD C (KI C) 25 (Lp [1,1,1,1,1,0,1,0,0] 25):=bJ Qs [EQ,EQ,H1,H1,H1,EQ,EQ,EQ,EQ,EQ,EQ,EQ,H1] [[1,2,0,0,0,0,6,7,8,9,10,11,12,0]] (@Fo C) (bq (bE (aiI C) (bE (aiJ C) au)))
noncomputable def Yc (C:af) (aO dH:Int) (bO:LV) (bP:Int):Option LV:=
 (C oN [V.int .i64 dH,.list ab bO,V.int .i64 bP]).bind fun r1=>
 (C oN [V.int .i64 (wrap .i64 (1+((V.nth r1 0).toInt))),.list ab ((V.nth (r1.drop 1) 0).toList),V.int .i64 ((V.nth ((r1.drop 1).drop 1) 0).toInt)]).bind fun r2=>
 (Loop (Fj C aO (wrap .i64 (1+((V.nth r1 0).toInt))) 0 0 aO ((V.nth r2 0).toInt) ([]:LV) ([]:LV)) (0,(V.nth (r2.drop 1) 0).toList,(V.nth ((r2.drop 1).drop 1) 0).toInt,([]:LV),([]:LV))).bind (un fun q_4=>un fun (kC:Bool)=>un fun (aiL:LV)=>un fun Qh=>un fun (B5:LV) (zb:LV)=>
  (Loop (KH C aO (wrap .i64 (1+((V.nth r1 0).toInt))) 0 0 aO ((V.nth r2 0).toInt) ([]:LV) ([]:LV) B5) (0,aiL,Qh,zb)).bind (un fun azo=>un fun (azp:Bool)=>un fun (aiM:LV)=>un fun (aiN:Int) (Fp:LV)=>
   some [V.int .i64 aO,V.int .i64 ((V.nth r2 0).toInt),.list ab aiM,V.int .i64 aiN,.list ak B5,.list ag Fp]))
theorem aiO {aO dH:Int} {bO:LV} {bP:Int} {r:Option LV} (h:Yc CC aO dH bO bP=r):CC KJ [V.int .i64 aO,V.int .i64 dH,.list ab bO,V.int .i64 bP]=r:=bC (bE (aiH CC) (bE (aiK CC) au)) h
theorem aiP (l:List Nat) (k:Nat):((([]:LV)++((nS l).drop 0).take (k-0))++((nS l).drop (k+1)).take ((nS l).length-(k+1)))=nS (l.take k++l.drop (k+1)):=by
 have h:((nS l).drop (k+1)).take ((nS l).length-(k+1))=(nS l).drop (k+1):=List.take_of_length_le (by rw[Bl];exact aw _);rw[wQ,Nat.sub_zero,List.nil_append,h];simp[nS,List.map_take,List.map_drop]
theorem aiQ (t:Tp) {L m:Nat} (h1:1≤L) (h6:L≤6) (hm:1≤m) (tQ:m≤50): ∃(F:List Bool) (N:List (List Nat)) (st:Nat) (u:Tp),FN L F N∧N.length≤m∧st<N.length∧
  CC KJ [.int .i64 (L:Int),.int .i64 (m:Int),t.L,t.K]=some [.int .i64 (L:Int),.int .i64 (st:Int),u.L,u.K,.list ak (F.map V.bool),.list ag (cO N)]:=by
 obtain ⟨v,t1,hv,e1⟩:=rH t (n:=m) hm (by omega);obtain ⟨st,t2,dN,e2⟩:=rH t1 (n:=v+1) (by omega) (by omega);obtain ⟨n,hn⟩: ∃n,n=v+1:=⟨_,rfl⟩
 rw[←hn] at dN e2;have l1: ∃(F:List Bool) (N:List (List Nat)) (u:Tp),F.length=n∧N.length=n∧(∀r∈N,r.length=L∧∀y∈r,y<n)∧
   Loop (Fj CC (L:Int) (n:Int) 0 0 (L:Int) (st:Int) [] []) (0,t2.l.map iV,(t2.k:Int),([]:LV),([]:LV))=some ((n:Int),false,u.l.map iV,(u.k:Int),F.map V.bool,cO N):=by
  have key:=jB (step:=Fj CC (L:Int) (n:Int) 0 0 (L:Int) (st:Int) [] []) (fun i x=> ∃(F:List Bool) (N:List (List Nat)) (u:Tp),F.length=i∧N.length=i∧(∀r∈N,r.length=L∧∀y∈r,y<n)∧x=((i:Int),u.l.map iV,(u.k:Int),F.map V.bool,cO N))
   (fun o=> ∃(F:List Bool) (N:List (List Nat)) (u:Tp),F.length=n∧N.length=n∧(∀r∈N,r.length=L∧∀y∈r,y<n)∧o=((n:Int),false,u.l.map iV,(u.k:Int),F.map V.bool,cO N)) n 0 (0,t2.l.map iV,(t2.k:Int),([]:LV),([]:LV)) (fun i _ hi x hx=> ?_) (fun x hx=> ?_) ⟨[],[],t2,rfl,rfl,fun _ h=>(by cases h),rfl⟩
  ·obtain ⟨o,e,F,N,u,a1,a2,a3,rfl⟩:=key;exact ⟨F,N,u,a1,a2,a3,e⟩
  ·obtain ⟨F,N,u,a1,a2,a3,rfl⟩:=hx;obtain ⟨k,u2,hk,e⟩:=rH u (n:=2) (by omega) (by omega);simp only[Fj,Fi,un];refine ⟨(((i+1:Nat):Int),u2.l.map iV,(u2.k:Int),F.map V.bool++[.bool ((k:Int)==1)],cO N++[.list ab (List.replicate L (V.int .i64 0))]),bT (bp (by omega)) (bs e (bT (cap (a:=(F.map V.bool).length) (b:=1) (by rw[cY];omega) (by omega)) (bT (gB (by omega) (by omega)) (bT (cap (a:=(cO N).length) (b:=1) (by rw[Qm];omega) (by omega)) ?_)))),F++[(k:Int)==1],N++[List.replicate L 0],u2,by simp;omega,by simp;omega,fun s hs=> ?_,?_⟩
   ·rw[bz (by omega),Int.toNat_natCast];rfl
   ·rcases eD.1 hs with hs|hs
    ·exact a3 s hs
    ·rw[fx.1 hs];exact ⟨by simp,fun y hy=>by rw[(List.mem_replicate.1 hy).2];omega⟩
   ·simp[cO,nS,nV]
  ·obtain ⟨F,N,u,a1,a2,a3,rfl⟩:=hx;rw[dq] at*
   simp only[Fj,Fi,un];exact ⟨_,bF (aV (aw _)) rfl,F,N,u,a1,a2,a3,cx rfl (cx (aV (aw _)) rfl)⟩
 obtain ⟨F,N0,u0,f1,f2,f3,eL1⟩:=l1;have l2: ∀{x1 x2 x3 x4 x5 x6:Int} {y0 y1 y2 y3 y4:LV},Loop (KC CC (L:Int) (n:Int) x1 y0 x2 x3 x4 x5 x6 y1 y2 y3 y4) (0,([]:LV))=some ((n:Int),false,nS (List.range n)):=by
  intro x1 x2 x3 x4 x5 x6 y0 y1 y2 y3 y4;refine gz n (fun i=>((i:Int),nS (List.range i))) _ (fun i hi=> ?_) ?_
  ·simp only[KC,Fk,un];refine bT (bp hi) (bT (cap (a:=(nS (List.range i)).length) (b:=1) (by rw[dC,jX];omega) (by omega)) ?_);rw[bz (by omega),List.range_succ];simp[nS,nV]
  ·simp only[KC,Fk,un];refine bF (aV (aw _)) ?_;rw[aV (aw _)]
 have l3: ∀{a:Nat} (ha:a<L) {N:List (List Nat)} {w:Tp},N.length=n→(∀r∈N,r.length=L∧∀y∈r,y<n)→∃(N':List (List Nat)) (u:Tp) (l:LV),N'.length=n∧(∀r∈N',r.length=L∧∀y∈r,y<n)∧
   Loop (Fm CC (L:Int) (n:Int) (a:Int) 0 0 (L:Int) (st:Int) [] [] (F.map V.bool)) (0,w.l.map iV,(w.k:Int),nS (List.range n),cO N)=some ((n:Int),false,u.l.map iV,(u.k:Int),l,cO N'):=by
  intro a ha N w hN cS;have key:=jB (step:=Fm CC (L:Int) (n:Int) (a:Int) 0 0 (L:Int) (st:Int) [] [] (F.map V.bool)) (fun q x=> ∃(N':List (List Nat)) (u:Tp) (l:List Nat),N'.length=n∧(∀r∈N',r.length=L∧∀y∈r,y<n)∧l.length=n-q∧(∀y∈l,y<n)∧x=((q:Int),u.l.map iV,(u.k:Int),nS l,cO N'))
   (fun o=> ∃(N':List (List Nat)) (u:Tp) (l:LV),N'.length=n∧(∀r∈N',r.length=L∧∀y∈r,y<n)∧o=((n:Int),false,u.l.map iV,(u.k:Int),l,cO N')) n 0 (0,w.l.map iV,(w.k:Int),nS (List.range n),cO N) (fun q _ hq x hx=> ?_) (fun x hx=> ?_) ⟨N,w,List.range n,hN,cS,by simp,fun y hy=>ik.1 hy,rfl⟩
  ·obtain ⟨o,e,N',u,l,a1,a2,rfl⟩:=key;exact ⟨N',u,l,a1,a2,e⟩
  ·obtain ⟨N',u,l,a1,a2,a3,a4,rfl⟩:=hx;have dB:q<n:=by omega
   obtain ⟨k,u2,hk,e⟩:=rH u (n:=l.length) (by omega) (by omega);have hg:(cO N')[q]? =some (.list ab (nS N'[q])):=by simp[cO,a1,dB]
   have hr:=a2 N'[q] (dr (by omega));have za:=qv hg;have Fq:=a4 _ (dr hk);have Yd:a<(N'[q]).length:=by rw[hr.1];exact ha
   have KA:(V.list ab (nS N'[q])).toList[((a:Int)).toNat]? =some (nV (N'[q])[a]):=by rw[V.ez,Int.toNat_natCast];exact xx Yd
   have hb:(decide (0≤(a:Int))&&decide ((a:Int)<((V.list ab (nS N'[q])).toList.length:Int)))=true:=by rw[V.ez];exact oO (by rw[dC];exact Yd)
   have hw1:wrap .i64 ((k:Int)+1)=((k+1:Nat):Int):=bz (by omega);have jf:setRow Tryz.prog (bn (V.list ab (nS N'[q])).toList (a:Int) (V.int .i64 (nV l[k]).toInt)) ag (cO N') [((q:Int).toNat,0)]=cO (N'.set q ((N'[q]).set a l[k])):=by
    rw[Int.toNat_natCast,Fh hg,V.ez];simp[bn,cO,List.map_set,nS,nV]
   simp only[Fm,Fl,un];refine ⟨(((q+1:Nat):Int),u2.l.map iV,(u2.k:Int),nS (l.take k++l.drop (k+1)),cO (N'.set q ((N'[q]).set a l[k]))),bT (bp dB) ?_,N'.set q ((N'[q]).set a l[k]),u2,l.take k++l.drop (k+1),by rw[oG,a1],fun s hs=> ?_,by rw[gS,nc,Bl];omega,fun y hy=> ?_,rfl⟩
   ·rw[dC];refine bs e ((bY hg).trans ((bY (i:=k) (xx hk)).trans (bs (by rw[Int.toNat_natCast];exact za) (bT hb (bs (by rw[Int.toNat_natCast];exact za) (bs (a:=nV (N'[q])[a]) KA ?_))))));have sM:(V.nth [V.int .i64 (k:Int),u2.L,u2.K] 0).toInt=(k:Int):=rfl;simp only[sM,hw1,Int.toNat_natCast];refine bT (ki.2 ⟨cq (by omega),cq (by omega)⟩) (bT (cap (a:=0) (by rw[nc];simp;omega) (by omega)) (bT (ki.2 ⟨cq (by omega),cq (by omega)⟩) (bT (cap (by rw[gS,nc,nc,Bl,Bl,dC];simp;omega) (by omega)) ?_)));rw[bz (by omega)];have Ye:=jf;rw[Int.toNat_natCast] at Ye;refine congrArg (fun z=>some (Sum.inl z)) (cx rfl (cx rfl (cx rfl (cx ?_ Ye))));have:=aiP l k;rw[dC] at this;exact this
   ·rcases D9 hs with hs|rfl
    ·exact a2 s hs
    ·refine ⟨by rw[oG,hr.1],fun y hy=> ?_⟩;rcases D9 hy with hy|rfl
     ·exact hr.2 y hy
     ·exact Fq
   ·rcases eD.1 hy with hy|hy
    ·exact a4 y (List.mem_of_mem_take hy)
    ·exact a4 y (List.mem_of_mem_drop hy)
  ·obtain ⟨N',u,l,a1,a2,a3,a4,rfl⟩:=hx;rw[dq] at*
   simp only[Fm,Fl,un];exact ⟨_,bF (aV (aw _)) rfl,N',u,nS l,a1,a2,cx rfl (cx (aV (aw _)) rfl)⟩
 have key:=jB (step:=KH CC (L:Int) (n:Int) 0 0 (L:Int) (st:Int) [] [] (F.map V.bool)) (fun a x=> ∃(N':List (List Nat)) (u:Tp),N'.length=n∧(∀r∈N',r.length=L∧∀y∈r,y<n)∧x=((a:Int),u.l.map iV,(u.k:Int),cO N'))
  (fun o=> ∃(N':List (List Nat)) (u:Tp),N'.length=n∧(∀r∈N',r.length=L∧∀y∈r,y<n)∧o=((L:Int),false,u.l.map iV,(u.k:Int),cO N')) L 0 (0,u0.l.map iV,(u0.k:Int),cO N0) (fun a _ ha x hx=> ?_) (fun x hx=> ?_) ⟨N0,u0,f2,f3,rfl⟩
 ·obtain ⟨o,e,N,u,a1,a2,rfl⟩:=key;refine ⟨F,N,st,u,⟨by omega,by omega,fun r hr=>by rw[a1];exact a2 r hr⟩,by omega,by omega,aiO ?_⟩;unfold Yc;have hw:wrap .i64 (1+(V.nth [V.int .i64 (v:Int),t1.L,t1.K] 0).toInt)=(n:Int):=by
   show wrap .i64 (1+(v:Int))=_;rw[show (1+(v:Int))=(n:Int) by omega];exact wrap64 (by omega) (by omega)
  refine bs e1 ?_;rw[hw];exact bs e2 (bs eL1 (bs e rfl))
 ·obtain ⟨N',u,a1,a2,rfl⟩:=hx;obtain ⟨N2,u2,l,b1,b2,e⟩:=l3 (a:=a) (by omega) (w:=u) a1 a2;simp only[KH,Fo,un];refine ⟨_,bT (bp (by omega)) (bs l2 (bs e rfl)),N2,u2,b1,b2,?_⟩;exact cx (bz (by omega)) rfl
 ·obtain ⟨N',u,a1,a2,rfl⟩:=hx;rw[dq] at*
  simp only[KH,Fo,un];exact ⟨_,bF (aV (aw _)) rfl,N',u,a1,a2,cx rfl (cx (aV (aw _)) rfl)⟩
noncomputable def Fs (C:af) (aO:Int) (w:List UInt8) (a:Int) (v:List UInt8) (t23 t24 t51:Int) (bO:LV) (bP lz lA bj bt:Int) (ls rows aU aF aP bm:LV) (to t52:Int) {β:Type} (kn:(Int×Int)→Option β) (kr:(Int×Int×Bool)→Option β):Option β:=
 bif decide (t52<t51) then
  aM ls t52 fun x5=>
  bif x5.toStr==v then
  kn (t52,wrap .i64 (t52+1))
  else
  kn (to,wrap .i64 (t52+1))
 else
  kr (to,t52,decide (t52<t51))
noncomputable def Ft (C:af) (aO:Int) (w:List UInt8) (a:Int) (v:List UInt8) (t23 t24 t51:Int) (bO:LV) (bP lz lA bj bt:Int) (ls rows aU aF aP bm:LV):=un fun to t52=>Fs C aO w a v t23 t24 t51 bO bP lz lA bj bt ls rows aU aF aP bm to t52 (fun y=>some (Sum.inl y)) (fun r=>some (Sum.inr r))
noncomputable def zc (C:af) (aO:Int) (w:List UInt8) (a t23 t24:Int) (bO:LV) (bP lz lA bj bt:Int) (ls rows aU aF aP bm:LV) (v:List UInt8) (to:Int) {β:Type} (kn:((List UInt8)×Int)→Option β) (kr:((List UInt8)×Int×Bool)→Option β):Option β:=
 bif to==(-1) then
  (Loop (Ft C aO w a v t23 t24 (ls.length:Int) bO bP lz lA bj bt ls rows aU aF aP bm) (to,0)).bind (un fun aiR=>un fun (mL:Int) (vD:Bool)=>
   bif decide (1≤(v.length:Int)) then
   kn ((v.drop 1).take (v.length-1),aiR)
   else none)
 else
  kr (v,to,to==(-1))
noncomputable def zd (C:af) (aO:Int) (w:List UInt8) (a t23 t24:Int) (bO:LV) (bP lz lA bj bt:Int) (ls rows aU aF aP bm:LV):=un fun v to=>zc C aO w a t23 t24 bO bP lz lA bj bt ls rows aU aF aP bm v to (fun y=>some (Sum.inl y)) (fun r=>some (Sum.inr r))
noncomputable def Fu (C:af) (aO:Int) (w:List UInt8) (t23 t24:Int) (bO:LV) (bP lz lA bj bt:Int) (ls aU aF aP bm:LV) (a:Int) (rows:LV) {β:Type} (kn:(Int×LV)→Option β) (kr:(Int×Bool×LV)→Option β):Option β:=
 bif decide (a<aO) then
  bif Nat.ble (w.length+(lg ([.int .u8 (wrap .u8 (wrap .i64 (97+a)))]:LV)).length) pg then
  (Loop (zd C aO w a t23 t24 bO bP lz lA bj bt ls rows aU aF aP bm) (w++(lg ([.int .u8 (wrap .u8 (wrap .i64 (97+a)))]:LV)),(-1))).bind (un fun (v_9:List UInt8)=>un fun (Yf:Int) (y6:Bool)=>
   bif Nat.ble ((rows.length+([V.int .i64 Yf]:LV).length)*8) aX then
    kn (wrap .i64 (a+1),rows++([V.int .i64 Yf]:LV))
   else none)
  else none
 else
  kr (a,decide (a<aO),rows)
noncomputable def Fv (C:af) (aO:Int) (w:List UInt8) (t23 t24:Int) (bO:LV) (bP lz lA bj bt:Int) (ls aU aF aP bm:LV):=un fun a rows=>Fu C aO w t23 t24 bO bP lz lA bj bt ls aU aF aP bm a rows (fun y=>some (Sum.inl y)) (fun r=>some (Sum.inr r))
noncomputable def Fw (C:af) (aO t23 lz lA bj bt:Int) (ls aW aU:LV) (t24:Int) (bO:LV) (bP:Int) (aF aP:LV) {β:Type} (kn:(Int×LV×Int×LV×LV)→Option β) (kr:(Int×Bool×LV×Int×LV×LV)→Option β):Option β:=
 bif decide (t24<t23) then
  aM ls t24 fun x3=>
  (C oN [V.int .i64 2,.list ab bO,V.int .i64 bP]).bind fun r4=>
  bif Nat.ble ((aF.length+([.bool ((((V.nth r4 0).toInt):Int)==1)]:LV).length)*1) aX then
  (Loop (Fv C aO x3.toStr t23 t24 ((V.nth (r4.drop 1) 0).toList) ((V.nth ((r4.drop 1).drop 1) 0).toInt) lz lA bj bt ls aW aU (aF++([.bool ((((V.nth r4 0).toInt):Int)==1)]:LV)) aP) (0,([]:LV))).bind (un fun azq=>un fun (B6:Bool) (aiS:LV)=>
   bif Nat.ble ((aP.length+1)*24) aX then
    kn (wrap .i64 (t24+1),(V.nth (r4.drop 1) 0).toList,(V.nth ((r4.drop 1).drop 1) 0).toInt,aF++([.bool ((((V.nth r4 0).toInt):Int)==1)]:LV),aP++([.list ab aiS]:LV))
   else none)
  else none
 else
  kr (t24,decide (t24<t23),bO,bP,aF,aP)
noncomputable def Fx (C:af) (aO t23 lz lA bj bt:Int) (ls aW aU:LV):=un fun t24=>un fun bO=>un fun bP=>un fun aF aP=>Fw C aO t23 lz lA bj bt ls aW aU t24 bO bP aF aP (fun y=>some (Sum.inl y)) (fun r=>some (Sum.inr r))
noncomputable def KK (C:af):cD:=bI 241 Qt [EQ,EQ,EQ,EQ,H1,EQ,EQ,EQ,H1,EQ,EQ,EQ,EQ,EQ,EQ,EQ,EQ,EQ,EQ,EQ,EQ] [[1,2,3,4,0,6,7,8,0,0,10,11,12,13,14,15,16,17,18,19,20,21]] (@Fs C) (bI 209 Qu [EQ,EQ,EQ,H1,H1,EQ,EQ,EQ,EQ,EQ,EQ,EQ,EQ,EQ,EQ,EQ,EQ,EQ,EQ] [[1,2,3,0,0,6,7,0,8,9,10,11,12,13,14,15,16,17,18,19]] (@zc C) (bI 145 Qv [EQ,EQ,H1,EQ,EQ,EQ,EQ,EQ,EQ,EQ,EQ,EQ,H1,EQ,EQ,EQ,EQ] [[1,2,0,4,5,0,6,7,8,9,10,11,12,0,14,15,16,17]] (@Fu C) (bI 65 Qw [EQ,EQ,H1,H1,H1,EQ,EQ,EQ,EQ,EQ,EQ,EQ,H1,H1] [[1,2,0,0,0,0,6,7,8,9,10,11,12,0,0]] (@Fw C) bB)))
theorem aiT (C:af):bD C (KK C) 26 (Lp [1,1,1,0,1,0,0,1,1,0,0,1,1,1,0,1,0,0,1,0,0,1,1,0,0,0,1,0,0,1,0,0] 26):=bJ Qt [EQ,EQ,EQ,EQ,H1,EQ,EQ,EQ,H1,EQ,EQ,EQ,EQ,EQ,EQ,EQ,EQ,EQ,EQ,EQ,EQ] [[1,2,3,4,0,6,7,8,0,0,10,11,12,13,14,15,16,17,18,19,20,21]] (@Fs C) (bq au)
theorem aiU (C:af):bD C (KK C) 26 (Lp [1,1,1,0,1,0,0,1,1,0,0,1,1,1,0,1,0,0,1,0,0,1,1,0,0,0] 26):=bJ Qu [EQ,EQ,EQ,H1,H1,EQ,EQ,EQ,EQ,EQ,EQ,EQ,EQ,EQ,EQ,EQ,EQ,EQ,EQ] [[1,2,3,0,0,6,7,0,8,9,10,11,12,13,14,15,16,17,18,19]] (@zc C) (bq (bE (aiT C) au))
theorem aiV (C:af):bD C (KK C) 26 (Lp [1,1,1,0,1,0,0,1,1,0,0,1,1,1,0,1,0,0] 26):=bJ Qv [EQ,EQ,H1,EQ,EQ,EQ,EQ,EQ,EQ,EQ,EQ,EQ,H1,EQ,EQ,EQ,EQ] [[1,2,0,4,5,0,6,7,8,9,10,11,12,0,14,15,16,17]] (@Fu C) (bq (bE (aiU C) au))
theorem aiW (C:af):bD C (KK C) 26 (Lp [1,1,1,0,1,0,0] 26):=bJ Qw [EQ,EQ,H1,H1,H1,EQ,EQ,EQ,EQ,EQ,EQ,EQ,H1,H1] [[1,2,0,0,0,0,6,7,8,9,10,11,12,0,0]] (@Fw C) (bq (bE (aiV C) au))
noncomputable def Yg (C:af) (aO:Int) (bO:LV) (bP:Int):Option LV:=
 (C oN [V.int .i64 2,.list ab bO,V.int .i64 bP]).bind fun r1=>
 (C ze [V.int .i64 aO,V.int .i64 (wrap .i64 (1+((V.nth r1 0).toInt)))]).bind fun r2=>
 (Loop (Fx C aO (((V.nth r2 0).toList).length:Int) 0 0 aO 0 ((V.nth r2 0).toList) ([]:LV) ([]:LV)) (0,(V.nth (r1.drop 1) 0).toList,(V.nth ((r1.drop 1).drop 1) 0).toInt,([]:LV),([]:LV))).bind (un fun Kx=>un fun (zf:Bool)=>un fun (aiX:LV)=>un fun aiY=>un fun (qw:LV) (pG:LV)=>
  some [V.int .i64 aO,V.int .i64 0,.list ab aiX,V.int .i64 aiY,.list ak qw,.list ag pG])
theorem aiZ {aO:Int} {bO:LV} {bP:Int} {r:Option LV} (h:Yg CC aO bO bP=r):CC KL [V.int .i64 aO,.list ab bO,V.int .i64 bP]=r:=bC (bE (aiW CC) au) h
section
variable {ws:List (List UInt8)} (hw:ws.length≤100)
include hw
theorem Yh {L a t23 t24 k x1 x2 x3 x4:Int} {w v:List UInt8} {y0 y1 y2 y3 y4 y5:LV} {to:Int} (vE:to= -1): ∃lC:Int,(lC= -1∧v∉ws∨∃i:Nat,i<ws.length∧lC=(i:Int))∧
  Loop (Ft CC L w a v t23 t24 (ws.length:Int) y0 k x1 x2 x3 x4 (ws.map V.str) y1 y2 y3 y4 y5) (to,0)=some (lC,(ws.length:Int),false):=by
 subst vE;have key:=jB (step:=Ft CC L w a v t23 t24 (ws.length:Int) y0 k x1 x2 x3 x4 (ws.map V.str) y1 y2 y3 y4 y5) (fun j x=> ∃lC:Int,(lC= -1∧v∉ws.take j∨∃i:Nat,i<ws.length∧lC=(i:Int))∧x=(lC,(j:Int)))
  (fun o=> ∃lC:Int,(lC= -1∧v∉ws∨∃i:Nat,i<ws.length∧lC=(i:Int))∧o=(lC,(ws.length:Int),false)) ws.length 0 ((-1:Int),0) (fun j _ hj x hx=> ?_) (fun x hx=> ?_) ⟨-1,.inl ⟨rfl,by simp⟩,rfl⟩
 ·obtain ⟨o,e,lC,h1,rfl⟩:=key;exact ⟨lC,h1,e⟩
 ·obtain ⟨lC,h1,rfl⟩:=hx;have dX:j<ws.length:=by omega
  have hg:(ws.map V.str)[j]? =some (.str ws[j]):=by simp[dX]
  simp only[Ft,Fs,un];by_cases c:(ws[j]==v)=true
  ·exact ⟨((j:Int),((j+1:Nat):Int)),bT (bp dX) ((bY hg).trans (bT c (by rw[bz (by omega)]))),(j:Int),.inr ⟨j,dX,rfl⟩,rfl⟩
  ·have c:(ws[j]==v)=false:=by simpa using c
   refine ⟨(lC,((j+1:Nat):Int)),bT (bp dX) ((bY hg).trans (bF c (by rw[bz (by omega)]))),lC,?_,rfl⟩;rcases h1 with ⟨h1,h2⟩|h1
   ·refine .inl ⟨h1,fun hm=> ?_⟩;rw[Pg dX] at hm;rcases eD.1 hm with hm|hm
    ·exact h2 hm
    ·rw[fx.1 hm] at c;simp at c
   ·exact .inr h1
 ·obtain ⟨lC,h1,rfl⟩:=hx;rw[dq] at*
  rw[wR] at h1;simp only[Ft,Fs,un];exact ⟨_,bF (aV (aw _)) rfl,lC,h1,cx rfl (cx rfl (aV (aw _)))⟩
theorem ai0 {L a t23 t24 k x1 x2 x3 x4:Int} {w:List UInt8} {y0 y1 y2 y3 y4 y5:LV} {b:UInt8} (hb:[b]∈ws): ∀(p:List UInt8),∃(v:List UInt8) (i:Nat),i<ws.length∧
  Loop (zd CC L w a t23 t24 y0 k x1 x2 x3 x4 (ws.map V.str) y1 y2 y3 y4 y5) (p++[b],-1)=some (v,(i:Int),false):=by
 have fin: ∀{v:List UInt8} {i:Nat},Loop (zd CC L w a t23 t24 y0 k x1 x2 x3 x4 (ws.map V.str) y1 y2 y3 y4 y5) (v,(i:Int))=some (v,(i:Int),false):=fun {v i}=>by
  refine jY ?_;simp only[zd,zc,un];have hf:((i:Int)==(-1))=false:=by rw[uV];omega
  exact bF hf (by rw[hf])
 intro p
 induction p with
 | nil=>
  obtain ⟨lC,h1,e⟩:=Yh hw (L:=L) (a:=a) (t23:=t23) (t24:=t24) (k:=k) (x1:=x1) (x2:=x2) (x3:=x3) (x4:=x4) (w:=w) (v:=[b]) (y0:=y0) (y1:=y1) (y2:=y2) (y3:=y3) (y4:=y4) (y5:=y5) rfl;rcases h1 with ⟨_,h1⟩|⟨i,hi,rfl⟩
  ·exact absurd hb h1
  ·refine ⟨[],i,hi,(iS (y:=([],(i:Int))) ?_).trans fin⟩;simp only[zd,zc,un];rw[cY];refine bT rfl (bs e ?_);simp only[un];exact bT rfl rfl
 | cons c p ih=>
  obtain ⟨lC,h1,e⟩:=Yh hw (L:=L) (a:=a) (t23:=t23) (t24:=t24) (k:=k) (x1:=x1) (x2:=x2) (x3:=x3) (x4:=x4) (w:=w) (v:=c::(p++[b])) (y0:=y0) (y1:=y1) (y2:=y2) (y3:=y3) (y4:=y4) (y5:=y5) rfl;have hlen:decide (1≤(((c::(p++[b])).length:Nat):Int))=true:=cq (by simp;omega);have Yi:((c::(p++[b])).drop 1).take ((c::(p++[b])).length-1)=p++[b]:=by
   show (p++[b]).take _=_;exact List.take_of_length_le (by simp)
  rcases h1 with ⟨rfl,_⟩|⟨i,hi,rfl⟩
  ·obtain ⟨v,i,hi,e2⟩:=ih;refine ⟨v,i,hi,(iS ?_).trans e2⟩;simp only[zd,zc,un,List.cons_append];rw[cY];refine bT rfl (bs e (bT hlen ?_));rw[Yi]
  ·refine ⟨p++[b],i,hi,(iS ?_).trans fin⟩;simp only[zd,zc,un,List.cons_append];rw[cY];refine bT rfl (bs e (bT hlen ?_));rw[Yi]
end
theorem ai1 {ws:List (List UInt8)} (hw:ws.length≤100) (hwl: ∀w∈ws,w.length≤100) {L:Nat} (hL:L≤2) (ai2: ∀a,a<L→[UInt8.ofNat (97+a)]∈ws) (t:Tp): ∃(F:List Bool) (N:List (List Nat)) (u:Tp),F.length=ws.length∧N.length=ws.length∧(∀r∈N,r.length=L∧∀y∈r,y<ws.length)∧
  Loop (Fx CC (L:Int) (ws.length:Int) 0 0 (L:Int) 0 (ws.map V.str) [] []) (0,t.l.map iV,(t.k:Int),([]:LV),([]:LV))=some ((ws.length:Int),false,u.l.map iV,(u.k:Int),F.map V.bool,cO N):=by
 have ai3: ∀a:Nat,a<L→lg ([.int .u8 (wrap .u8 (wrap .i64 (97+(a:Int))))]:LV)=[UInt8.ofNat (97+a)]:=fun a ha=>by
  rcases (by omega:a=0∨a=1) with rfl|rfl<;>rfl
 have row: ∀{w:List UInt8} (hwi:w.length≤100) {x1 x2 x3 x4 x5 x6 x7:Int} {y0 y1 y2 y3 y4:LV},∃r:List Nat,r.length=L∧(∀y∈r,y<ws.length)∧
   Loop (Fv CC (L:Int) w x1 x2 y0 x3 x4 x5 x6 x7 (ws.map V.str) y1 y2 y3 y4) (0,([]:LV))=some ((L:Int),false,nS r):=by
  intro w hwi x1 x2 x3 x4 x5 x6 x7 y0 y1 y2 y3 y4;have key:=jB (step:=Fv CC (L:Int) w x1 x2 y0 x3 x4 x5 x6 x7 (ws.map V.str) y1 y2 y3 y4) (fun a x=> ∃r:List Nat,r.length=a∧(∀y∈r,y<ws.length)∧x=((a:Int),nS r))
   (fun o=> ∃r:List Nat,r.length=L∧(∀y∈r,y<ws.length)∧o=((L:Int),false,nS r)) L 0 (0,nS []) (fun a _ ha x hx=> ?_) (fun x hx=> ?_) ⟨[],rfl,fun _ h=>(by cases h),rfl⟩
  ·obtain ⟨o,e,r,a1,a2,rfl⟩:=key;exact ⟨r,a1,a2,e⟩
  ·obtain ⟨r,a1,a2,rfl⟩:=hx;have Qx:a<L:=by omega
   obtain ⟨v,i,hi,e⟩:=ai0 hw (ai2 a Qx) (L:=(L:Int)) (a:=(a:Int)) (t23:=x1) (t24:=x2) (k:=x3) (x1:=x4) (x2:=x5) (x3:=x6) (x4:=x7) (w:=w) (y0:=y0) (y1:=nS r) (y2:=y1) (y3:=y2) (y4:=y3) (y5:=y4) w;simp only[Fv,Fu,un];rw[ai3 a Qx];refine ⟨(((a+1:Nat):Int),nS (r++[i])),bT (bp Qx) (bT (yw (by unfold pg;simp;omega)) (bs e ?_)),r++[i],by simp;omega,fun y hy=> ?_,rfl⟩
   ·simp only[un];refine bT (cap (a:=(nS r).length) (b:=1) (by rw[dC];omega) (by omega)) ?_;rw[bz (by omega)];simp[nS,nV]
   ·rcases eD.1 hy with hy|hy
    ·exact a2 y hy
    ·rw[fx.1 hy];exact hi
  ·obtain ⟨r,a1,a2,rfl⟩:=hx;rw[dq] at*
   simp only[Fv,Fu,un];exact ⟨_,bF (aV (aw _)) rfl,r,a1,a2,cx rfl (cx (aV (aw _)) rfl)⟩
 have key:=jB (step:=Fx CC (L:Int) (ws.length:Int) 0 0 (L:Int) 0 (ws.map V.str) [] []) (fun i x=> ∃(F:List Bool) (N:List (List Nat)) (u:Tp),F.length=i∧N.length=i∧(∀r∈N,r.length=L∧∀y∈r,y<ws.length)∧x=((i:Int),u.l.map iV,(u.k:Int),F.map V.bool,cO N))
  (fun o=> ∃(F:List Bool) (N:List (List Nat)) (u:Tp),F.length=ws.length∧N.length=ws.length∧(∀r∈N,r.length=L∧∀y∈r,y<ws.length)∧o=((ws.length:Int),false,u.l.map iV,(u.k:Int),F.map V.bool,cO N)) ws.length 0 (0,t.l.map iV,(t.k:Int),([]:LV),([]:LV)) (fun i _ hi x hx=> ?_) (fun x hx=> ?_) ⟨[],[],t,rfl,rfl,fun _ h=>(by cases h),rfl⟩
 ·obtain ⟨o,e,F,N,u,a1,a2,a3,rfl⟩:=key;exact ⟨F,N,u,a1,a2,a3,e⟩
 ·obtain ⟨F,N,u,a1,a2,a3,rfl⟩:=hx;have bu:i<ws.length:=by omega
  obtain ⟨k,u2,hk,e⟩:=rH u (n:=2) (by omega) (by omega);have hg:(ws.map V.str)[i]? =some (.str ws[i]):=by simp[bu]
  obtain ⟨r,b1,b2,er⟩:=row (hwl _ (dr bu)) (x1:=(ws.length:Int)) (x2:=(i:Int)) (x3:=(u2.k:Int)) (x4:=0) (x5:=0) (x6:=(L:Int)) (x7:=0) (y0:=u2.l.map iV) (y1:=[]) (y2:=[]) (y3:=F.map V.bool++[.bool ((k:Int)==1)]) (y4:=cO N);simp only[Fx,Fw,un];refine ⟨(((i+1:Nat):Int),u2.l.map iV,(u2.k:Int),F.map V.bool++[.bool ((k:Int)==1)],cO N++[.list ab (nS r)]),bT (bp bu) ((bY hg).trans (bs e (bT (cap (a:=(F.map V.bool).length) (b:=1) (by rw[cY];omega) (by omega)) (bs er ?_)))),F++[(k:Int)==1],N++[r],u2,by simp;omega,by simp;omega,fun s hs=> ?_,?_⟩
  ·simp only[un];refine bT (cap (a:=(cO N).length) (b:=1) (by rw[Qm];omega) (by omega)) ?_;rw[bz (by omega)];rfl
  ·rcases eD.1 hs with hs|hs
   ·exact a3 s hs
   ·rw[fx.1 hs];exact ⟨b1,b2⟩
  ·simp[cO]
 ·obtain ⟨F,N,u,a1,a2,a3,rfl⟩:=hx;rw[dq] at*
  simp only[Fx,Fw,un];exact ⟨_,bF (aV (aw _)) rfl,F,N,u,a1,a2,a3,cx rfl (cx (aV (aw _)) rfl)⟩
noncomputable def B7 (C:af) (aO dH:Int) (bO:LV) (bP:Int):Option LV:=
 (C oN [V.int .i64 6,.list ab bO,V.int .i64 bP]).bind fun r1=>
 bif (((V.nth r1 0).toInt):Int)==1 then
  (C Ky [V.int .i64 aO,V.int .i64 dH,.list ab ((V.nth (r1.drop 1) 0).toList),V.int .i64 ((V.nth ((r1.drop 1).drop 1) 0).toInt)]).bind fun r2=>
  some [V.int .i64 ((V.nth r2 0).toInt),V.int .i64 ((V.nth (r2.drop 1) 0).toInt),.list ab ((V.nth (r2.drop 2) 0).toList),V.int .i64 ((V.nth ((r2.drop 2).drop 1) 0).toInt),.list ak ((V.nth ((r2.drop 2).drop 2) 0).toList),.list ag ((V.nth (((r2.drop 2).drop 2).drop 1) 0).toList)]
 else
  bif (((V.nth r1 0).toInt):Int)==2 then
  (C KJ [V.int .i64 aO,V.int .i64 (if 4<dH then 4 else dH),.list ab ((V.nth (r1.drop 1) 0).toList),V.int .i64 ((V.nth ((r1.drop 1).drop 1) 0).toInt)]).bind fun r3=>
  some [V.int .i64 ((V.nth r3 0).toInt),V.int .i64 ((V.nth (r3.drop 1) 0).toInt),.list ab ((V.nth (r3.drop 2) 0).toList),V.int .i64 ((V.nth ((r3.drop 2).drop 1) 0).toInt),.list ak ((V.nth ((r3.drop 2).drop 2) 0).toList),.list ag ((V.nth (((r3.drop 2).drop 2).drop 1) 0).toList)]
  else
  bif (((V.nth r1 0).toInt):Int)==3 then
   (C KL [V.int .i64 aO,.list ab ((V.nth (r1.drop 1) 0).toList),V.int .i64 ((V.nth ((r1.drop 1).drop 1) 0).toInt)]).bind fun r4=>
   some [V.int .i64 ((V.nth r4 0).toInt),V.int .i64 ((V.nth (r4.drop 1) 0).toInt),.list ab ((V.nth (r4.drop 2) 0).toList),V.int .i64 ((V.nth ((r4.drop 2).drop 1) 0).toInt),.list ak ((V.nth ((r4.drop 2).drop 2) 0).toList),.list ag ((V.nth (((r4.drop 2).drop 2).drop 1) 0).toList)]
  else
   (C Fb [V.int .i64 aO,V.int .i64 dH,.list ab ((V.nth (r1.drop 1) 0).toList),V.int .i64 ((V.nth ((r1.drop 1).drop 1) 0).toInt)]).bind fun r5=>
   some [V.int .i64 ((V.nth r5 0).toInt),V.int .i64 ((V.nth (r5.drop 1) 0).toInt),.list ab ((V.nth (r5.drop 2) 0).toList),V.int .i64 ((V.nth ((r5.drop 2).drop 1) 0).toInt),.list ak ((V.nth ((r5.drop 2).drop 2) 0).toList),.list ag ((V.nth (((r5.drop 2).drop 2).drop 1) 0).toList)]
theorem ai4 {aO dH:Int} {bO:LV} {bP:Int} {r:Option LV} (h:B7 CC aO dH bO bP=r):CC Fy [V.int .i64 aO,V.int .i64 dH,.list ab bO,V.int .i64 bP]=r:=bC (L:=bB) au h
noncomputable def Yj (C:af) (bO:LV) (bP:Int):Option LV:=
 (C oN [V.int .i64 8,.list ab bO,V.int .i64 bP]).bind fun r1=>
 some [V.int .i64 (wrap .i64 (2-(wrap .i64 (Int.tdiv ((V.nth r1 0).toInt) 7)))),.list ab ((V.nth (r1.drop 1) 0).toList),V.int .i64 ((V.nth ((r1.drop 1).drop 1) 0).toInt)]
theorem ai5 {bO:LV} {bP:Int} {r:Option LV} (h:Yj CC bO bP=r):CC KM [.list ab bO,V.int .i64 bP]=r:=bC (L:=bB) au h
noncomputable def Yk (C:af) (l:LV) (dH:Int):Option LV:=
 (C Kt [.list ab l]).bind fun r1=>
 (C KM [.list ab ((V.nth r1 0).toList),V.int .i64 ((V.nth (r1.drop 1) 0).toInt)]).bind fun r2=>
 (C Fy [V.int .i64 ((V.nth r2 0).toInt),V.int .i64 dH,.list ab ((V.nth (r2.drop 1) 0).toList),V.int .i64 ((V.nth ((r2.drop 1).drop 1) 0).toInt)]).bind fun r3=>
 some [V.int .i64 ((V.nth r3 0).toInt),V.int .i64 ((V.nth (r3.drop 1) 0).toInt),.list ak ((V.nth ((r3.drop 2).drop 2) 0).toList),.list ag ((V.nth (((r3.drop 2).drop 2).drop 1) 0).toList)]
theorem ai6 {l:LV} {dH:Int} {r:Option LV} (h:Yk CC l dH=r):CC KN [.list ab l,V.int .i64 dH]=r:=bC (L:=bB) au h
def B8 (L k:Nat):List (List UInt8):=
 if L=1 then (if k=1 then [[],[97]] else [[],[97],[97,97]])
 else (if k=1 then [[],[97],[98]] else [[],[97],[98],[97,97],[97,98],[98,97],[98,98]])
theorem ai7:CC ze [.int .i64 1,.int .i64 1]=some [.list cu [.str [],.str [97]]]:=aG (N:=60) (n:=30) (by kernel_rfl)
theorem ai8:CC ze [.int .i64 1,.int .i64 2]=some [.list cu [.str [],.str [97],.str [97,97]]]:=aG (N:=60) (n:=30) (by kernel_rfl)
theorem ai9:CC ze [.int .i64 2,.int .i64 1]=some [.list cu [.str [],.str [97],.str [98]]]:=aG (N:=60) (n:=30) (by kernel_rfl)
theorem aja:CC ze [.int .i64 2,.int .i64 2]=some [.list cu [.str [],.str [97],.str [98],.str [97,97],.str [97,98],.str [98,97],.str [98,98]]]:=aG (N:=60) (n:=30) (by kernel_rfl)
theorem ajb {L k:Nat} (h1:1≤L) (h2:L≤2) (k1:1≤k) (k2:k≤2):CC ze [.int .i64 (L:Int),.int .i64 (k:Int)]=some [.list cu ((B8 L k).map V.str)]:=by
 rcases (by omega:L=1∨L=2) with rfl|rfl<;>rcases (by omega:k=1∨k=2) with rfl|rfl
 ·exact ai7
 ·exact ai8
 ·exact ai9
 ·exact aja
theorem ajc {L k:Nat} (h1:1≤L) (h2:L≤2) (k1:1≤k) (k2:k≤2):1≤(B8 L k).length∧(B8 L k).length≤7∧(∀w∈B8 L k,w.length≤100)∧∀a,a<L→[UInt8.ofNat (97+a)]∈B8 L k:=by
 rcases (by omega:L=1∨L=2) with rfl|rfl<;>rcases (by omega:k=1∨k=2) with rfl|rfl<;>decide
theorem ajd (t:Tp) {L:Nat} (h1:1≤L) (h2:L≤2): ∃(F:List Bool) (N:List (List Nat)) (u:Tp),FN L F N∧N.length≤7∧
  CC KL [.int .i64 (L:Int),t.L,t.K]=some [.int .i64 (L:Int),.int .i64 0,u.L,u.K,.list ak (F.map V.bool),.list ag (cO N)]:=by
 obtain ⟨v,t1,hv,e1⟩:=rH t (n:=2) (by omega) (by omega);obtain ⟨w1,w2,w3,w4⟩:=ajc (L:=L) (k:=v+1) h1 h2 (by omega) (by omega);have hW:=ajb (L:=L) (k:=v+1) h1 h2 (by omega) (by omega);generalize B8 L (v+1)=ws at*
 obtain ⟨F,N,u,a1,a2,a3,e⟩:=ai1 (ws:=ws) (by omega) w3 h2 w4 t1;refine ⟨F,N,u,⟨by omega,by omega,fun r hr=>by rw[a2];exact a3 r hr⟩,by omega,aiZ ?_⟩;unfold Yg;have hw:wrap .i64 (1+(V.nth [V.int .i64 (v:Int),t1.L,t1.K] 0).toInt)=((v+1:Nat):Int):=by
  show wrap .i64 (1+(v:Int))=_;rw[show (1+(v:Int))=((v+1:Nat):Int) by omega];exact wrap64 (by omega) (by omega)
 refine bs e1 ?_;rw[hw];refine bs hW ?_;have hl:((V.nth [V.list cu (ws.map V.str)] 0).toList.length:Int)=(ws.length:Int):=by show ((ws.map V.str).length:Int)=_;rw[cY]
 rw[hl];exact bs e rfl
theorem aje (t:Tp) {L m:Nat} (h1:1≤L) (h2:L≤2) (hm:1≤m) (tQ:m≤4): ∃(F:List Bool) (N:List (List Nat)) (st:Nat) (u:Tp),FN L F N∧N.length≤7∧st<N.length∧
  CC Fy [.int .i64 (L:Int),.int .i64 (m:Int),t.L,t.K]=some [.int .i64 (L:Int),.int .i64 (st:Int),u.L,u.K,.list ak (F.map V.bool),.list ag (cO N)]:=by
 obtain ⟨v,t1,hv,e1⟩:=rH t (n:=6) (by omega) (by omega);have A: ∀z,B7 CC (L:Int) (m:Int) (t.l.map iV) (t.k:Int)=z→CC Fy [.int .i64 (L:Int),.int .i64 (m:Int),t.L,t.K]=z:=fun z h=>ai4 h;have B9: ∀k:Nat,v≠k→((V.nth [V.int .i64 (v:Int),t1.L,t1.K] 0).toInt==(k:Int))=false:=fun k hk=>by
  show ((v:Int)==(k:Int))=false;rw[uV];omega
 by_cases c1:v=1
 ·subst c1;obtain ⟨F,N,u,a1,a2,e⟩:=aiD t1 h1 (L:=L) (m:=m) (by omega) hm (by omega);refine ⟨F,N,0,u,a1,by omega,a1.pos,A _ ?_⟩;unfold B7;exact bs e1 (bT rfl (bs e rfl))
 by_cases c2:v=2
 ·subst c2;obtain ⟨F,N,st,u,a1,a2,a3,e⟩:=aiQ t1 h1 (L:=L) (m:=m) (by omega) hm (by omega);refine ⟨F,N,st,u,a1,by omega,a3,A _ ?_⟩;unfold B7;have KO:(if (4:Int)<(m:Int) then (4:Int) else (m:Int))=(m:Int):=aC (by omega);refine bs e1 (bF (B9 1 (by omega)) (bT rfl ?_));rw[KO];exact bs e rfl
 by_cases c3:v=3
 ·subst c3;obtain ⟨F,N,u,a1,a2,e⟩:=ajd t1 h1 h2;refine ⟨F,N,0,u,a1,a2,a1.pos,A _ ?_⟩;unfold B7;exact bs e1 (bF (B9 1 (by omega)) (bF (B9 2 (by omega)) (bT rfl (bs e rfl))))
 ·obtain ⟨F,N,st,u,a1,a2,a3,e⟩:=X7 t1 h1 (L:=L) (m:=m) (by omega) hm (by omega);refine ⟨F,N,st,u,a1,by omega,a3,A _ ?_⟩;unfold B7;exact bs e1 (bF (B9 1 c1) (bF (B9 2 c2) (bF (B9 3 c3) (bs e rfl))))
theorem ajf (t:Tp): ∃(L:Nat) (u:Tp),1≤L∧L≤2∧CC KM [t.L,t.K]=some [.int .i64 (L:Int),u.L,u.K]:=by
 obtain ⟨v,t1,hv,e1⟩:=rH t (n:=8) (by omega) (by omega);have key: ∀v:Nat,v<8→∃L:Nat,1≤L∧L≤2∧wrap .i64 (2-(wrap .i64 (Int.tdiv ((v:Nat):Int) 7)))=(L:Int):=fun v hv=>by
  rcases (by omega:v=0∨v=1∨v=2∨v=3∨v=4∨v=5∨v=6∨v=7) with rfl|rfl|rfl|rfl|rfl|rfl|rfl|rfl
  all_goals first|exact ⟨2,by omega,by omega,by decide⟩|exact ⟨1,by omega,by omega,by decide⟩
 obtain ⟨L,h1,h2,hL⟩:=key v hv;refine ⟨L,t1,h1,h2,ai5 ?_⟩;unfold Yj;refine bs e1 ?_;show some [V.int .i64 (wrap .i64 (2-(wrap .i64 (Int.tdiv ((v:Nat):Int) 7)))),_,_]=_;rw[hL];rfl
theorem ajg (l:List Int) {m:Nat} (hm:1≤m) (tQ:m≤4): ∃a:Da,a.Ok∧a.L≤2∧a.n≤7∧CC KN [.list ab (l.map iV),.int .i64 (m:Int)]=some (eY a):=by
 obtain ⟨t,e0⟩:=aip l;obtain ⟨L,t1,h1,h2,e1⟩:=ajf t;obtain ⟨F,N,st,u,hF,hN,hs,e2⟩:=aje t1 h1 h2 hm tQ;have aq:=hF.ok h1 (by omega) hs (by omega);refine ⟨⟨L,st,F,N⟩,aq,h2,by show F.length≤7;rw[hF.len];exact hN,?_⟩;rw[FN.leaves aq];refine ai6 ?_;unfold Yk;exact bs e0 (bs e1 (bs e2 rfl))
inductive xy (mul:Nat→Nat→Nat) (G:List Nat):Nat→Prop
 | one {g:Nat}:g∈G→xy mul G g
 | more {x g:Nat}:xy mul G x→g∈G→xy mul G (mul x g)
theorem xy.mono {mul:Nat→Nat→Nat} {G H:List Nat} (h: ∀g∈G,g∈H) {x:Nat} (hx:xy mul G x):xy mul H x:=by
 induction hx with
 | one hg=>exact .one (h _ hg)
 | more _ hg ih=>exact .more ih (h _ hg)
structure ClI (K:Nat) (mul:Nat→Nat→Nat) (G M:List Nat):Prop where
 gd:nw K M
 sub: ∀g∈G,g∈M
 pr: ∀x∈M,xy mul G x
 cl: ∀x∈M,∀g∈G,mul x g∈M
 gl:G.length≤M.length
end Go.AM
set_option maxRecDepth 100000
namespace Go.AM
open Go.IntKind (wrap)
open Go.Proofs Go.Sort
end Go.AM
set_option maxRecDepth 100000
namespace Go.AM
open Go.IntKind (wrap)
open Go.Proofs
structure KP (K:Nat) (mul:Nat→Nat→Nat) (G Z:List Nat):Prop where
 asc:Z.Pairwise (· < ·)
 lt: ∀x∈Z,x<K
 sub: ∀g∈G,g∈Z
 pr: ∀x∈Z,xy mul G x
 cl: ∀x∈Z,∀y∈Z,mul x y∈Z
section
variable {K:Nat} {mul:Nat→Nat→Nat} (h:Tb K mul) (ha: ∀i j k,i<K→j<K→k<K→mul (mul i j) k=mul i (mul j k))
include ha
end
theorem ajh {Z:List Nat} (h:Z.Pairwise (· < ·)):Z.Nodup:=h.imp fun h=>by omega
section
variable {K:Nat} {mul:Nat→Nat→Nat} {G Z:List Nat} (h:Tb K mul) (ha: ∀i j k,i<K→j<K→k<K→mul (mul i j) k=mul i (mul j k)) (hZ:KP K mul G Z)
include hZ
theorem KP.le:Z.length≤K:=nw.le ⟨ajh hZ.asc,hZ.lt⟩
include h
end
end Go.AM
set_option maxRecDepth 100000
namespace Go.AM
open Go.IntKind (wrap)
open Go.Proofs
namespace Da
theorem KQ.reach {d:Da} (h1:1≤d.L) (h:d.KQ): ∀t,t≤d.n*d.L→∀q,q<d.mt t→∃w,WL d.L w∧d.run 0 w=q
 | 0,_,q,hq=>⟨[],WL.nil,by have:q<1:=hq;show 0=q;omega⟩
 | t+1,ht,q,hq=>by
  have ih:=h.reach h1 t (by omega);rcases jq q (d.mt t) with c|c
  ·exact ih q c
  ·have e:d.pos t=q:=by
    unfold mt at hq;split at hq
    ·rename_i h3;omega
    ·omega
   have hx:t %d.L<d.L:=yx _ (by omega);have hp:t/d.L<d.n:=by rw[Jr (by omega)];omega
   have h2:=h.row _ hp;have h3:=d.KR (Nat.div_mul_le_self t d.L);obtain ⟨w,hw,hr⟩:=ih (t/d.L) (by omega);refine ⟨w++[t %d.L],WL.app.2 ⟨hw,WL.nil.cons hx⟩,?_⟩;rw[Yl,hr];exact e
end Da
theorem aji {a:Da} (h:a.Ok) {q:Nat} (hq:q<(minD a).n): ∃w,WL a.L w∧(minD a).run (minD a).st w=q:=by
 have hc:=xz h;obtain ⟨w,hw,hr⟩:=hc.num.reach (kH h).l1 _ (aw _) q (by rw[hc.num.all];exact hq);exact ⟨w,by rw[vF h] at hw;exact hw,by rw[Ym h];exact hr⟩
end Go.AM
set_option maxRecDepth 100000
namespace Go.AM
open Go.IntKind (wrap)
open Go.Proofs
namespace Da
def pre (a:Da) (k:Nat) (g:Nat→List Nat):Da:=⟨k,a.st,a.F,tab a.n fun q=>tab k fun x=>a.run q (g x)⟩
theorem Ok.pre {a:Da} (h:a.Ok) {k:Nat} {g:Nat→List Nat} (h1:1≤k) (h6:k≤6) (hg: ∀x,x<k→WL a.L (g x)):(a.pre k g).Ok:=⟨h1,h6,by simp[Da.pre,n],fun r hr=>by
 obtain ⟨q,hq,rfl⟩:=KS.1 hr;refine ⟨by simp[Da.pre],fun s hs=> ?_⟩;obtain ⟨x,hx,rfl⟩:=KS.1 hs;exact h.Qy _ hq (hg x hx),h.s,h.dH⟩
end Da
end Go.AM
set_option maxRecDepth 100000
namespace Go.AM
open Go.IntKind (wrap)
open Go.Proofs
theorem ajj {f:Nat→Nat} {n:Nat} (h: ∀p q,p<n→q<n→f p=f q→p=q):((List.range n).map f).Nodup:=by
 refine List.pairwise_map.2 (List.nodup_range.imp_of_mem fun {a b} ha hb bN e=>bN ?_);exact h a b (ik.1 ha) (ik.1 hb) e
theorem Qz {a:Da} (h:a.Ok):(minD a).n≤a.n:=by
 have hc:=xz h;have hL:=vF h;have hex: ∀q:Nat,∃w,q<(minD a).n→WL a.L w∧(minD a).run (minD a).st w=q:=fun q=>by
  by_cases c:q<(minD a).n
  ·obtain ⟨w,h1,h2⟩:=aji h c;exact ⟨w,fun _=>⟨h1,h2⟩⟩
  ·exact ⟨[],fun c2=>absurd c2 c⟩
 obtain ⟨W,hW⟩:=Classical.axiomOfChoice hex;have key:=Bm (l₁:=(List.range (minD a).n).map fun q=>a.run a.st (W q)) (l₂:=List.range a.n) (ajj fun p q hp hq e=> ?_) fun x hx=> ?_
 ·simpa using key
 ·obtain ⟨p1,p2⟩:=hW p hp;obtain ⟨q1,q2⟩:=hW q hq;refine hc.red p q hp hq fun w hw=> ?_;rw[hL] at hw;rw[←p2,←q2,←Da.KT,←Da.KT,Cc h (WL.app.2 ⟨p1,hw⟩),Cc h (WL.app.2 ⟨q1,hw⟩),Da.KT,Da.KT,e]
 ·obtain ⟨q,hq,rfl⟩:=iE.1 hx;exact ik.2 (h.Qy _ h.s (hW q (ik.1 hq)).1)
section
variable {m:Da} (hm:m.Ok) {S:List (List Nat)} (hS:tT m S) {k:Nat} (h1:1≤k) (h6:k≤6) {g:Nat→List Nat} (hg: ∀x,x<k→WL m.L (g x)) {S2:List (List Nat)} (hS2:tT (minD (m.pre k g)) S2)
def vals (m:Da) (S:List (List Nat)) (k:Nat) (g:Nat→List Nat):List Nat:=0::(List.range k).map fun x=>vl m S (g x)
section
variable {Z:List Nat} (hZ:KP S.length (fR S) (vals m S k g) Z)
include hZ
end
end
section
variable {K:Nat} {mul:Nat→Nat→Nat} {G Z:List Nat} (hZ:KP K mul G Z)
include hZ
end
noncomputable def Yn (C:af) (l:LV):Option LV:=
 (C KN [.list ab l,V.int .i64 3]).bind fun r1=>
 (C KU [V.int .i64 ((V.nth r1 0).toInt),V.int .i64 ((V.nth (r1.drop 1) 0).toInt),.list ak ((V.nth (r1.drop 2) 0).toList),.list ag ((V.nth ((r1.drop 2).drop 1) 0).toList),V.int .i64 ((V.nth r1 0).toInt),V.int .i64 ((V.nth (r1.drop 1) 0).toInt),.list ak ((V.nth (r1.drop 2) 0).toList),.list ag ((V.nth ((r1.drop 2).drop 1) 0).toList),V.int .i64 8]).bind fun r2=>
 (C xu [V.int .i64 ((V.nth r1 0).toInt),V.int .i64 ((V.nth (r1.drop 1) 0).toInt),.list ak ((V.nth (r1.drop 2) 0).toList),.list ag ((V.nth ((r1.drop 2).drop 1) 0).toList)]).bind fun r3=>
 bif (V.nth r3 0).toBool then
  (C xu [V.int .i64 ((V.nth r2 0).toInt),V.int .i64 ((V.nth (r2.drop 1) 0).toInt),.list ak ((V.nth (r2.drop 3) 0).toList),.list ag ((V.nth ((r2.drop 3).drop 1) 0).toList)]).bind fun r4=>
  bif (V.nth r4 0).toBool then
  bif (((V.nth (r2.drop 2) 0).toInt):Int)==0 then
   bif ((V.nth ((r3.drop 1).drop 2) 0).toBool)==((V.nth ((r4.drop 1).drop 2) 0).toBool) then
   (C yY [.list ab ((((V.nth ((r3.drop 1).drop 3) 0).toList).drop (jP (V.nth (r3.drop 1) 0))).take (jP (V.nth (r3.drop 1) 1))),.list ab ((((V.nth ((r4.drop 1).drop 3) 0).toList).drop (jP (V.nth (r4.drop 1) 0))).take (jP (V.nth (r4.drop 1) 1)))]).bind fun r5=>
   bif (V.nth r5 0).toBool then
    (C xA [V.int .i64 ((V.nth r2 0).toInt),V.int .i64 ((V.nth (r2.drop 1) 0).toInt),.list ak ((V.nth (r2.drop 3) 0).toList),.list ag ((V.nth ((r2.drop 3).drop 1) 0).toList)]).bind fun r6=>
    bif (((V.nth r6 0).toInt):Int)==0 then
    (C zg []).bind fun r7=>
    some [.bool ((V.nth r7 0).toBool)]
    else
    some [.bool false]
   else
    some [.bool false]
   else
   some [.bool false]
  else
   some [.bool false]
  else
  bif (((V.nth (r2.drop 2) 0).toInt):Int)==0 then
   bif ((V.nth ((r3.drop 1).drop 2) 0).toBool)==((V.nth (r4.drop 1) 0).toBool) then
   (C yY [.list ab ((((V.nth ((r3.drop 1).drop 3) 0).toList).drop (jP (V.nth (r3.drop 1) 0))).take (jP (V.nth (r3.drop 1) 1))),.list ab ((V.nth ((r4.drop 1).drop 1) 0).toList)]).bind fun r8=>
   bif (V.nth r8 0).toBool then
    (C xA [V.int .i64 ((V.nth r2 0).toInt),V.int .i64 ((V.nth (r2.drop 1) 0).toInt),.list ak ((V.nth (r2.drop 3) 0).toList),.list ag ((V.nth ((r2.drop 3).drop 1) 0).toList)]).bind fun r9=>
    bif (((V.nth r9 0).toInt):Int)==0 then
    (C zg []).bind fun eZ=>
    some [.bool ((V.nth eZ 0).toBool)]
    else
    some [.bool false]
   else
    some [.bool false]
   else
   some [.bool false]
  else
   some [.bool false]
 else
  (C xu [V.int .i64 ((V.nth r2 0).toInt),V.int .i64 ((V.nth (r2.drop 1) 0).toInt),.list ak ((V.nth (r2.drop 3) 0).toList),.list ag ((V.nth ((r2.drop 3).drop 1) 0).toList)]).bind fun cd=>
  bif (V.nth cd 0).toBool then
  bif (((V.nth (r2.drop 2) 0).toInt):Int)==0 then
   bif ((V.nth (r3.drop 1) 0).toBool)==((V.nth ((cd.drop 1).drop 2) 0).toBool) then
   (C yY [.list ab ((V.nth ((r3.drop 1).drop 1) 0).toList),.list ab ((((V.nth ((cd.drop 1).drop 3) 0).toList).drop (jP (V.nth (cd.drop 1) 0))).take (jP (V.nth (cd.drop 1) 1)))]).bind fun tU=>
   bif (V.nth tU 0).toBool then
    (C xA [V.int .i64 ((V.nth r2 0).toInt),V.int .i64 ((V.nth (r2.drop 1) 0).toInt),.list ak ((V.nth (r2.drop 3) 0).toList),.list ag ((V.nth ((r2.drop 3).drop 1) 0).toList)]).bind fun gA=>
    bif (((V.nth gA 0).toInt):Int)==0 then
    (C zg []).bind fun r14=>
    some [.bool ((V.nth r14 0).toBool)]
    else
    some [.bool false]
   else
    some [.bool false]
   else
   some [.bool false]
  else
   some [.bool false]
  else
  bif (((V.nth (r2.drop 2) 0).toInt):Int)==0 then
   bif ((V.nth (r3.drop 1) 0).toBool)==((V.nth (cd.drop 1) 0).toBool) then
   (C yY [.list ab ((V.nth ((r3.drop 1).drop 1) 0).toList),.list ab ((V.nth ((cd.drop 1).drop 1) 0).toList)]).bind fun xB=>
   bif (V.nth xB 0).toBool then
    (C xA [V.int .i64 ((V.nth r2 0).toInt),V.int .i64 ((V.nth (r2.drop 1) 0).toInt),.list ak ((V.nth (r2.drop 3) 0).toList),.list ag ((V.nth ((r2.drop 3).drop 1) 0).toList)]).bind fun sN=>
    bif (((V.nth sN 0).toInt):Int)==0 then
    (C zg []).bind fun Ce=>
    some [.bool ((V.nth Ce 0).toBool)]
    else
    some [.bool false]
   else
    some [.bool false]
   else
   some [.bool false]
  else
   some [.bool false]
theorem ajk {l:LV} {r:Option LV} (h:Yn CC l=r):CC QA [.list ab l]=r:=bC (L:=bB) au h
theorem ajl {a b:Da} (ha:a.Ok) (hb:b.Ok) (mc:(minD a).n≤32) (e:minD a=minD b): ∃r:LV,CC xu (eY a)=some r∧CC xu (eY b)=some r∧(r=[.bool false,.bool false,.list ab []]∨∃l:LV,l.length≤17∧r=[.bool true,fy 0,fy 16,.bool true,.list ab l]):=by
 obtain ⟨z,l,hl,e1,e2⟩:=aij ahW ha hb mc e;have A: ∀{a:Da} z,xt CC (a.L:Int) (a.st:Int) a.cM a.cW=z→CC xu (eY a)=z:=fun z h=>aif h;by_cases c1:(z != 0)=true
 ·refine ⟨_,A _ ?_,A _ ?_,.inl rfl⟩
  ·unfold xt;exact bs e1 (bT c1 rfl)
  ·unfold xt;exact bs e2 (bT c1 rfl)
 have c1:(z != 0)=false:=by simpa using c1
 by_cases c2:((l.length:Int) != 17)=true
 ·refine ⟨_,A _ ?_,A _ ?_,.inl rfl⟩
  ·unfold xt;exact bs e1 (bF c1 (bT c2 rfl))
  ·unfold xt;exact bs e2 (bF c1 (bT c2 rfl))
 have c2:((l.length:Int) != 17)=false:=by simpa using c2
 have h17:(l.length:Int)=17:=by simpa using c2
 refine ⟨_,A _ ?_,A _ ?_,.inr ⟨l,hl,rfl⟩⟩
 ·unfold xt;exact bs e1 (bF c1 (bF c2 (bT (cq (show (16:Int)≤(l.length:Int) by omega)) rfl)))
 ·unfold xt;exact bs e2 (bF c1 (bF c2 (bT (cq (show (16:Int)≤(l.length:Int) by omega)) rfl)))
theorem ajm {a b:Da} (ha:a.Ok) (hb:b.Ok) (hL:a.L=b.L) {m:Nat} (h1:a.n≤m) (h2:b.n≤m) (hm:m*m≤512): ¬sO (minD a) (minD b):=by
 have h:=KV (kH ha) (kH hb) (zh ha hb hL) ((minD a).n*(minD b).n);have h3:(minD a).n*(minD b).n≤m*m:=Nat.mul_le_mul (mX (Qz ha) h1) (mX (Qz hb) h2);unfold sO;unfold mf at*
 omega
theorem agR (l:List Int):CC QA [.list ab (l.map iV)]=some [.bool true]:=by
 obtain ⟨a,ha,hL,hn,e0⟩:=ajg l (m:=3) (by omega) (by omega);have ho:=ajm ha ha rfl (m:=7) hn hn (by omega);have eC:=ajn ha ha rfl (op:=8) (by omega) ho;have hk:=ajo ha ha rfl (op:=8) ho;have em:minD a=minD (zi a a 8):=by
  refine QB ha hk (ajp ha ha rfl ho).symm fun w hw=> ?_;rw[ajq ha ha rfl ho hw];cases a.acc a.st w<;>decide
 obtain ⟨r,e1,e2,hr⟩:=ajl ha hk (mX (Qz ha) (by omega)) em;have eV:=ajr hk;refine ajk ?_;unfold Yn;refine bs e0 (bs eC ?_);refine bs e1 ?_;rcases hr with rfl|⟨v,hv,rfl⟩
 ·exact bF rfl (bs e2 (bF rfl (bT rfl (bT rfl (bs (XW (l:=[]) (by simp)) (bT rfl (bs eV (bT rfl (bs Yo rfl)))))))))
 ·refine bT rfl (bs e2 (bT rfl (bT rfl (bT rfl ?_))));exact bs (XW (by simp;omega)) (bT rfl (bs eV (bT rfl (bs Yo rfl))))
end Go.AM
set_option maxRecDepth 100000
namespace Go.AM
open Go.IntKind (wrap)
theorem WT.ajs {P:Program} {t:TypeId} {x:V} (hu:P.underlying t=some (.int .i64)) (h:WT P t x): ∃n:Int,x= .int .i64 n∧ -9223372036854775808≤n∧n≤9223372036854775807:=by
 obtain ⟨n,rfl,h1,h2⟩:=h.fQ hu;have e1:IntKind.min .i64= -9223372036854775808:=by decide
 have e2:IntKind.max .i64=9223372036854775807:=by decide
 rw[e1] at h1;rw[e2] at h2;exact ⟨n,rfl,h1,h2⟩
theorem WT.QC {P:Program} {t:TypeId} {x:V} (hu:P.underlying t=some (.int .u8)) (h:WT P t x): ∃n:Int,x= .int .u8 n∧0≤n∧n≤255:=by
 obtain ⟨n,rfl,h1,h2⟩:=h.fQ hu;have e1:IntKind.min .u8=0:=by decide
 have e2:IntKind.max .u8=255:=by decide
 rw[e1] at h1;rw[e2] at h2;exact ⟨n,rfl,h1,h2⟩
end Go.AM
set_option maxRecDepth 100000
namespace Go.AM
open Go.IntKind (wrap)
open Go.Proofs
def WU (r:List Int):V:= .list ab (r.map fun n=> .int .i64 n)
theorem agQ {t:TypeId} {x:V} (hu:Tryz.prog.underlying t=some (.slice ab)) (hi:Tryz.prog.underlying ab=some (.int .i64)) (h:ny Tryz.prog t x): ∃r:List Int,x=WU r∧(r.length≤maxLen∧∀q∈r,-9223372036854775808≤q∧q≤9223372036854775807):=by
 obtain ⟨es,rfl,e1,e2⟩:=WT.ajt hu (ny.one (by simp[bZ,hu]) h);obtain ⟨r,rfl,hr⟩:=Yp (f:=fun n=>V.int .i64 n) (p:=fun q=> -9223372036854775808≤q∧q≤9223372036854775807) fun y hy=>WT.ajs hi (ny.one (by simp[bZ,hi]) (e2 y hy));exact ⟨r,rfl,by simpa using e1,hr⟩
end Go.AM
