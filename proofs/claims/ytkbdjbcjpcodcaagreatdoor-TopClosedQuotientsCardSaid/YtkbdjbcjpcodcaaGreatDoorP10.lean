/-
  Functions of the program, lifted to plain data.
-/
import Derived.Sort.AssemblyPlain
import Derived.Test.YtkbdjbcjpcodcaaGreatDoorP9
set_option linter.unusedVariables false
set_option linter.unusedSimpArgs false
set_option linter.unusedSectionVars false
set_option maxRecDepth 100000
namespace Go.AM
open Go.IntKind (wrap)
open Go.Proofs
theorem Xz:CC me (cU eJ)=some [.int .i64 0]:=aH (N:=60) (n:=30) (by kernel_rfl)
theorem ahs:CC fP [.int .i64 eJ.l0,.int .i64 eJ.l1,.list ai eJ.l2]=some [.list bJ (eJ.p.map cp)]:=aH (N:=60) (n:=30) (by kernel_rfl)
theorem aht:CC fP [.int .i64 eJ.r0,.int .i64 eJ.r1,.list ai eJ.r2]=some [.list bJ (eJ.q.map cp)]:=aH (N:=60) (n:=30) (by kernel_rfl)
theorem ahu:CC gB ([.int .i64 eJ.l0,.int .i64 eJ.l1,.list ai eJ.l2,.int .i64 0,.int .i64 0,.list ai []]++cZ (fun _=>false) (fun _=>false))=some (cZ eJ.o1 eJ.e1):=aH (N:=60) (n:=30) (by kernel_rfl)
theorem ahv:CC gB ([.int .i64 eJ.r0,.int .i64 eJ.r1,.list ai eJ.r2,.int .i64 0,.int .i64 0,.list ai []]++cZ eJ.o1 eJ.e1)=some (cZ eJ.bH eJ.bI):=aH (N:=60) (n:=30) (by kernel_rfl)
theorem ahw:CC nr [.list ai [.agg [.int .i64 eJ.l0,.int .i64 eJ.l1,.list ai eJ.l2],.agg [.int .i64 eJ.r0,.int .i64 eJ.r1,.list ai eJ.r2]]]=some [.int .i64 (eJ.nv:Int)]:=aH (N:=60) (n:=30) (by kernel_rfl)
theorem ahx:CC gi [.str yH,.int .i64 0]=some [.int .i64 eJ.l0,.int .i64 eJ.l1,.list ai eJ.l2,.bool true,.str yH,.int .i64 42]:=aH (N:=60) (n:=30) (by kernel_rfl)
theorem ahy:CC nt [.int .u8 61,.str yH,.int .i64 42]=some [.bool true,.str yH,.int .i64 43]:=aH (N:=60) (n:=30) (by kernel_rfl)
theorem ahz:CC gi [.str yH,.int .i64 43]=some [.int .i64 eJ.r0,.int .i64 eJ.r1,.list ai eJ.r2,.bool true,.str yH,.int .i64 74]:=aH (N:=60) (n:=30) (by kernel_rfl)
theorem ahA:mN eJ:=⟨Xz,ahs,aht,ahu,ahv,ahw,by decide,by unfold fo;decide,by unfold fo;decide,by decide,by decide,by decide,by decide⟩
theorem ahB:mO yH eJ:=py (by decide) ahx ahy ahz (by decide) Xz
theorem sA:CC BF [.str []]=some [.int .i64 0,.int .i64 0,.list ai [],.int .i64 0,.int .i64 0,.list ai [],.int .i64 0,.int .i64 2]:=aH (N:=60) (n:=30) (by kernel_rfl)
theorem ahC:CC BG []=some [.list EX Kb]:=aH (N:=60) (n:=30) (by kernel_rfl)
theorem ahD:CC jG [.str [116,114,105,118,105,97,108],.bool true,.int .i64 1,.int .i64 0,.str [120,32,61,32,49],.str []]=some [.str [116,114,105,118,105,97,108],.bool true,.int .i64 1,.int .i64 0,.list iR ([eM].map fun d=> .agg (cU d))]:=sB ahE sA
theorem ahF:CC jG [.str [99,111,109,109,117,116,97,116,105,118,101],.bool true,.int .i64 4,.int .i64 0,.str [120,121,32,61,32,121,120],.str []]=some [.str [99,111,109,109,117,116,97,116,105,118,101],.bool true,.int .i64 4,.int .i64 0,.list iR ([dx].map fun d=> .agg (cU d))]:=sB Kd sA
theorem ahG:CC jG [.str [99,111,109,109,117,116,97,116,105,118,101,45,97,112,101,114,105,111,100,105,99],.bool true,.int .i64 4,.int .i64 0,.str [120,121,32,61,32,121,120],.str [120,94,40,119,43,49,41,32,61,32,120,94,119]]=some [.str [99,111,109,109,117,116,97,116,105,118,101,45,97,112,101,114,105,111,100,105,99],.bool true,.int .i64 4,.int .i64 0,.list iR ([dx,aJ].map fun d=> .agg (cU d))]:=BH Kd XA
theorem ahH:CC jG [.str [97,98,101,108,105,97,110],.bool true,.int .i64 4,.int .i64 0,.str [120,121,32,61,32,121,120],.str [120,94,119,32,61,32,49]]=some [.str [97,98,101,108,105,97,110],.bool true,.int .i64 4,.int .i64 0,.list iR ([dx,dQ].map fun d=> .agg (cU d))]:=BH Kd XB
theorem ahI:CC jG [.str [115,101,109,105,108,97,116,116,105,99,101],.bool true,.int .i64 2,.int .i64 6,.str [120,121,32,61,32,121,120],.str [120,120,32,61,32,120]]=some [.str [115,101,109,105,108,97,116,116,105,99,101],.bool true,.int .i64 2,.int .i64 6,.list iR ([dx,eQ].map fun d=> .agg (cU d))]:=BH Kd ahJ
theorem ahK:CC jG [.str [97,112,101,114,105,111,100,105,99],.bool true,.int .i64 1,.int .i64 0,.str [120,94,40,119,43,49,41,32,61,32,120,94,119],.str []]=some [.str [97,112,101,114,105,111,100,105,99],.bool true,.int .i64 1,.int .i64 0,.list iR ([aJ].map fun d=> .agg (cU d))]:=sB XA sA
theorem ahL:CC jG [.str [103,114,111,117,112],.bool true,.int .i64 5,.int .i64 0,.str [120,94,119,32,61,32,49],.str []]=some [.str [103,114,111,117,112],.bool true,.int .i64 5,.int .i64 0,.list iR ([dQ].map fun d=> .agg (cU d))]:=sB XB sA
theorem ahM:CC jG [.str [106,45,116,114,105,118,105,97,108],.bool true,.int .i64 2,.int .i64 6,.str [40,120,121,41,94,119,120,32,61,32,40,120,121,41,94,119],.str [121,40,120,121,41,94,119,32,61,32,40,120,121,41,94,119]]=some [.str [106,45,116,114,105,118,105,97,108],.bool true,.int .i64 2,.int .i64 6,.list iR ([en,eo].map fun d=> .agg (cU d))]:=BH XC XD
theorem ahN:CC jG [.str [114,45,116,114,105,118,105,97,108],.bool true,.int .i64 3,.int .i64 1,.str [40,120,121,41,94,119,120,32,61,32,40,120,121,41,94,119],.str []]=some [.str [114,45,116,114,105,118,105,97,108],.bool true,.int .i64 3,.int .i64 1,.list iR ([en].map fun d=> .agg (cU d))]:=sB XC sA
theorem ahO:CC jG [.str [108,45,116,114,105,118,105,97,108],.bool true,.int .i64 3,.int .i64 2,.str [121,40,120,121,41,94,119,32,61,32,40,120,121,41,94,119],.str []]=some [.str [108,45,116,114,105,118,105,97,108],.bool true,.int .i64 3,.int .i64 2,.list iR ([eo].map fun d=> .agg (cU d))]:=sB XD sA
theorem ahP:CC jG [.str [100,97],.bool true,.int .i64 3,.int .i64 3,.str [40,120,121,41,94,119,120,40,120,121,41,94,119,32,61,32,40,120,121,41,94,119],.str []]=some [.str [100,97],.bool true,.int .i64 3,.int .i64 3,.list iR ([eS].map fun d=> .agg (cU d))]:=sB ahQ sA
theorem ahR:CC jG [.str [102,105,110,105,116,101,45,111,114,45,99,111,102,105,110,105,116,101],.bool false,.int .i64 2,.int .i64 1,.str [120,94,119,121,32,61,32,120,94,119],.str [121,120,94,119,32,61,32,120,94,119]]=some [.str [102,105,110,105,116,101,45,111,114,45,99,111,102,105,110,105,116,101],.bool false,.int .i64 2,.int .i64 1,.list iR ([ep,et].map fun d=> .agg (cU d))]:=BH XE XF
theorem ahS:CC jG [.str [100,101,102,105,110,105,116,101],.bool false,.int .i64 2,.int .i64 3,.str [121,120,94,119,32,61,32,120,94,119],.str []]=some [.str [100,101,102,105,110,105,116,101],.bool false,.int .i64 2,.int .i64 3,.list iR ([et].map fun d=> .agg (cU d))]:=sB XF sA
theorem ahT:CC jG [.str [114,101,118,101,114,115,101,45,100,101,102,105,110,105,116,101],.bool false,.int .i64 2,.int .i64 2,.str [120,94,119,121,32,61,32,120,94,119],.str []]=some [.str [114,101,118,101,114,115,101,45,100,101,102,105,110,105,116,101],.bool false,.int .i64 2,.int .i64 2,.list iR ([ep].map fun d=> .agg (cU d))]:=sB XE sA
theorem ahU:CC jG [.str [103,101,110,101,114,97,108,105,115,101,100,45,100,101,102,105,110,105,116,101],.bool false,.int .i64 2,.int .i64 4,.str [120,94,119,121,120,94,119,32,61,32,120,94,119],.str []]=some [.str [103,101,110,101,114,97,108,105,115,101,100,45,100,101,102,105,110,105,116,101],.bool false,.int .i64 2,.int .i64 4,.list iR ([eT].map fun d=> .agg (cU d))]:=sB ahV sA
theorem ahW:CC jG [.str [108,111,99,97,108,108,121,45,116,101,115,116,97,98,108,101],.bool false,.int .i64 2,.int .i64 5,.str [120,94,119,121,120,94,119,121,120,94,119,32,61,32,120,94,119,121,120,94,119],.str [120,94,119,121,120,94,119,122,120,94,119,32,61,32,120,94,119,122,120,94,119,121,120,94,119]]=some [.str [108,111,99,97,108,108,121,45,116,101,115,116,97,98,108,101],.bool false,.int .i64 2,.int .i64 5,.list iR ([eU,eV].map fun d=> .agg (cU d))]:=BH ahX ahY
theorem ahZ:CC jG [.str [100,111,116,45,100,101,112,116,104,45,111,110,101],.bool false,.int .i64 2,.int .i64 7,.str [40,120,94,119,122,121,94,119,117,120,94,119,41,94,119,120,94,119,122,121,94,119,116,120,94,119,40,120,94,119,118,121,94,119,116,120,94,119,41,94,119,32,61,32,40,120,94,119,122,121,94,119,117,120,94,119,41,94,119,40,120,94,119,118,121,94,119,116,120,94,119,41,94,119],.str []]=some [.str [100,111,116,45,100,101,112,116,104,45,111,110,101],.bool false,.int .i64 2,.int .i64 7,.list iR ([eJ].map fun d=> .agg (cU d))]:=sB ahB sA
theorem XG:EY Kb PM where
 xd:=ahC
 len:=rfl
 cls:=fun c hc=>by
  rcases (by omega:c=0∨c=1∨c=2∨c=3∨c=4∨c=5∨c=6∨c=7∨c=8∨c=9∨c=10∨c=11∨c=12∨c=13∨c=14∨c=15∨c=16) with rfl|rfl|rfl|rfl|rfl|rfl|rfl|rfl|rfl|rfl|rfl|rfl|rfl|rfl|rfl|rfl|rfl
  ·exact ⟨_,rfl,_,_,_,_,ahD⟩
  ·exact ⟨_,rfl,_,_,_,_,ahF⟩
  ·exact ⟨_,rfl,_,_,_,_,ahG⟩
  ·exact ⟨_,rfl,_,_,_,_,ahH⟩
  ·exact ⟨_,rfl,_,_,_,_,ahI⟩
  ·exact ⟨_,rfl,_,_,_,_,ahK⟩
  ·exact ⟨_,rfl,_,_,_,_,ahL⟩
  ·exact ⟨_,rfl,_,_,_,_,ahM⟩
  ·exact ⟨_,rfl,_,_,_,_,ahN⟩
  ·exact ⟨_,rfl,_,_,_,_,ahO⟩
  ·exact ⟨_,rfl,_,_,_,_,ahP⟩
  ·exact ⟨_,rfl,_,_,_,_,ahR⟩
  ·exact ⟨_,rfl,_,_,_,_,ahS⟩
  ·exact ⟨_,rfl,_,_,_,_,ahT⟩
  ·exact ⟨_,rfl,_,_,_,_,ahU⟩
  ·exact ⟨_,rfl,_,_,_,_,ahW⟩
  ·exact ⟨_,rfl,_,_,_,_,ahZ⟩
 ok:=fun c hc=>by
  rcases (by omega:c=0∨c=1∨c=2∨c=3∨c=4∨c=5∨c=6∨c=7∨c=8∨c=9∨c=10∨c=11∨c=12∨c=13∨c=14∨c=15∨c=16) with rfl|rfl|rfl|rfl|rfl|rfl|rfl|rfl|rfl|rfl|rfl|rfl|rfl|rfl|rfl|rfl|rfl
  ·intro d hd;have hd:d∈[eM]:=hd;simp only[fj,mC,nf] at hd;subst hd;exact ah0
  ·intro d hd;have hd:d∈[dx]:=hd;simp only[fj,mC,nf] at hd;subst hd;exact Ke
  ·intro d hd;have hd:d∈[dx,aJ]:=hd;simp only[fj,mC,nf] at hd;rcases hd with rfl|rfl
   ·exact Ke
   ·exact XH
  ·intro d hd;have hd:d∈[dx,dQ]:=hd;simp only[fj,mC,nf] at hd;rcases hd with rfl|rfl
   ·exact Ke
   ·exact XI
  ·intro d hd;have hd:d∈[dx,eQ]:=hd;simp only[fj,mC,nf] at hd;rcases hd with rfl|rfl
   ·exact Ke
   ·exact ah1
  ·intro d hd;have hd:d∈[aJ]:=hd;simp only[fj,mC,nf] at hd;subst hd;exact XH
  ·intro d hd;have hd:d∈[dQ]:=hd;simp only[fj,mC,nf] at hd;subst hd;exact XI
  ·intro d hd;have hd:d∈[en,eo]:=hd;simp only[fj,mC,nf] at hd;rcases hd with rfl|rfl
   ·exact XJ
   ·exact XK
  ·intro d hd;have hd:d∈[en]:=hd;simp only[fj,mC,nf] at hd;subst hd;exact XJ
  ·intro d hd;have hd:d∈[eo]:=hd;simp only[fj,mC,nf] at hd;subst hd;exact XK
  ·intro d hd;have hd:d∈[eS]:=hd;simp only[fj,mC,nf] at hd;subst hd;exact ah2
  ·intro d hd;have hd:d∈[ep,et]:=hd;simp only[fj,mC,nf] at hd;rcases hd with rfl|rfl
   ·exact XL
   ·exact XM
  ·intro d hd;have hd:d∈[et]:=hd;simp only[fj,mC,nf] at hd;subst hd;exact XM
  ·intro d hd;have hd:d∈[ep]:=hd;simp only[fj,mC,nf] at hd;subst hd;exact XL
  ·intro d hd;have hd:d∈[eT]:=hd;simp only[fj,mC,nf] at hd;subst hd;exact ah3
  ·intro d hd;have hd:d∈[eU,eV]:=hd;simp only[fj,mC,nf] at hd;rcases hd with rfl|rfl
   ·exact ah4
   ·exact ah5
  ·intro d hd;have hd:d∈[eJ]:=hd;simp only[fj,mC,nf] at hd;subst hd;exact ahA
 il:=fun c hc=>by
  rcases (by omega:c=0∨c=1∨c=2∨c=3∨c=4∨c=5∨c=6∨c=7∨c=8∨c=9∨c=10∨c=11∨c=12∨c=13∨c=14∨c=15∨c=16) with rfl|rfl|rfl|rfl|rfl|rfl|rfl|rfl|rfl|rfl|rfl|rfl|rfl|rfl|rfl|rfl|rfl<;>decide
noncomputable def EZ (C:af) (t5:Int) (PN:LV) (t6:Int) (dV:LV) {β:Type} (kn:(Int×LV)→Option β) (kr:(Int×Bool×LV)→Option β):Option β:=
 bif decide (t6<t5) then
  aP PN t6 fun x2=>
  (C jG [.str ((x2.cell 0).toStr),.bool ((x2.cell 1).toBool),V.int .i64 ((x2.cell 2).toInt),V.int .i64 ((x2.cell 3).toInt),.str ((x2.cell 4).toStr),.str ((x2.cell 5).toStr)]).bind fun r3=>
  bif Nat.ble ((dV.length+([.agg [.str ((V.nth r3 0).toStr),.bool ((V.nth (r3.drop 1) 0).toBool),.list iR ((V.nth (r3.drop 4) 0).toList),V.int .i64 ((V.nth ((r3.drop 1).drop 1) 0).toInt),V.int .i64 ((V.nth (((r3.drop 1).drop 1).drop 1) 0).toInt)]]:LV).length)*64) ba then
  kn (wrap .i64 (t6+1),dV++([.agg [.str ((V.nth r3 0).toStr),.bool ((V.nth (r3.drop 1) 0).toBool),.list iR ((V.nth (r3.drop 4) 0).toList),V.int .i64 ((V.nth ((r3.drop 1).drop 1) 0).toInt),V.int .i64 ((V.nth (((r3.drop 1).drop 1).drop 1) 0).toInt)]]:LV))
  else none
 else
  kr (t6,decide (t6<t5),dV)
noncomputable def Kf (C:af) (t5:Int) (PN:LV):=un fun t6 dV=>EZ C t5 PN t6 dV (fun y=>some (Sum.inl y)) (fun r=>some (Sum.inr r))
noncomputable def ah6 (C:af):cN:=bL 49 PO [EQ,H1,H1,EQ] [[1,0,0,0,4]] (@EZ C) bM
theorem ah7 (C:af):bD C (ah6 C) 32 (Lp [1,1,0,1,0,0] 32):=bN PO [EQ,H1,H1,EQ] [[1,0,0,0,4]] (@EZ C) (bA av)
noncomputable def XN (C:af):Option LV:=
 (C BG []).bind fun r1=>
 (Loop (Kf C (((V.nth r1 0).toList).length:Int) ((V.nth r1 0).toList)) (0,([]:LV))).bind (un fun mf=>un fun (lF:Bool) (ah8:LV)=>
  some [.list E0 ah8])
theorem ah9 {r:Option LV} (h:XN CC=r):CC Kg []=r:=bO (bE (ah7 CC) av) h
noncomputable def aia (C:af) (ei:Int):Option LV:=
 bif decide (ei≥1) then
  some [.bool (decide (ei≤1048576))]
 else
  some [.bool false]
theorem aib {ei:Int} {r:Option LV} (h:aia CC ei=r):CC Kh [V.int .i64 ei]=r:=bO (L:=bM) av h
noncomputable def E1 (C:af) (ei t33 iD:Int) (dC mg kV mh mi:LV) (t34:Int) (ve:LV) {β:Type} (kn:(Int×LV)→Option β) (kr:(Int×Bool×LV)→Option β):Option β:=
 bif decide (t34<t33) then
  (C E2 [V.int .i64 iD,.list ag dC,.list cz mg,.list ab kV,.list ar mh,.list ar mi,V.int .i64 t34,V.int .i64 ei]).bind fun r5=>
  bif (((V.nth (((r5.drop 1).drop 1).drop 1) 0).toInt):Int) != 0 then
  bif Nat.ble ((ve.length+([V.int .i64 (wrap .i64 (0-((V.nth (((r5.drop 1).drop 1).drop 1) 0).toInt)))]:LV).length)*8) ba then
   kn (wrap .i64 (t34+1),ve++([V.int .i64 (wrap .i64 (0-((V.nth (((r5.drop 1).drop 1).drop 1) 0).toInt)))]:LV))
  else none
  else
  bif (V.nth r5 0).toBool then
   bif Nat.ble ((ve.length+([V.int .i64 1]:LV).length)*8) ba then
   kn (wrap .i64 (t34+1),ve++([V.int .i64 1]:LV))
   else none
  else
   bif Nat.ble ((ve.length+([V.int .i64 0]:LV).length)*8) ba then
   kn (wrap .i64 (t34+1),ve++([V.int .i64 0]:LV))
   else none
 else
  kr (t34,decide (t34<t33),ve)
noncomputable def Ki (C:af) (ei t33 iD:Int) (dC mg kV mh mi:LV):=un fun t34 ve=>E1 C ei t33 iD dC mg kV mh mi t34 ve (fun y=>some (Sum.inl y)) (fun r=>some (Sum.inr r))
noncomputable def aic (C:af):cN:=bL 177 PQ [EQ,EQ,H1,EQ,EQ,EQ,EQ,EQ,EQ,H1] [[1,2,0,0,4,5,6,7,8,9,0]] (@E1 C) bM
theorem aid (C:af):bD C (aic C) 18 (Lp [1,1,1,1,1,1,0,1,0,0] 18):=bN PQ [EQ,EQ,H1,EQ,EQ,EQ,EQ,EQ,EQ,H1] [[1,2,0,0,4,5,6,7,8,9,0]] (@E1 C) (bA av)
noncomputable def Kj (C:af) (cw cJ:Int) (b9 cK:LV) (ei:Int):Option LV:=
 (C sC [V.int .i64 cw,V.int .i64 cJ,.list ar b9,.list ag cK]).bind fun r1=>
 bif (((V.nth r1 0).toInt):Int) != 0 then
  some [V.int .i64 ((V.nth r1 0).toInt),.list ab ([]:LV)]
 else
  (C Kh [V.int .i64 ei]).bind fun r2=>
  bif !((V.nth r2 0).toBool) then
  some [V.int .i64 1,.list ab ([]:LV)]
  else
  (C qm [V.int .i64 cw,V.int .i64 cJ,.list ar b9,.list ag cK]).bind fun r3=>
  bif (((V.nth (r3.drop 6) 0).toInt):Int) != 0 then
   some [V.int .i64 ((V.nth (r3.drop 6) 0).toInt),.list ab ([]:LV)]
  else
   (C Kg []).bind fun r4=>
   (Loop (Ki C ei (((V.nth r4 0).toList).length:Int) ((V.nth r3 0).toInt) ((V.nth (r3.drop 1) 0).toList) ((V.nth ((r3.drop 1).drop 1) 0).toList) ((V.nth (((r3.drop 1).drop 1).drop 1) 0).toList) ((V.nth ((((r3.drop 1).drop 1).drop 1).drop 1) 0).toList) ((V.nth (((((r3.drop 1).drop 1).drop 1).drop 1).drop 1) 0).toList)) (0,([]:LV))).bind (un fun jY=>un fun (nu:Bool) (aie:LV)=>
    some [V.int .i64 0,.list ab aie])
theorem aif {cw cJ:Int} {b9 cK:LV} {ei:Int} {r:Option LV} (h:Kj CC cw cJ b9 cK ei=r):CC E3 [V.int .i64 cw,V.int .i64 cJ,.list ar b9,.list ag cK,V.int .i64 ei]=r:=bO (bE (aid CC) av) h
noncomputable def Kk (C:af) (cw cJ:Int) (b9 cK:LV):Option LV:=
 (C E3 [V.int .i64 cw,V.int .i64 cJ,.list ar b9,.list ag cK,V.int .i64 3000]).bind fun r1=>
 bif (((V.nth r1 0).toInt):Int) != 0 then
  some [.list ab ([]:LV),.bool false]
 else
  bif ((((V.nth (r1.drop 1) 0).toList).length:Int):Int) != 17 then
  some [.list ab ([]:LV),.bool false]
  else
  bif decide (16≤(((V.nth (r1.drop 1) 0).toList).length:Int)) then
   some [.list ab ((((V.nth (r1.drop 1) 0).toList).drop 0).take (16-0)),.bool true]
  else none
theorem aih {cw cJ:Int} {b9 cK:LV} {r:Option LV} (h:Kk CC cw cJ b9 cK=r):CC xe [V.int .i64 cw,V.int .i64 cJ,.list ar b9,.list ag cK]=r:=bO (L:=bM) av h
section
variable {rows:LV} {jH:Nat→List gC} (hC:EY rows jH)
include hC
theorem aii: ∃l:LV,l.length=17∧CC Kg []=some [.list E0 l]:=by
 have hl:=hC.len;have key:=lG (step:=Kf CC (rows.length:Int) rows) (fun i y=> ∃l:LV,y=((i:Int),l)∧l.length=i) (fun r=> ∃l:LV,l.length=17∧r=((rows.length:Int),false,l)) 17 0 (0,([]:LV)) (fun i _ hi y hy=> ?_) (fun y hy=> ?_) ⟨[],rfl,rfl⟩
 ·obtain ⟨r,e,l,h1,rfl⟩:=key;refine ⟨l,h1,ah9 ?_⟩;unfold XN;exact bs hC.xd (bs e rfl)
 ·obtain ⟨l,rfl,h1⟩:=hy;obtain ⟨x,hx,a,b,e,f,kW⟩:=hC.cls i (by omega);simp only[Kf,EZ,un];exact ⟨_,bT (bm (by omega)) ((ca hx).trans (bs kW (bT (cap (a:=l.length) (b:=1) (by omega) (by omega)) rfl))),_,dc (br (by omega)) rfl,by rw[iA,h1];rfl⟩
 ·obtain ⟨l,rfl,h1⟩:=hy;simp only[Kf,EZ,un];rw[hl];exact ⟨_,bF rfl rfl,l,by omega,rfl⟩
end
def Kl:Nat→Nat
 | 0=>1
 | n+1=>(n+1)*Kl n
theorem XO: ∀n,0<Kl n
 | 0=>Nat.one_pos
 | n+1=>Nat.mul_pos (Nat.succ_pos n) (XO n)
theorem PR {p:Nat} (h1:1≤p): ∀n,p≤n→p ∣ Kl n
 | 0,h=>by omega
 | n+1,h=>by
  by_cases c:p=n+1
  ·subst c;exact Nat.dvd_mul_right _ _
  ·exact Nat.dvd_trans (PR h1 n (by omega)) (Nat.dvd_mul_left _ _)
theorem PS: ∃N,400<N∧∀p,1≤p→p≤400→p ∣ N:=
 ⟨Kl 401,oA (Nat.lt_succ_self 400) (Nat.le_of_dvd (XO 401) (PR (by omega) 401 (az _))),fun _ h1 h2=>PR h1 401 (by omega)⟩
noncomputable def eN:Nat:=Classical.choose PS
theorem XP:400<eN:=(D3 PS).1
theorem aij {p:Nat} (h1:1≤p) (h2:p≤400):p ∣ eN:=(D3 PS).2 p h1 h2
theorem aik {K:Nat} {f:Nat→Nat} (h: ∀i,f i<K): ∃i j,i<j∧j≤K∧f i=f j:=by
 refine Classical.byContradiction fun hn=> ?_;have bq: ∀i j,i<j→j≤K→f i≠f j:=fun i j yI hj e=>hn ⟨i,j,yI,hj,e⟩;have hd:((List.range (K+1)).map f).Nodup:=by
  refine List.pairwise_map.2 (List.nodup_range.imp_of_mem fun {a b} ha hb w8 e=> ?_);have ha:=fQ.1 ha;have hb:=fQ.1 hb;rcases Nat.lt_or_gt_of_ne w8 with c|c
  ·exact bq a b c (by omega) e
  ·exact bq b a c (by omega) e.symm
 have:=yc (l₂:=List.range K) hd fun x hx=>by
  obtain ⟨i,_,rfl⟩:=iB.1 hx;exact fQ.2 (h i)
 simp at this;omega
section
variable {K:Nat} {mul:Nat→Nat→Nat} (h:Tb K mul) (ha: ∀i j k,i<K→j<K→k<K→mul (mul i j) k=mul i (mul j k)) {x:Nat} (hx:x<K)
include h hx ha
theorem XQ:mul (pw mul x (eN-1)) (pw mul x (eN-1))=pw mul x (eN-1):=by
 have h4:=h.k4;have hN:=XP;obtain ⟨i,j,yI,hj,e⟩:=aik (vf h hx);have step: ∀n,pw mul x (i+n)=pw mul x (j+n):=fun n=>by
  induction n with
  | zero=>exact e
  | succ n ih=>exact congrArg (fun y=>mul y x) ih
 have PT: ∀c m,i≤m→pw mul x (m+(j-i)*c)=pw mul x m:=fun c=>by
  induction c with
  | zero=>intro m _;rw[Nat.mul_zero,Nat.add_zero]
  | succ c ih=>
   intro m hm;have h1:=step (m-i);rw[show i+(m-i)=m by omega,show j+(m-i)=m+(j-i) by omega] at h1;rw[h1,←ih (m+(j-i)) (by omega),Nat.mul_succ,wy,Nat.add_comm (j-i)]
 obtain ⟨c,hc⟩:=aij (p:=j-i) (by omega) (by omega);rw[Km h ha hx,show eN-1+(eN-1)+1=(eN-1)+eN by omega];have:=PT c (eN-1) (by omega);rwa [←hc] at this
theorem PU (k:Nat): ∀n,pw mul (pw mul x k) n=pw mul x ((k+1)*n+k)
 | 0=>by rw[Nat.mul_zero,dL];rfl
 | n+1=>by
  show mul (pw mul (pw mul x k) n) (pw mul x k)=_;rw[PU k n,Km h ha hx];exact congrArg _ (by rw[Nat.mul_succ];omega)
omit h hx ha in
theorem Kn {e:Nat} (he:mul e e=e): ∀n,pw mul e n=e
 | 0=>rfl
 | n+1=>by
  show mul (pw mul e n) e=e;rw[Kn he n,he]
theorem ail {k:Nat} (hk:mul (pw mul x k) (pw mul x k)=pw mul x k):pw mul x k=pw mul x (eN-1):=by
 have hN:=XP;have e1:=PU h ha hx k (eN-1);have e2:=PU h ha hx (eN-1) k;rw[Kn hk] at e1;rw[Kn (XQ h ha hx)] at e2;rw[e1,e2];refine congrArg _ ?_;obtain ⟨M,hM⟩: ∃M,eN=M+1:=⟨eN-1,by omega⟩
 rw[hM,Nat.add_sub_cancel,jh,jh,Nat.one_mul,Nat.one_mul,wz k M];omega
theorem aim {n:Nat} (hn:n≤100):CC Ko [.list ag (tG K mul),.int .i64 (x:Int),.int .i64 (n:Int)]=some [.int .i64 ((pw mul x (eN-1+n):Nat):Int)]:=by
 have h4:=h.k4;have l1:Loop (BI CC (tG K mul) (x:Int) (n:Int)) (x:Int)=some (((pw mul x (eN-1):Nat):Int),false):=by
  obtain ⟨k,hk⟩:=ain h ha hx;have stop: ∀{i:Nat},mul (pw mul x i) (pw mul x i)=pw mul x i→Loop (BI CC (tG K mul) (x:Int) (n:Int)) ((pw mul x i:Nat):Int)=some (((pw mul x (eN-1):Nat):Int),false):=fun {i} c=>by
   have hl:=vf h hx i;rw[←ail h ha hx c];refine kg ?_;simp only[BI,E4];refine bs (nw hl) (bs (pz hl) (bF ?_ ?_))
   ·show (((mul (pw mul x i) (pw mul x i):Nat):Int) != ((pw mul x i:Nat):Int))=false;rw[c];simp
   ·show some (Sum.inr (((pw mul x i:Nat):Int),((mul (pw mul x i) (pw mul x i):Nat):Int) != ((pw mul x i:Nat):Int)))=_;rw[c];simp
  have key: ∀d i,i+d=k→Loop (BI CC (tG K mul) (x:Int) (n:Int)) ((pw mul x i:Nat):Int)=some (((pw mul x (eN-1):Nat):Int),false):=by
   intro d
   induction d with
   | zero=>
    intro i hi;obtain rfl:i=k:=by omega
    exact stop hk
   | succ d ih=>
    intro i hi;have hl:=vf h hx i;by_cases c:mul (pw mul x i) (pw mul x i)=pw mul x i
    ·exact stop c
    ·refine (iM ?_).trans (ih (i+1) (by omega))
     simp only[BI,E4];refine bs (nw hl) (bs (pz hl) (bT ?_ (bs (nw hl) (bs (pz hx) rfl))));show (((mul (pw mul x i) (pw mul x i):Nat):Int) != ((pw mul x i:Nat):Int))=true;rw[bne_iff_ne];exact fun e=>c (by exact_mod_cast e)
  exact key k 0 (dL _)
 have l3:Loop (Kp CC (tG K mul) (x:Int) (n:Int)) (((pw mul x (eN-1):Nat):Int),0)=some (((pw mul x (eN-1+n):Nat):Int),(n:Int),false):=by
  refine fH n (fun i=>(((pw mul x (eN-1+i):Nat):Int),(i:Int))) _ (fun i hi=> ?_) ?_
  ·simp only[Kp,E5,un];refine bT (bm hi) (bs (nw (vf h hx _)) (bs (pz hx) ?_));rw[br (by omega)];rfl
  ·simp only[Kp,E5,un];refine bF (aZ (az _)) ?_;rw[aZ (az _)]
 refine aio ?_;unfold XR;refine bs l1 ?_;simp only[un];refine bF xf ?_;exact bs l3 rfl
end
noncomputable def pT (K:Nat) (mul:Nat→Nat→Nat) (n:Nat):LV:=tab K fun i=>nV (pw mul i (eN-1+n))
def PV (K:Nat) (mul:Nat→Nat→Nat) (n:Nat) (l:LV):Prop:=l=[]∨l=pT K mul n
def qn (K:Nat) (mul:Nat→Nat→Nat) (p:List (Nat×Nat)) (k:Nat) (A B:LV):Prop:= ∀j,j<k→j<p.length→(p.getD j (0,0)).1=3→((p.getD j (0,0)).2=0→A=pT K mul 0)∧((p.getD j (0,0)).2=1→B=pT K mul 1)
section
variable {K:Nat} {mul:Nat→Nat→Nat} (h:Tb K mul) (ha: ∀i j k,i<K→j<K→k<K→mul (mul i j) k=mul i (mul j k))
include h ha
theorem XS {n:Nat} (hn:n≤1) {t18 t24:LV} {t19 t20 t25 t26:Int} {m0 m2 m3 m4 m5 m6 m7 m8 m9 m10 m11 m12:LV} {m1 s0:Int}:Loop (Kq CC (tG K mul) t18 t19 t20 t24 t25 t26 (K:Int) m0 m1 m2 m3 m4 m5 m6 m7 m8 m9 m10 m11 m12 s0 (n:Int)) (0,List.replicate K (V.int .i64 0))=some ((K:Int),false,pT K mul n):=by
 have h4:=h.k4;refine tF (fun i a=>((i:Int),a)) K (fun i=>nV (pw mul i (eN-1+n))) (List.replicate K (V.int .i64 0)) (by simp) (fun a=>((K:Int),false,a)) (fun i hi a hl=> ?_) ?_
 ·simp only[Kq,E6,un,aP,bj];refine bT (bm hi) (bs (aim h ha hi (by omega)) ((rz (by omega)).trans ?_));rw[br (by omega),Int.toNat_natCast];rfl
 ·simp only[Kq,E6,un];refine bF (aZ (az _)) ?_;rw[aZ (az _)]
theorem XT {p:List (Nat×Nat)} (hp: ∀s∈p,fo s) (hl:p.length≤1000) {A B:LV} (hA:PV K mul 0 A) (hB:PV K mul 1 B) {t18 m0:LV} {t19 t20 m1:Int}: ∃A' B',PV K mul 0 A'∧PV K mul 1 B'∧(A=pT K mul 0→A'=pT K mul 0)∧(B=pT K mul 1→B'=pT K mul 1)∧qn K mul p p.length A' B'∧
  Loop (E7 CC (tG K mul) t18 t19 t20 (p.map cp) (p.length:Int) m0 m1) (ny 0 A B)=some ((p.length:Int),false,[],A',B',[],[],[],[],[],[],[],[]):=by
 have h1:=h.k1;have h4:=h.k4;have key:=lG (step:=E7 CC (tG K mul) t18 t19 t20 (p.map cp) (p.length:Int) m0 m1) (fun i y=> ∃A' B',PV K mul 0 A'∧PV K mul 1 B'∧(A=pT K mul 0→A'=pT K mul 0)∧(B=pT K mul 1→B'=pT K mul 1)∧qn K mul p i A' B'∧y=ny (i:Int) A' B')
  (fun r=> ∃A' B',PV K mul 0 A'∧PV K mul 1 B'∧(A=pT K mul 0→A'=pT K mul 0)∧(B=pT K mul 1→B'=pT K mul 1)∧qn K mul p p.length A' B'∧r=((p.length:Int),false,[],A',B',[],[],[],[],[],[],[],[])) p.length 0 (ny 0 A B) (fun i _ hi y hy=> ?_) (fun y hy=> ?_) ⟨A,B,hA,hB,id,id,fun j hj=>(by omega),rfl⟩
 ·obtain ⟨r,e,A',B',a1,a2,a3,a4,a5,rfl⟩:=key;exact ⟨A',B',a1,a2,a3,a4,a5,e⟩
 ·obtain ⟨A',B',a1,a2,a3,a4,a5,rfl⟩:=hy;have bS:i<p.length:=by omega
  have hs:=hp _ (dd bS);have hg:p.getD i (0,0)=p[i]:=by rw[qY,b7 bS,Option.getD_some]
  have jZ:=XU bS;generalize Kr:p[i]=s at hs hg jZ;obtain ⟨k,n⟩:=s;simp only[E7,E8,un,ny];by_cases ck:k=3
  case neg=>
   refine ⟨_,bT (bm bS) (bs jZ (bT ?_ rfl)),A',B',a1,a2,a3,a4,fun j hj dr hk=> ?_,?_⟩
   ·show (((k:Nat):Int) != 3)=true;rw[bne_iff_ne];omega
   ·by_cases cj:j=i
    ·rw[cj,hg] at hk;exact absurd hk ck
    ·exact a5 j (by omega) dr hk
   ·rw[br (by omega)]
  subst ck;have gK: ∀{l:LV} {m:Nat},l=pT K mul m→Nat.beq l.length 0=false:=fun {l m} hl=>by
   rw[hl,pT,eW];cases hb:Nat.beq K 0 with
   | false=>rfl
   | true=>rw[aM] at hb;omega
  rcases hs.2 rfl with yJ|yJ
  ·have yJ:n=0:=yJ;subst yJ;rcases a1 with rfl|PW
   ·have el:=XS h ha (n:=0) (by omega) (t18:=t18) (t24:=p.map cp) (t19:=t19) (t20:=t20) (t25:=(p.length:Int)) (t26:=(i:Int)) (m0:=m0) (m1:=m1) (m2:=[]) (m3:=[]) (m4:=B') (m5:=[]) (m6:=[]) (m7:=[]) (m8:=[]) (m9:=[]) (m10:=[]) (m11:=[]) (m12:=[]) (s0:=3);have aR:Nat.blt 0 (pT K mul 0).length=true:=by rw[pT,eW,mZ];omega
    refine ⟨ny ((i+1:Nat):Int) (pT K mul 0) B',bT (bm bS) (bs jZ (bF rfl (bT rfl (bT rfl (bF rfl ?_))))),pT K mul 0,B',.inr rfl,a2,fun _=>rfl,a4,fun j hj dr hk=> ?_,rfl⟩
    ·rw[rA];refine bT (gD (by omega) (by omega)) ?_;rw[Int.toNat_natCast,yd];refine bs el ?_;simp only[un];refine bT rfl (bT rfl (bT (by rw[aR];rfl) ?_));rw[br (by omega)];rfl
    ·by_cases cj:j=i
     ·rw[cj,hg];exact ⟨fun _=>rfl,fun e=>(by cases e)⟩
     ·exact ⟨fun _=>rfl,(a5 j (by omega) dr hk).2⟩
   ·refine ⟨ny ((i+1:Nat):Int) A' B',bT (bm bS) (bs jZ (bF rfl (bT rfl (bT rfl (bT ?_ ?_))))),A',B',.inr PW,a2,a3,a4,fun j hj dr hk=> ?_,rfl⟩
    ·show (!(Nat.beq A'.length 0))=true;rw[gK PW];rfl
    ·rw[br (by omega)];rfl
    ·by_cases cj:j=i
     ·rw[cj,hg];exact ⟨fun _=>PW,fun e=>(by cases e)⟩
     ·exact a5 j (by omega) dr hk
  ·have yJ:n=1:=yJ;subst yJ;rcases a2 with rfl|PX
   ·have el:=XS h ha (n:=1) (by omega) (t18:=t18) (t24:=p.map cp) (t19:=t19) (t20:=t20) (t25:=(p.length:Int)) (t26:=(i:Int)) (m0:=m0) (m1:=m1) (m2:=[]) (m3:=A') (m4:=[]) (m5:=[]) (m6:=[]) (m7:=[]) (m8:=[]) (m9:=[]) (m10:=[]) (m11:=[]) (m12:=[]) (s0:=3);have aR:Nat.blt 0 (pT K mul 1).length=true:=by rw[pT,eW,mZ];omega
    refine ⟨ny ((i+1:Nat):Int) A' (pT K mul 1),bT (bm bS) (bs jZ (bF rfl (bT rfl (bT rfl (bF rfl ?_))))),A',pT K mul 1,a1,.inr rfl,a3,fun _=>rfl,fun j hj dr hk=> ?_,rfl⟩
    ·rw[rA];refine bT (gD (by omega) (by omega)) ?_;rw[Int.toNat_natCast,yd];refine bs el ?_;simp only[un];refine bT rfl (bT rfl (bT (by rw[aR];rfl) ?_));rw[br (by omega)];rfl
    ·by_cases cj:j=i
     ·rw[cj,hg];exact ⟨fun e=>(by cases e),fun _=>rfl⟩
     ·exact ⟨(a5 j (by omega) dr hk).1,fun _=>rfl⟩
   ·refine ⟨ny ((i+1:Nat):Int) A' B',bT (bm bS) (bs jZ (bF rfl (bT rfl (bT rfl (bT ?_ ?_))))),A',B',a1,.inr PX,a3,a4,fun j hj dr hk=> ?_,rfl⟩
    ·show (!(Nat.beq B'.length 0))=true;rw[gK PX];rfl
    ·rw[br (by omega)];rfl
    ·by_cases cj:j=i
     ·rw[cj,hg];exact ⟨fun e=>(by cases e),fun _=>PX⟩
     ·exact a5 j (by omega) dr hk
 ·obtain ⟨A',B',a1,a2,a3,a4,a5,rfl⟩:=hy;rw[dL] at*
  simp only[E7,E8,un,ny];exact ⟨_,bF (aZ (az _)) rfl,A',B',a1,a2,a3,a4,a5,dc rfl (dc (aZ (az _)) rfl)⟩
omit h ha in
theorem qn.mono {p:List (Nat×Nat)} {k:Nat} {A B A' B':LV} (hh:qn K mul p k A B) (h1:A=pT K mul 0→A'=pT K mul 0) (h2:B=pT K mul 1→B'=pT K mul 1):qn K mul p k A' B':=fun j hj hl e=>⟨fun e2=>h1 ((hh j hj hl e).1 e2),fun e2=>h2 ((hh j hj hl e).2 e2)⟩
theorem aip {p q:List (Nat×Nat)} (hp: ∀s∈p,fo s) (hq: ∀s∈q,fo s) (Ks:p.length≤1000) (Kt:q.length≤1000) {one:Int}: ∃A B,PV K mul 0 A∧PV K mul 1 B∧qn K mul p p.length A B∧qn K mul q q.length A B∧
  CC E9 [.list ag (tG K mul),.int .i64 one,.list Fa [.list bJ (p.map cp),.list bJ (q.map cp)]]=some (Ku (tG K mul) one A B):=by
 obtain ⟨A1,B1,a1,a2,a3,a4,a5,e1⟩:=XT h ha hp Ks (A:=[]) (B:=[]) (.inl rfl) (.inl rfl) (t18:=[.list bJ (p.map cp),.list bJ (q.map cp)]) (m0:=tG K mul) (t19:=2) (t20:=0) (m1:=one);obtain ⟨A2,B2,b1,b2,b3,b4,b5,e2⟩:=XT h ha hq Kt a1 a2 (t18:=[.list bJ (p.map cp),.list bJ (q.map cp)]) (m0:=tG K mul) (t19:=2) (t20:=1) (m1:=one);refine ⟨A2,B2,b1,b2,a5.mono b3 b4,b5,aiq ?_⟩;unfold XV;have s1:yK CC (tG K mul) [.list bJ (p.map cp),.list bJ (q.map cp)] 2 (tG K mul) one (ny 0 [] [])=some (.inl (ny 1 A1 B1)):=by
  simp only[yK,BJ,un,ny];refine bT rfl (bs rfl ?_);rw[V.eB,dH];exact bs e1 rfl
 have s2:yK CC (tG K mul) [.list bJ (p.map cp),.list bJ (q.map cp)] 2 (tG K mul) one (ny 1 A1 B1)=some (.inl (ny 2 A2 B2)):=by
  simp only[yK,BJ,un,ny];refine bT rfl (bs rfl ?_);rw[V.eB,dH];exact bs e2 rfl
 have s3:yK CC (tG K mul) [.list bJ (p.map cp),.list bJ (q.map cp)] 2 (tG K mul) one (ny 2 A2 B2)=some (.inr (2,false,[],A2,B2,[],[],[],[],[],[],[],[])):=by
  simp only[yK,BJ,un,ny];exact bF rfl rfl
 exact bs ((iM s1).trans ((iM s2).trans (kg s3))) rfl
end
def oe {α:Type} (one:α) (mul:α→α→α) (po:Nat→α→α) (v:Nat→α) (s:Nat×Nat) (st:List α):Option (List α):=
 if s.1=0 then some (one::st) else if s.1=1 then some (v s.2::st)
 else if s.1=2 then (match st with|b::a::r=>some (mul a b::r)|_=>none)
 else (match st with|a::r=>some (po s.2 a::r)|_=>none)
def eI {α:Type} (one:α) (mul:α→α→α) (po:Nat→α→α) (v:Nat→α):List (Nat×Nat)→List α→Option (List α)
 | [],st=>some st
 | s::p,st=>(oe one mul po v s st).bind (eI one mul po v p)
def SV (st:List Nat) (l:LV):Prop:=l.length=61∧st.length≤60∧∀i,i<st.length→l[st.length-1-i]? =some (nV (st.getD i 0))
theorem SV.tail {x:Nat} {st:List Nat} {l:LV} (h:SV (x::st) l):SV st l:=by
 obtain ⟨h1,h2,h3⟩:=h;simp only[List.length_cons] at h2 h3;refine ⟨h1,by omega,fun i hi=> ?_⟩;have:=h3 (i+1) (by omega);rwa [show st.length+1-1-(i+1)=st.length-1-i by omega,List.getD_cons_succ] at this
theorem SV.push {st:List Nat} {l:LV} (h:SV st l) (h6:st.length<60) (x:Nat):SV (x::st) (l.set st.length (nV x)):=by
 obtain ⟨h1,h2,h3⟩:=h;refine ⟨by rw[o4,h1],by simp;omega,fun i hi=> ?_⟩;simp only[List.length_cons] at hi⊢;cases i with
 | zero=>
  rw[show st.length+1-1-0=st.length by omega,qc (by omega)];rfl
 | succ i=>
  rw[show st.length+1-1-(i+1)=st.length-1-i by omega,wA (by omega),h3 i (by omega),List.getD_cons_succ]
theorem SV.top {x:Nat} {st:List Nat} {l:LV} (h:SV (x::st) l):l[st.length]? =some (nV x):=by
 have:=h.2.2 0 (by simp);simpa using this
noncomputable def dR (mul:Nat→Nat→Nat) (n x:Nat):Nat:=pw mul x (eN-1+n)
section
variable {K:Nat} {mul:Nat→Nat→Nat} (h:Tb K mul) {p:List (Nat×Nat)} (hp: ∀s∈p,fo s) (hl:p.length≤1000) {A B:LV} (hP:qn K mul p p.length A B)
  {m:Nat} {v:Nat→Nat} (hv: ∀i,i<m→v i<K) (hw:mP m p 0=some 1)
include h hp hl hP hv hw
theorem XW: ∃y,y<K∧eI 0 mul (dR mul) v p []=some [y]∧CC Fb (.list bJ (p.map cp)::(Ku (tG K mul) 0 A B++[.list ab (tab m fun i=>nV (v i))]))=some (.int .i64 (y:Int)::(Ku (tG K mul) 0 A B++[.list ab (tab m fun i=>nV (v i))])):=by
 have h4:=h.k4;have h1:=h.k1;have key:=lG (step:=Kv CC (p.map cp) (p.length:Int) (tG K mul) 0 [] A B [] [] [] [] [] [] [] [] (tab m fun i=>nV (v i)))
  (fun i x=> ∃(st:List Nat) (l:LV),mP m (p.drop i) st.length=some 1∧SV st l∧(∀y∈st,y<K)∧eI 0 mul (dR mul) v p []=eI 0 mul (dR mul) v (p.drop i) st∧x=((st.length:Int),(i:Int),l)) (fun r=> ∃y l,y<K∧SV [y] l∧eI 0 mul (dR mul) v p []=some [y]∧r=(1,(p.length:Int),false,l)) p.length 0 (0,0,List.replicate 61 (V.int .i64 0)) (fun i _ hi x hx=> ?_) (fun x hx=> ?_) ⟨([]:List Nat),List.replicate 61 (V.int .i64 0),hw,⟨by simp,by simp,fun i hi=>(by cases hi)⟩,fun _ h=>(by cases h),rfl,rfl⟩
 ·obtain ⟨r,e,y,l,hy,hs,sD,rfl⟩:=key;have hg:l[0]? =some (nV y):=hs.top;refine ⟨y,hy,sD,air ?_⟩;unfold XX;rw[dH];refine bs e ?_;simp only[un];exact bs hg rfl
 ·obtain ⟨st,l,hr,hs,hk,sD,rfl⟩:=hx;have bS:i<p.length:=by omega
  have jZ:=XU bS;have cS:=hp _ (dd bS);have hg:p.getD i (0,0)=p[i]:=by rw[qY,b7 bS,Option.getD_some]
  have PY:=hP i bS bS;rw[hg] at PY;rw[List.drop_eq_getElem_cons bS] at hr sD;generalize p[i]=s at*
  obtain ⟨k,n⟩:=s;simp only[mP] at hr;have XY:=hs.1;have ht:=hs.2.1;simp only[Kv,Fc,un];have push: ∀{x:Nat},x<K→∀y∈x::st,y<K:=fun hx y hy=>by
   rcases fj.1 hy with rfl|hy
   ·exact hx
   ·exact hk y hy
  rcases (by have:=cS.1;simp only at this;omega:k=0∨k=1∨k=2∨k=3) with rfl|rfl|rfl|rfl
  ·rw[XZ] at hr;by_cases c:st.length<60
   ·rw[aA c,Option.bind_some] at hr;refine ⟨_,bT (bm bS) (bs jZ ?_),0::st,l.set st.length (nV 0),hr,hs.push c 0,push h1,sD,rfl⟩;simp only[xg];refine bT rfl (bT (kb.2 ⟨cg (by omega),cg (by omega)⟩) (bs (b7 (by rw[Int.toNat_natCast,XY];omega)) ?_));rw[br (by omega),br (by omega)];rfl
   ·rw[aw c] at hr;cases hr
  ·rw[PZ] at hr;by_cases c:st.length<60∧n<m
   ·rw[aA c,Option.bind_some] at hr;have hvg:(tab m fun i=>nV (v i))[n]? =some (nV (v n)):=mj c.2;refine ⟨_,bT (bm bS) (bs jZ ?_),v n::st,l.set st.length (nV (v n)),hr,hs.push c.1 _,push (hv n c.2),sD,rfl⟩;simp only[xg];refine bF rfl (bT rfl ((ca (i:=n) hvg).trans (bT (kb.2 ⟨cg (by omega),cg (by omega)⟩) (bs (b7 (by rw[Int.toNat_natCast,XY];omega)) ?_))));rw[br (by omega),br (by omega)];rfl
   ·rw[aw c] at hr;cases hr
  ·rw[X0] at hr;by_cases c:2≤st.length
   ·rw[aA c,Option.bind_some] at hr;obtain ⟨b,a,r,rfl⟩: ∃b a r,st=b::a::r:=by
     match st,c with
     | b::a::r,_=>exact ⟨b,a,r,rfl⟩
    have X1:b<K:=hk b (o5 ..);have Fe:a<K:=hk a (ju _ (o5 ..));have hbg:l[r.length+1]? =some (nV b):=hs.top;have cD:l[r.length]? =some (nV a):=hs.tail.top;simp only[List.length_cons] at ht hr c;refine ⟨_,bT (bm bS) (bs jZ ?_),mul a b::r,l.set r.length (nV (mul a b)),hr,hs.tail.tail.push (by omega) _,fun y hy=> ?_,sD,rfl⟩
    ·simp only[xg];refine bF rfl (bF rfl (bT rfl ?_));rw[Kw (t:=(b::a::r).length) (by simp) (by simp;omega),Kw (t:=(b::a::r).length-1) (by simp) (by simp;omega),show (b::a::r).length-1-1=r.length from rfl,show (b::a::r).length-1=r.length+1 from rfl,Int.toNat_natCast,Int.toNat_natCast];refine bT (kb.2 ⟨cg (by omega),cg (by omega)⟩) (bs cD (bs (nw Fe) (bT (kb.2 ⟨cg (by omega),cg (by omega)⟩) (bs hbg (bs (pz X1) (bT (kb.2 ⟨cg (by omega),cg (by omega)⟩) (bs cD ?_)))))));rw[br (by omega)];rfl
    ·rcases fj.1 hy with rfl|hy
     ·exact h.lt _ _ Fe X1
     ·exact hk y (ju _ (ju _ hy))
   ·rw[aw c] at hr;cases hr
  ·rw[X2] at hr;by_cases c:1≤st.length
   ·rw[aA c,Option.bind_some] at hr;obtain ⟨a,r,rfl⟩: ∃a r,st=a::r:=by
     match st,c with
     | a::r,_=>exact ⟨a,r,rfl⟩
    have Fe:a<K:=hk a (o5 ..);have cD:l[r.length]? =some (nV a):=hs.top;simp only[List.length_cons] at ht hr c;have yL:(decide (0≤(r.length:Int))&&decide ((r.length:Int)<61))=true:=kb.2 ⟨cg (by omega),cg (by omega)⟩;have X3: ∀n,idx (pT K mul n) (a:Int)=some (nV (dR mul n a)):=fun n=>qo Fe;have aR: ∀n,dR mul n a<K:=fun n=>vf h Fe _;have good: ∀n,∀y∈dR mul n a::r,y<K:=fun n y hy=>by
     rcases fj.1 hy with rfl|hy
     ·exact aR n
     ·exact hk y (ju _ hy)
    rcases cS.2 rfl with hn|hn
    ·have hn:n=0:=hn;subst hn;have hA:idx A (a:Int)=some (nV (dR mul 0 a)):=by rw[(PY rfl).1 rfl];exact X3 0
     refine ⟨_,bT (bm bS) (bs jZ ?_),dR mul 0 a::r,l.set r.length (nV (dR mul 0 a)),hr,hs.tail.push (by omega) _,good 0,sD,rfl⟩;simp only[xg];refine bF rfl (bF rfl (bF rfl (bT rfl (bT rfl (bT rfl ?_)))));rw[Kw (t:=(a::r).length) (by simp) (by simp;omega),show (a::r).length-1=r.length from rfl,Int.toNat_natCast];refine bT yL (bs cD (bs (a:=nV (dR mul 0 a)) hA (bT yL (bs cD ?_))));rw[br (by omega)];rfl
    ·have hn:n=1:=hn;subst hn;have hA:idx B (a:Int)=some (nV (dR mul 1 a)):=by rw[(PY rfl).2 rfl];exact X3 1
     refine ⟨_,bT (bm bS) (bs jZ ?_),dR mul 1 a::r,l.set r.length (nV (dR mul 1 a)),hr,hs.tail.push (by omega) _,good 1,sD,rfl⟩;simp only[xg];refine bF rfl (bF rfl (bF rfl (bT rfl (bT rfl (bT rfl ?_)))));rw[Kw (t:=(a::r).length) (by simp) (by simp;omega),show (a::r).length-1=r.length from rfl,Int.toNat_natCast];refine bT yL (bs cD (bs (a:=nV (dR mul 1 a)) hA (bT yL (bs cD ?_))));rw[br (by omega)];rfl
   ·rw[aw c] at hr;cases hr
 ·obtain ⟨st,l,hr,hs,hk,sD,rfl⟩:=hx;rw[dL,List.drop_length] at hr sD;have EG:st.length=1:=by simpa[mP] using hr
  obtain ⟨y,rfl⟩: ∃y,st=[y]:=by
   match st,EG with
   | [y],_=>exact ⟨y,rfl⟩
  rw[dL];simp only[Kv,Fc,un];exact ⟨_,bF (aZ (az _)) rfl,y,l,hk y (o5 ..),hs,sD,dc rfl (dc rfl (dc (aZ (az _)) rfl))⟩
end
theorem yM {α:Type} {one:α} {mul:α→α→α} {po:Nat→α→α} {v v':Nat→α} {m:Nat} (hv: ∀i,i<m→v i=v' i): ∀(p:List (Nat×Nat)) (st:List α) (t:Nat),mP m p t=some 1→eI one mul po v p st=eI one mul po v' p st
 | [],_,_,_=>rfl
 | (k,n)::p,st,t,hr=>by
  have e:oe one mul po v (k,n) st=oe one mul po v' (k,n) st:=by
   by_cases c:k=1
   ·subst c;simp only[mP] at hr;rw[PZ] at hr;by_cases c2:t<60∧n<m
    ·show some (v n::st)=some (v' n::st);rw[hv n c2.2]
    ·rw[aw c2] at hr;cases hr
   ·unfold oe;simp only[aw c]
  simp only[mP] at hr;cases hs:xh m t (k,n) with
  | none=>rw[hs] at hr;cases hr
  | some t'=>
   rw[hs,Option.bind_some] at hr;show (oe one mul po v (k,n) st).bind _=(oe one mul po v' (k,n) st).bind _;rw[e];exact congrArg _ (funext fun st'=>yM hv p st' t' hr)
def rk (len k:Nat→Nat):Nat→Nat
 | 0=>0
 | n+1=>rk len k n*len n+k n
theorem X4 {len a b:Nat→Nat}: ∀{n:Nat},(∀i,i<n→a i=b i)→rk len a n=rk len b n
 | 0,_=>rfl
 | n+1,h=>by
  show rk len a n*len n+a n=rk len b n*len n+b n;rw[X4 fun i hi=>h i (by omega),h n (by omega)]
theorem X5 {len a b:Nat→Nat} {i:Nat} (h1: ∀j,j<i→b j=a j) (h2:b i=a i+1): ∀{n:Nat},i<n→(∀j,i<j→j<n→a j+1=len j∧b j=0)→rk len b n=rk len a n+1
 | 0,h,_=>by omega
 | n+1,h,h3=>by
  show rk len b n*len n+b n=rk len a n*len n+a n+1;by_cases c:i=n
  ·subst c;rw[X4 h1,h2];omega
  ·obtain ⟨e1,e2⟩:=h3 n (by omega) (by omega);rw[X5 h1 h2 (by omega) fun j hj hn=>h3 j hj (by omega),e2,jh];omega
theorem X6 {len a b:Nat→Nat}: ∀{n:Nat},(∀i,i<n→a i+1=len i)→(∀i,i<n→b i<len i)→rk len b n≤rk len a n
 | 0,_,_=>az _
 | n+1,h1,h2=>by
  show rk len b n*len n+b n≤rk len a n*len n+a n;have e1:=h1 n (by omega);have e2:=h2 n (by omega);have:=eF (len n) (X6 (fun i hi=>h1 i (by omega)) fun i hi=>h2 i (by omega):rk len b n≤rk len a n);omega
theorem X7 {len a b:Nat→Nat}: ∀{n:Nat},(∀i,i<n→a i<len i)→(∀i,i<n→b i<len i)→rk len a n=rk len b n→∀i,i<n→a i=b i
 | 0,_,_,_=>fun i hi=>by omega
 | n+1,h1,h2,e=>fun i hi=>by
  have e:rk len a n*len n+a n=rk len b n*len n+b n:=e;have l1:=h1 n (by omega);have l2:=h2 n (by omega);have q:rk len a n=rk len b n:=by
   rcases Nat.lt_trichotomy (rk len a n) (rk len b n) with c|c|c
   ·have:=eF (len n) (show rk len a n+1≤rk len b n from c);rw[jh] at this;omega
   ·exact c
   ·have:=eF (len n) (show rk len b n+1≤rk len a n from c);rw[jh] at this;omega
  by_cases c:i=n
  ·subst c;rw[q] at e;omega
  ·exact X7 (fun i hi=>h1 i (by omega)) (fun i hi=>h2 i (by omega)) q i (by omega)
def dK (n:Nat) (k:Nat→Nat):LV:=tab n fun i=>nV (k i)
def gj (R:List (List Nat)) (i:Nat):Nat:=(R.getD i []).length
def gk (R:List (List Nat)) (k:Nat→Nat) (i:Nat):Nat:=(R.getD i []).getD (k i) 0
section
variable {K:Nat} {R:List (List Nat)} (hR:RG K R) {k:Nat→Nat} (hk: ∀i,i<R.length→k i<gj R i)
include hR hk
theorem ais {i:Nat} (hi:i<R.length):gk R k i<K:=by
 unfold gk;rw[cE (hk i hi)];exact hR.lt i hi _ (dd _)
omit hR in
theorem X8 {i:Nat} (hi:i<R.length):idx (nS (R.getD i [])) (k i:Int)=some (nV (gk R k i)):=by
 unfold gk;rw[cE (hk i hi)];exact iE (hk i hi)
theorem X9 {p q:List (Nat×Nat)} {t A B:LV} {one:Int}:CC Ff (pA p q R t one A B [.list ab (dK R.length k)])=some (pA p q R t one A B [.list ab (dK R.length (gk R k)),.list ab (dK R.length k)]):=by
 have Ya:=hR.rl;have hl:(dK R.length k).length=R.length:=eW;refine ait ?_;unfold Yb;rw[hl];refine bT (gD (by omega) (by omega)) ?_;rw[Int.toNat_natCast];refine bs (tF (fun i a=>((i:Int),a)) R.length (fun i=>nV (gk R k i)) (List.replicate R.length (V.int .i64 0)) (by simp) (fun a=>((R.length:Int),false,a)) (fun i hi a ha=> ?_) ?_) rfl
 ·have hg:(dK R.length k)[i]? =some (nV (k i)):=mj hi;simp only[P0,Fg,un,aP,bj];refine bT (bm hi) ((ca hg).trans (bs (BK hi) ?_));rw[V.eB];refine bs (X8 hk hi) ((rz (by omega)).trans ?_);rw[br (by omega),Int.toNat_natCast];rfl
 ·simp only[P0,Fg,un];refine bF (aZ (az _)) ?_;rw[aZ (az _)]
theorem aiu {p q:List (Nat×Nat)} {t A B:LV} {one:Int}: ∃(b:Bool) (k':Nat→Nat),(∀i,i<R.length→k' i<gj R i)∧(b=true→rk (gj R) k' R.length=rk (gj R) k R.length+1)∧(b=false→∀i,i<R.length→k i+1=gj R i)∧
  CC Fh (pA p q R t one A B [.list ab (dK R.length k)])=some (.bool b::pA p q R t one A B [.list ab (dK R.length k')]):=by
 have Ya:=hR.rl;have hl:(dK R.length k).length=R.length:=eW;have put: ∀{f:Nat→Nat} {i v:Nat},(dK R.length f).set i (nV v)=dK R.length fun j=>if j=i then v else f j:=fun {f i v}=>by
  unfold dK;rw[lH];exact dg fun j _=>by by_cases c:j=i<;>simp[c]
 have key: ∀(d:Nat),d≤R.length→(∀i,d≤i→i<R.length→k i+1=gj R i)→∃r,Loop (Fi CC (p.map cp) (q.map cp) (RV R) t one [] A B [] [] [] [] [] [] [] []) ((d:Int)-1,dK R.length fun i=>if i<d then k i else 0)=some r∧
   ((∃k',(∀i,i<R.length→k' i<gj R i)∧rk (gj R) k' R.length=rk (gj R) k R.length+1∧r= .inl (true,dK R.length k'))∨∃j b,(∀i,i<R.length→k i+1=gj R i)∧r= .inr (j,b,dK R.length fun _=>0)):=by
  intro d
  induction d with
  | zero=>
   intro _ hd;have e0:(dK R.length fun i=>if i<0 then k i else 0)=dK R.length fun _=>0:=dg fun i _=>congrArg nV (aw (Nat.not_lt_zero i));rw[e0];refine ⟨_,kg (r:= .inr (((0:Nat):Int)-1,false,dK R.length fun _=>0)) ?_,.inr ⟨((0:Nat):Int)-1,false,fun i hi=>hd i (ma _) hi,rfl⟩⟩;simp only[Fi,BL,un];exact bF rfl rfl
  | succ i ih=>
   intro hd h2;have hi:i<R.length:=by omega
   have e1:(((i+1:Nat):Int)-1)=(i:Int):=by omega
   rw[e1];have hki:=hk i hi;have hg:(dK R.length fun j=>if j<i+1 then k j else 0)[i]? =some (nV (k i)):=(mj hi).trans (by simp)
   have BM:gj R i≤1000:=hR.len i hi;have jm:((dK R.length fun j=>if j<i+1 then k j else 0).set i (.int .i64 ((k i+1:Nat):Int)))[i]? =some (nV (k i+1)):=qc (by rw[dK,eW];exact hi);have w1:wrap .i64 ((nV (k i)).toInt+1)=((k i+1:Nat):Int):=br (by omega);by_cases c:k i+1<gj R i
   ·have good: ∀j,i<j→j<R.length→¬j=i∧¬j<i+1:=fun j h1 _=>⟨by omega,by omega⟩
    refine ⟨.inl (true,dK R.length fun j=>if j=i then k i+1 else if j<i+1 then k j else 0),kg ?_,.inl ⟨_,fun j hj=> ?_,X5 (i:=i) (fun j hj=> ?_) (by simp) hi (fun j h1 h3=>⟨h2 j (by omega) h3,?_⟩),rfl⟩⟩
    ·simp only[Fi,BL,un,aP,bj,Int.toNat_natCast];refine bT (cg (by omega)) ((ca hg).trans ((ca hg).trans ?_));simp only[w1];refine (ca jm).trans (bs (BK hi) ?_)
     rw[V.eB,dE];refine bT (cg (by show ((k i+1:Nat):Int)<_;unfold gj at c;omega)) ?_;rw[←put];rfl
    ·have dB:=hk j hj;by_cases cj:j=i
     ·subst cj;rw[aA rfl];exact c
     ·rw[aw cj];by_cases Yc:j<i+1
      ·rw[aA Yc];exact dB
      ·rw[aw Yc];omega
    ·rw[aw (by omega),aA (by omega)]
    ·rw[aw (by omega),aw (by omega)]
   ·obtain ⟨r,e,hr⟩:=ih (by omega) fun j h1 h3=>by
     by_cases cj:j=i
     ·subst cj;omega
     ·exact h2 j (by omega) h3
    refine ⟨r,(iM ?_).trans e,hr⟩;simp only[Fi,BL,un,aP,bj,Int.toNat_natCast];refine bT (cg (by omega)) ((ca hg).trans ((ca hg).trans ?_));simp only[w1];refine (ca jm).trans (bs (BK hi) ?_)
    rw[V.eB,dE];refine bF (cX (by show¬((k i+1:Nat):Int)<_;unfold gj at c;omega)) ((ca jm).trans ?_);rw[AZ];have w2:wrap .i64 ((i:Int)-1)=(i:Int)-1:=wrap64 (by omega) (by omega);have p0:(dK R.length fun j=>if j<i+1 then k j else 0).set i (.int .i64 0)=dK R.length fun j=>if j<i then k j else 0:=(put (v:=0)).trans (dg fun j _=>congrArg nV (by
     show (if j=i then 0 else if j<i+1 then k j else 0)=(if j<i then k j else 0)
     by_cases c1:j=i
     ·subst c1;simp
     ·rw[aw c1];by_cases c2:j<i
      ·rw[aA c2,aA (by omega)]
      ·rw[aw c2,aw (by omega)]))
    rw[w2,p0]
 have e0:dK R.length k=dK R.length fun i=>if i<R.length then k i else 0:=dg fun i hi=>congrArg nV (aA hi).symm
 obtain ⟨r,e,hr⟩:=key R.length (az _) fun i h1 h2=>(by omega)
 rw[←e0] at e;have w3:wrap .i64 ((R.length:Int)-1)=(R.length:Int)-1:=wrap64 (by omega) (by omega);have fin: ∀z,Kx CC (p.map cp) (q.map cp) (RV R) t one [] A B [] [] [] [] [] [] [] [] (dK R.length k)=z→CC Fh (pA p q R t one A B [.list ab (dK R.length k)])=z:=fun z h=>aiv h;rcases hr with ⟨k',h1,h2,rfl⟩|⟨j,b,h1,rfl⟩
 ·refine ⟨true,k',h1,fun _=>h2,fun e=>(by cases e),fin _ ?_⟩;unfold Kx;rw[hl,w3];exact bs e rfl
 ·refine ⟨false,fun _=>0,fun i hi=>Nat.lt_of_le_of_lt (ma _) (hk i hi),fun e=>(by cases e),fun _=>h1,fin _ ?_⟩;unfold Kx;rw[hl,w3];exact bs e rfl
end
section
variable {K:Nat} {mul:Nat→Nat→Nat} (h:Tb K mul) {R:List (List Nat)} (hR:RG K R) {p q:List (Nat×Nat)} (hp: ∀s∈p,fo s) (hq: ∀s∈q,fo s) (Ks:p.length≤1000) (Kt:q.length≤1000) {A B:LV} (hP:qn K mul p p.length A B) (hQ:qn K mul q q.length A B)
  (hw:mP R.length p 0=some 1) (BN:mP R.length q 0=some 1)
include h hR hp hq Ks Kt hP hQ hw BN
theorem aiw (bq: ∀i,i<R.length→0<gj R i) {lim:Nat} (ay6:lim≤2000000): ∃(s:Int) (b1 b2:Bool) (k':Nat→Nat),(∀i,i<R.length→k' i<gj R i)∧
  (b1=true→eI 0 mul (dR mul) (gk R k') p []≠eI 0 mul (dR mul) (gk R k') q [])∧
  (b1=false→b2=true→∀k,(∀i,i<R.length→k i<gj R i)→eI 0 mul (dR mul) (gk R k) p []=eI 0 mul (dR mul) (gk R k) q [])∧
  CC Fj (.int .i64 (lim:Int)::pA p q R (tG K mul) 0 A B [.list ab (dK R.length fun _=>0)])=some (.int .i64 s:: .bool b1:: .bool b2::pA p q R (tG K mul) 0 A B [.list ab (dK R.length k')]):=by
 have Ya:=hR.rl;have e0:=X9 hR bq (p:=p) (q:=q) (t:=tG K mul) (A:=A) (B:=B) (one:=0);have fill: ∀{vs:LV} {k:Nat→Nat} {s:Int},vs.length=R.length→(∀i,i<R.length→k i<gj R i)→Loop (Ky CC (lim:Int) s (R.length:Int) (p.map cp) (q.map cp) (RV R) (tG K mul) 0 [] A B [] [] [] [] [] [] [] [] (dK R.length k)) (0,vs)=some ((R.length:Int),false,dK R.length (gk R k)):=by
  intro vs k s hv hk;refine tF (fun i a=>((i:Int),a)) R.length (fun i=>nV (gk R k i)) vs hv (fun a=>((R.length:Int),false,a)) (fun i hi a ha=> ?_) ?_
  ·have hg:(dK R.length k)[i]? =some (nV (k i)):=mj hi;simp only[Ky,Fk,un,aP,bj];refine bT (bm hi) ((ca hg).trans (bs (BK hi) ?_));rw[V.eB];refine bs (X8 hk hi) ((rz (by omega)).trans ?_);rw[br (by omega),Int.toNat_natCast];rfl
  ·simp only[Ky,Fk,un];refine bF (aZ (az _)) ?_;rw[aZ (az _)]
 have key:=Kz (step:=BO CC (lim:Int)) (fun x=> ∃(s:Nat) (vs:LV) (k:Nat→Nat),x=((s:Int),p.map cp,q.map cp,RV R,tG K mul,0,[],A,B,[],[],[],[],[],[],[],[],vs,dK R.length k)∧vs.length=R.length∧(∀i,i<R.length→k i<gj R i)∧(∀k2,(∀i,i<R.length→k2 i<gj R i)→rk (gj R) k2 R.length<rk (gj R) k R.length→eI 0 mul (dR mul) (gk R k2) p []=eI 0 mul (dR mul) (gk R k2) q [])∧s≤lim) (fun x=>lim-x.1.toNat)
  (fun r=>(∃(s:Int) (b1 b2:Bool) (k':Nat→Nat),(∀i,i<R.length→k' i<gj R i)∧
   (b1=true→eI 0 mul (dR mul) (gk R k') p []≠eI 0 mul (dR mul) (gk R k') q [])∧
   (b1=false→b2=true→∀k,(∀i,i<R.length→k i<gj R i)→eI 0 mul (dR mul) (gk R k) p []=eI 0 mul (dR mul) (gk R k) q [])∧r= .inl (s,b1,b2,p.map cp,q.map cp,RV R,tG K mul,0,[],A,B,[],[],[],[],[],[],[],[],dK R.length k'))∨∃(s:Int) (b:Bool) (vs:LV) (k':Nat→Nat),(∀i,i<R.length→k' i<gj R i)∧r= .inr (s,b,p.map cp,q.map cp,RV R,tG K mul,0,[],A,B,[],[],[],[],[],[],[],[],vs,dK R.length k'))
  (fun x hx=> ?_) ((0:Int),p.map cp,q.map cp,RV R,tG K mul,0,[],A,B,[],[],[],[],[],[],[],[],dK R.length (gk R fun _=>0),dK R.length fun _=>0) ⟨0,_,fun _=>0,rfl,eW,bq,fun k2 _ aR=>absurd aR (Nat.not_lt.2 ?_),ma _⟩
 ·obtain ⟨r,e,hr⟩:=key;have fin: ∀z,KA CC (lim:Int) (p.map cp) (q.map cp) (RV R) (tG K mul) 0 [] A B [] [] [] [] [] [] [] [] (dK R.length fun _=>0)=z→CC Fj (.int .i64 (lim:Int)::pA p q R (tG K mul) 0 A B [.list ab (dK R.length fun _=>0)])=z:=fun z h=>aix h;rcases hr with ⟨s,b1,b2,k',h1,h2,h3,rfl⟩|⟨s,b,vs,k',h1,rfl⟩
  ·refine ⟨s,b1,b2,k',h1,h2,h3,fin _ ?_⟩;unfold KA;exact bs e0 (bs e rfl)
  ·refine ⟨s,false,false,k',h1,fun e=>(by cases e),fun _ e=>(by cases e),fin _ ?_⟩;unfold KA;exact bs e0 (bs e rfl)
 ·obtain ⟨s,vs,k,rfl,hv,hk,Fl,hs⟩:=hx;have ku:(dK R.length k).length=R.length:=eW;by_cases c:s<lim
  ·have ef:=fill (s:=wrap .i64 ((s:Int)+1)) hv hk;have Yd: ∀i,i<R.length→gk R k i<K:=fun i hi=>ais hR hk hi;obtain ⟨y1,_,g1,P3⟩:=XW h hp Ks hP Yd hw;obtain ⟨y2,_,g2,P4⟩:=XW h hq Kt hQ Yd BN;obtain ⟨b,k',dM,ht,hf,ea⟩:=aiu hR hk (p:=p) (q:=q) (t:=tG K mul) (A:=A) (B:=B) (one:=0);by_cases cy:((y1:Int) != (y2:Int))=true
   ·refine .inr ⟨.inl (wrap .i64 ((s:Int)+1),true,true,p.map cp,q.map cp,RV R,tG K mul,0,[],A,B,[],[],[],[],[],[],[],[],dK R.length k),?_,.inl ⟨_,_,_,k,hk,fun _ e=> ?_,fun e=>(by cases e),rfl⟩⟩
    ·simp only[BO,yN,un];refine bT (bm c) ?_;rw[ku];exact bs ef (bs P3 (bs P4 (bT cy rfl)))
    ·rw[g1,g2] at e;have:y1=y2:=by simpa using e
     rw[this] at cy;simp at cy
   ·have cy:((y1:Int) != (y2:Int))=false:=by simpa using cy
    have heq:eI 0 mul (dR mul) (gk R k) p []=eI 0 mul (dR mul) (gk R k) q []:=by
     have:(y1:Int)=(y2:Int):=by simpa using cy
     rw[g1,g2,show y1=y2 by omega]
    have hle: ∀k2,(∀i,i<R.length→k2 i<gj R i)→rk (gj R) k2 R.length≤rk (gj R) k R.length→eI 0 mul (dR mul) (gk R k2) p []=eI 0 mul (dR mul) (gk R k2) q []:=fun k2 h2 hle=>by
     rcases Nat.lt_or_eq_of_le hle with c1|c1
     ·exact Fl k2 h2 c1
     ·have qp:=X7 h2 hk c1;have Fm: ∀i,i<R.length→gk R k2 i=gk R k i:=fun i hi=>by unfold gk;rw[qp i hi]
      rw[yM Fm p [] 0 hw,yM Fm q [] 0 BN,heq]
    cases b with
    | false=>
     refine .inr ⟨.inl (wrap .i64 ((s:Int)+1),false,true,p.map cp,q.map cp,RV R,tG K mul,0,[],A,B,[],[],[],[],[],[],[],[],dK R.length k'),?_,.inl ⟨_,_,_,k',dM,fun e=>(by cases e),fun _ _ k2 h2=>hle k2 h2 (X6 (hf rfl) h2),rfl⟩⟩;simp only[BO,yN,un];refine bT (bm c) ?_;rw[ku];exact bs ef (bs P3 (bs P4 (bF cy (bs ea (bT rfl rfl)))))
    | true=>
     refine .inl ⟨(((s+1:Nat):Int),p.map cp,q.map cp,RV R,tG K mul,0,[],A,B,[],[],[],[],[],[],[],[],dK R.length (gk R k),dK R.length k'),?_,⟨s+1,_,k',rfl,eW,dM,fun k2 h2 aR=>hle k2 h2 (by rw[ht rfl] at aR;omega),c⟩,?_⟩
     ·simp only[BO,yN,un];refine bT (bm c) ?_;rw[ku];refine bs ef (bs P3 (bs P4 (bF cy (bs ea (bF rfl ?_)))));rw[br (by omega)];rfl
     ·show lim-((s+1:Nat):Int).toNat<lim-(s:Int).toNat
      omega
  ·refine .inr ⟨.inr ((s:Int),false,p.map cp,q.map cp,RV R,tG K mul,0,[],A,B,[],[],[],[],[],[],[],[],vs,dK R.length k),?_,.inr ⟨_,_,_,k,hk,rfl⟩⟩;simp only[BO,yN,un];refine bF (aZ (by omega)) ?_;rw[aZ (by omega)]
 ·have z: ∀n,rk (gj R) (fun _=>0) n=0:=fun n=>by
   induction n with
   | zero=>rfl
   | succ n ih=>show rk (gj R) (fun _=>0) n*_+0=0;rw[ih,D4]
  rw[z];exact ma _
end
def j4 (mul:Nat→Nat→Nat) (bH bI:Nat→Bool) (i x:Nat):Bool:= !bH i||(bI i||decide (mul x x=x))
def nz (mul:Nat→Nat→Nat) (bH bI:Nat→Bool) (Z:List Nat) (nv:Nat):List (List Nat):=(List.range nv).map fun i=>Z.filter (j4 mul bH bI i)
theorem Fo {mul:Nat→Nat→Nat} {bH bI:Nat→Bool} {Z:List Nat} {nv:Nat}:(nz mul bH bI Z nv).length=nv:=by simp[nz]
theorem P5 {mul:Nat→Nat→Nat} {bH bI:Nat→Bool} {Z:List Nat} {nv i:Nat} (hi:i<nv):(nz mul bH bI Z nv).getD i []=Z.filter (j4 mul bH bI i):=by
 rw[qY,nz,kf,A0 hi];rfl
section
variable {K:Nat} {mul:Nat→Nat→Nat} {Z:List Nat} (hZ: ∀z∈Z,z<K) (sE:Z.length≤400) (bH bI:Nat→Bool) {nv:Nat} (hnv:nv≤6)
include hZ sE hnv
theorem aiy:Loop (KC CC (tG K mul) (nS Z) (nv:Int) (bH 0) (bH 1) (bH 2) (bH 3) (bH 4) (bH 5) (bI 0) (bI 1) (bI 2) (bI 3) (bI 4) (bI 5)) (0,List.replicate nv (V.list ab ([]:LV)))=some ((nv:Int),false,RV (nz mul bH bI Z nv)):=by
 have hO: ∀(f:Nat→Bool) (i:Nat),i<6→([.bool (f 0),.bool (f 1),.bool (f 2),.bool (f 3),.bool (f 4),.bool (f 5)]:LV)[0+(((i:Int).toNat)*1)]? =some (.bool (f i)):=by
  intro f i hi;rcases (by omega:i=0∨i=1∨i=2∨i=3∨i=4∨i=5) with rfl|rfl|rfl|rfl|rfl|rfl<;>rfl
 have inner: ∀{i:Nat} (hi:i<nv) {R:List (List Nat)} {a b:Int},R.length=nv→R.getD i []=[]→
   Loop (KD CC (tG K mul) (nS Z) (i:Int) a b (nS Z) (Z.length:Int) (bH 0) (bH 1) (bH 2) (bH 3) (bH 4) (bH 5) (bI 0) (bI 1) (bI 2) (bI 3) (bI 4) (bI 5)) (0,RV R)=some ((Z.length:Int),false,RV (R.set i (Z.filter (j4 mul bH bI i)))):=by
  intro i hi R a b BP Ye;have e0:RV R=RV (R.set i ((Z.take 0).filter (j4 mul bH bI i))):=by
   have:R.set i []=R:=by
    refine rX (by simp) fun k h1 h2=> ?_;by_cases c:i=k
    ·subst c;rw[List.getElem_set_self];rw[qY,b7 h2,Option.getD_some] at Ye;exact Ye.symm
    ·rw[List.getElem_set_ne c]
   rw[List.take_zero,List.filter_nil,this]
  rw[e0];refine fH Z.length (fun j=>((j:Int),RV (R.set i ((Z.take j).filter (j4 mul bH bI i))))) _ (fun j hj=> ?_) ?_
  ·have hz:=hZ _ (dd hj);have BQ:(Z.take (j+1)).filter (j4 mul bH bI i)=(Z.take j).filter (j4 mul bH bI i)++(if j4 mul bH bI i Z[j]=true then [Z[j]] else []):=by
    rw[D5 hj,List.filter_append];refine congrArg _ ?_;by_cases c:j4 mul bH bI i Z[j]=true<;>simp[c]
   generalize hr:(Z.take j).filter (j4 mul bH bI i)=r at BQ⊢;have h2:r.length≤400:=by
    rw[←hr];exact lZ (Jj _ _) (lZ (List.length_take_le _ _) (by omega))
   have kS:(RV (R.set i r))[i]? =some (.list ab (nS r)):=by simp[RV,BP,hi]
   have hlen:(RV (R.set i r)).length=nv:=by rw[KE,o4,BP]
   have jm:(RV (R.set i r)).set i (.list ab (nS r++[V.int .i64 (nV Z[j]).toInt]))=RV (R.set i (r++[Z[j]])):=by
    simp only[RV,List.map_set];rw[AZ];simp[nS,nV]
   have yO:(decide (0≤(i:Int))&&decide ((i:Int)<6))=true:=kb.2 ⟨cg (by omega),cg (by omega)⟩;have app:j4 mul bH bI i Z[j]=true→(bif Nat.ble (((V.list ab (nS r)).toList.length+([V.int .i64 (nV Z[j]).toInt]:LV).length)*8) ba then
     BR (RV (R.set i r)) (i:Int) <| bif (Nat.beq ((i:Int).toNat) ((i:Int).toNat))&&true then
      some (Sum.inl (β:=Int×Bool×LV) (wrap .i64 ((j:Int)+1),bj (RV (R.set i r)) (i:Int) (.list ab ((V.list ab (nS r)).toList++([V.int .i64 (nV Z[j]).toInt]:LV)))))
     else none else none)=some (Sum.inl (((j+1:Nat):Int),RV (R.set i ((Z.take (j+1)).filter (j4 mul bH bI i))))):=by
    intro hc;rw[BQ,aA hc,V.eB];refine bT (cap (by rw[dE];simp;omega) (by omega)) ?_;refine bT (oJ (by rw[hlen];exact hi)) (bT (by simp) ?_);simp only[bj,Int.toNat_natCast];rw[jm,br (by omega)]
   have P6:(RV (R.set i r))[((i:Int).toNat)]? =some (.list ab (nS r)):=kS;simp only[KD,Fp,un];cases ho:bH i with
   | false=>exact bT (bm hj) (bs (iE hj) (bT yO (bs (hO bH i (by omega)) (bT (by rw[ho];rfl) ((ca kS).trans (bs P6 (app (by unfold j4;rw[ho];rfl))))))))
   | true=>
    cases he:bI i with
    | true=>exact bT (bm hj) (bs (iE hj) (bT yO (bs (hO bH i (by omega)) (bF (by rw[ho];rfl) (bT yO (bs (hO bI i (by omega)) (bT (by rw[he];rfl) ((ca kS).trans (bs P6 (app (by unfold j4;rw[ho,he];rfl)))))))))))
    | false=>
     by_cases cm:mul Z[j] Z[j]=Z[j]
     ·refine bT (bm hj) (bs (iE hj) (bT yO (bs (hO bH i (by omega)) (bF (by rw[ho];rfl) (bT yO (bs (hO bI i (by omega)) (bF (by rw[he];rfl) (bs (nw hz) (bs (pz hz) (bT ?_ ((ca kS).trans (bs P6 (app ?_)))))))))))))
      ·show (((mul Z[j] Z[j]:Nat):Int)==((Z[j]:Nat):Int))=true;rw[cm];simp
      ·unfold j4;rw[ho,he,cg cm];rfl
     ·refine bT (bm hj) (bs (iE hj) (bT yO (bs (hO bH i (by omega)) (bF (by rw[ho];rfl) (bT yO (bs (hO bI i (by omega)) (bF (by rw[he];rfl) (bs (nw hz) (bs (pz hz) (bF ?_ ?_))))))))))
      ·show (((mul Z[j] Z[j]:Nat):Int)==((Z[j]:Nat):Int))=false;rw[qW];exact fun e=>cm (by exact_mod_cast e)
      ·rw[BQ,aw (by unfold j4;rw[ho,he,cX cm];decide),rY,br (by omega)]
  ·simp only[KD,Fp,un];refine bF (aZ (az _)) ?_;rw[aZ (az _),uJ]
 have e0:List.replicate nv (V.list ab ([]:LV))=RV ((List.range nv).map fun k=>if k<0 then Z.filter (j4 mul bH bI k) else []):=by
  rw[RV,wB];refine (List.eq_replicate_iff.2 ⟨by simp,fun b hb=> ?_⟩).symm;obtain ⟨k,_,rfl⟩:=iB.1 hb;rfl
 rw[e0];refine fH nv (fun i=>((i:Int),RV ((List.range nv).map fun k=>if k<i then Z.filter (j4 mul bH bI k) else []))) _ (fun i hi=> ?_) ?_
 ·have e:=inner hi (R:=(List.range nv).map fun k=>if k<i then Z.filter (j4 mul bH bI k) else []) (a:=(nv:Int)) (b:=(i:Int)) (by simp) (by
   rw[qY,kf,A0 hi];show (if i<i then _ else _)=_;rw[aw (na _)])
  simp only[KC,Fq,un];refine bT (bm hi) (bs (by rw[dE];exact e) ?_);rw[br (by omega)];refine congrArg (fun t=>some (Sum.inl (((i+1:Nat):Int),RV t))) (rX (by simp) fun k h1 h2=> ?_);rw[List.getElem_set];by_cases c:i=k
  ·subst c;simp
  ·rw[aw c];simp only[A3,A4];by_cases c2:k<i
   ·rw[aA c2,aA (by omega)]
   ·rw[aw c2,aw (by omega)]
 ·simp only[KC,Fq,un];refine bF (aZ (az _)) ?_;rw[aZ (az _)];refine congrArg (fun t=>some (Sum.inr ((nv:Int),false,RV t))) (oB fun k hk=> ?_);rw[aA (fQ.1 hk)]
end
theorem aiz {R:List (List Nat)} (hl:R.length≤10) (hlen: ∀i,i<R.length→(R.getD i []).length≤1000) {p q:List (Nat×Nat)} {t A B:LV} {one:Int} {l:LV}: ∃b,CC BT (pA p q R t one A B [.list ab l])=some (.bool b::pA p q R t one A B [.list ab l])∧(b=false→∀i,i<R.length→0<(R.getD i []).length)∧(b=true→∃i,i<R.length∧(R.getD i []).length=0):=by
 have key: ∃r,Loop (KF CC (RV R) (R.length:Int)) 0=some r∧((∃i:Nat,(i<R.length∧(R.getD i []).length=0)∧r= .inl (i:Int))∨(r= .inr ((R.length:Int),false)∧∀j,j<R.length→0<(R.getD j []).length)):=by
  refine xi (fun i x=>x=(i:Int)∧∀j,j<i→0<(R.getD j []).length) (fun (r:Int ⊕ (Int×Bool))=>(∃i:Nat,(i<R.length∧(R.getD i []).length=0)∧r= .inl (i:Int))∨(r= .inr ((R.length:Int),false)∧∀j,j<R.length→0<(R.getD j []).length)) R.length (fun i hi x hx=> ?_) (fun x hx=> ?_) R.length 0 0 (dL _) ⟨rfl,fun j hj=>(by omega)⟩
  ·obtain ⟨rfl,hx⟩:=hx;have e1:CC xj [.list ab (nS (R.getD i []))]=some [.bool ((((R.getD i []).length:Nat):Int)==0)]:=by
    refine aiA ?_;unfold Yf;rw[dE]
   simp only[KF,Fs];by_cases c:0<(R.getD i []).length
   ·refine .inl ⟨_,bT (bm hi) (bs (BK hi) (bs (by rw[V.eB];exact e1) (bF ?_ rfl))),by rw[br (by omega)],fun j hj=> ?_⟩
    ·show ((((R.getD i []).length:Nat):Int)==0)=false;rw[qW];omega
    ·by_cases cj:j=i
     ·rw[cj];exact c
     ·exact hx j (by omega)
   ·refine .inr ⟨_,bT (bm hi) (bs (BK hi) (bs (by rw[V.eB];exact e1) (bT ?_ rfl))),.inl ⟨i,⟨hi,by omega⟩,rfl⟩⟩;show ((((R.getD i []).length:Nat):Int)==0)=true;rw[show (R.getD i []).length=0 by omega];rfl
  ·obtain ⟨rfl,hx⟩:=hx;simp only[KF,Fs];exact ⟨_,bF (aZ (az _)) rfl,.inr ⟨by rw[aZ (az _)],hx⟩⟩
 have fin: ∀b,CC KG [.list ag (RV R)]=some [.bool b]→CC BT (pA p q R t one A B [.list ab l])=some (.bool b::pA p q R t one A B [.list ab l]):=fun b hb=>by
  have aiB: ∀z,P7 CC (p.map cp) (q.map cp) (RV R) t one [] A B [] [] [] [] [] [] [] [] l=z→CC BT (pA p q R t one A B [.list ab l])=z:=fun z h=>aiC h;refine aiB _ ?_;unfold P7;exact bs hb rfl
 obtain ⟨r,e,hr⟩:=key;rcases hr with ⟨i,hi,rfl⟩|⟨rfl,hr⟩
 ·refine ⟨true,fin _ (Yg ?_),fun e=>(by cases e),fun _=>⟨i,hi⟩⟩;unfold P8;refine bs (a:=[.int .i64 (i:Int)]) (Yh ?_) ?_
  ·unfold P9;rw[KE];exact bs e rfl
  ·show some [V.bool (decide ((i:Int)≥0))]=_;rw[cg (by omega)]
 ·refine ⟨false,fin _ (Yg ?_),fun _=>hr,fun e=>(by cases e)⟩;unfold P8;refine bs (a:=[.int .i64 (-1)]) (Yh ?_) rfl;unfold P9;rw[KE];exact bs e rfl
def BU (mul:Nat→Nat→Nat) (Z:List Nat) (d:gC) (v:Nat→Nat):Prop:= ∀i,i<d.nv→v i∈Z∧j4 mul d.bH d.bI i (v i)=true
section
variable {K:Nat} {mul:Nat→Nat→Nat} (h:Tb K mul) (ha: ∀i j k,i<K→j<K→k<K→mul (mul i j) k=mul i (mul j k)) (ae: ∀j,j<K→mul 0 j=j∧mul j 0=j) {Z:List Nat} (hZ: ∀z∈Z,z<K) (sE:Z.length≤400) {d:gC} (hd:mN d)
include hZ sE hd
theorem aiD:RG K (nz mul d.bH d.bI Z d.nv):=by
 have hn:=hd.nv;refine ⟨fun i hi x hx=> ?_,fun i hi=> ?_,by rw[Fo];omega⟩
 ·rw[Fo] at hi;rw[P5 hi] at hx;exact hZ x (uK.1 hx).1
 ·rw[Fo] at hi;rw[P5 hi];exact lZ (Jj _ _) (by omega)
theorem aiE:CC BV (.list ag (tG K mul):: .list ab (nS Z)::cU d)=some [.list ag (RV (nz mul d.bH d.bI Z d.nv))]:=by
 have hn:=hd.nv;have e:=aiy (mul:=mul) hZ sE d.bH d.bI hd.nv;have fin: ∀z,Qa CC (tG K mul) (nS Z) d.l0 d.l1 d.l2 d.r0 d.r1 d.r2=z→CC BV (.list ag (tG K mul):: .list ab (nS Z)::cU d)=z:=fun z h=>aiF h;refine fin _ ?_;unfold Qa;refine bs hd.v1 (bs hd.v2 (bs hd.vars (bT (gD (by omega) (by omega)) ?_)));rw[show (V.nth [V.int IntKind.i64 (d.nv:Int)] 0).toInt=(d.nv:Int) from rfl,Int.toNat_natCast,yd];exact bs e rfl
include h ha ae
theorem aiG:(CC BW (.list ag (tG K mul):: .list ab (nS Z)::cU d)=some [.bool true,.int .i64 1])∨∃A B,qn K mul d.p d.p.length A B∧qn K mul d.q d.q.length A B∧
  CC BW (.list ag (tG K mul):: .list ab (nS Z)::cU d)=some (.bool false::pA d.p d.q (nz mul d.bH d.bI Z d.nv) (tG K mul) 0 A B [.list ab (dK (nz mul d.bH d.bI Z d.nv).length fun _=>0)]):=by
 have hn:=hd.nv;have fin: ∀z,KH CC (tG K mul) (nS Z) d.l0 d.l1 d.l2 d.r0 d.r1 d.r2=z→CC BW (.list ag (tG K mul):: .list ab (nS Z)::cU d)=z:=fun z h=>aiH h;obtain ⟨b,hc⟩:=aiI h hZ sE;cases b with
 | false=>
  refine .inl (fin _ ?_);unfold KH;exact bs (Qb h ha) (bF rfl (bs hc (bT rfl rfl)))
 | true=>
  have er:=aiE (mul:=mul) hZ sE hd;obtain ⟨A,B,_,_,hP,hQ,em⟩:=aip h ha hd.Yi hd.Yj hd.lp hd.lq (one:=0);refine .inr ⟨A,B,hP,hQ,fin _ ?_⟩;unfold KH;refine bs (Qb h ha) (bF rfl (bs hc (bF rfl (bs hd.val (bF rfl (bs (aiJ h ha ae) (bF rfl (bs hd.cl (bs hd.cr (bs er (bs em ?_)))))))))));have hl:((V.nth [V.list ag (RV (nz mul d.bH d.bI Z d.nv))] 0).toList.length:Int)=((nz mul d.bH d.bI Z d.nv).length:Int):=by show ((RV _).length:Int)=_;rw[KE]
  simp only[hl];refine bT (gD (by rw[Fo];omega) (by omega)) ?_;rw[Int.toNat_natCast,show List.replicate (nz mul d.bH d.bI Z d.nv).length (V.int .i64 0)=dK (nz mul d.bH d.bI Z d.nv).length fun _=>0 from oK];rfl
theorem aiK (ei:Int): ∃(s e:Int) (l:LV),CC Ft (.list ag (tG K mul):: .list ab (nS Z)::(cU d++[.int .i64 ei]))=some [.int .i64 s,.int .i64 e,.list ab l]∧
  (e=0→∃v,BU mul Z d v∧eI 0 mul (dR mul) v d.p []≠eI 0 mul (dR mul) v d.q [])∧(e=9→∀v,BU mul Z d v→eI 0 mul (dR mul) v d.p []=eI 0 mul (dR mul) v d.q [])∧(e=0∨e=9∨e=1∨e=7):=by
 have hk:=h.k1;have hn:=hd.nv;have fin: ∀z,vg CC (tG K mul) (nS Z) d.l0 d.l1 d.l2 d.r0 d.r1 d.r2 ei=z→CC Ft (.list ag (tG K mul):: .list ab (nS Z)::(cU d++[.int .i64 ei]))=z:=fun z h=>aiL h;rcases aiG h ha ae hZ sE hd with e0|⟨A,B,hP,hQ,e0⟩
 ·refine ⟨0,1,[],fin _ ?_,fun e=>(by cases e),fun e=>(by cases e),.inr (.inr (.inl rfl))⟩;unfold vg;exact bs e0 (bT rfl (bT rfl rfl))
 ·by_cases c1:ei<1
  ·refine ⟨0,1,[],fin _ ?_,fun e=>(by cases e),fun e=>(by cases e),.inr (.inr (.inl rfl))⟩;unfold vg;exact bs e0 (bF rfl (bT (cg c1) rfl))
  by_cases c2:ei>1048576
  ·refine ⟨0,1,[],fin _ ?_,fun e=>(by cases e),fun e=>(by cases e),.inr (.inr (.inl rfl))⟩;unfold vg;exact bs e0 (bF rfl (bF (cX c1) (bT (cg c2) rfl)))
  have hR:RG K (nz mul d.bH d.bI Z d.nv):=aiD hZ sE hd;have BP:(nz mul d.bH d.bI Z d.nv).length=d.nv:=Fo;have Qc: ∀i,i<d.nv→(nz mul d.bH d.bI Z d.nv).getD i []=Z.filter (j4 mul d.bH d.bI i):=fun i hi=>P5 hi;generalize nz mul d.bH d.bI Z d.nv=R at*
  obtain ⟨b,e1,hb,eA⟩:=aiz (R:=R) (by omega) hR.len (p:=d.p) (q:=d.q) (t:=tG K mul) (A:=A) (B:=B) (one:=0) (l:=dK R.length fun _=>0);cases b with
  | true=>
   refine ⟨0,9,[],fin _ ?_,fun e=>(by cases e),fun _ v hv=> ?_,.inr (.inl rfl)⟩
   ·unfold vg;exact bs e0 (bF rfl (bF (cX c1) (bF (cX c2) (bs e1 (bT rfl rfl)))))
   ·obtain ⟨i,hi,h0⟩:=eA rfl;obtain ⟨v1,v2⟩:=hv i (by omega);rw[Qc i (by omega)] at h0;have:=uK.2 ⟨v1,v2⟩;rw[uI.1 h0] at this;cases this
  | false=>
   have bq: ∀i,i<R.length→0<gj R i:=hb rfl;obtain ⟨lim,rfl⟩:=Jk (show 0≤ei by omega);have Yk:mP R.length d.p 0=some 1:=by rw[BP];exact hd.wp
   have Yl:mP R.length d.q 0=some 1:=by rw[BP];exact hd.wq
   obtain ⟨s,b1,b2,k',dM,qq,ko,e2⟩:=aiw h hR hd.Yi hd.Yj hd.lp hd.lq hP hQ Yk Yl bq (lim:=lim) (by omega);cases b1 with
   | true=>
    have e3:=X9 hR dM (p:=d.p) (q:=d.q) (t:=tG K mul) (A:=A) (B:=B) (one:=0);refine ⟨s,0,dK R.length (gk R k'),fin _ ?_,fun _=>⟨gk R k',fun i hi=> ?_,qq rfl⟩,fun e=>(by cases e),.inl rfl⟩
    ·unfold vg;exact bs e0 (bF rfl (bF (cX c1) (bF (cX c2) (bs e1 (bF rfl (bs e2 (bT rfl (bs e3 rfl))))))))
    ·have aR:=dM i (by omega);unfold gj at aR;have hm:gk R k' i∈R.getD i []:=by
      unfold gk;rw[cE aR];exact dd _
     rw[Qc i hi] at hm;exact uK.1 hm
   | false=>
    cases b2 with
    | true=>
     refine ⟨s,9,[],fin _ ?_,fun e=>(by cases e),fun _ v hv=> ?_,.inr (.inl rfl)⟩
     ·unfold vg;exact bs e0 (bF rfl (bF (cX c1) (bF (cX c2) (bs e1 (bF rfl (bs e2 (bF rfl (bT rfl rfl))))))))
     ·have hex: ∀i,∃j,i<R.length→j<gj R i∧(R.getD i []).getD j 0=v i:=fun i=>by
       by_cases c:i<R.length
       ·have hm:=uK.2 (hv i (by omega));rw[←Qc i (by omega)] at hm;obtain ⟨j,hj,e⟩:=List.mem_iff_getElem.1 hm;exact ⟨j,fun _=>⟨hj,by rw[cE hj,e]⟩⟩
       ·exact ⟨0,fun c3=>absurd c3 c⟩
      obtain ⟨k,hk⟩:=Classical.axiomOfChoice hex;have:=ko rfl rfl k fun i hi=>(hk i hi).1;have Fm: ∀i,i<R.length→gk R k i=v i:=fun i hi=>(hk i hi).2;rwa [yM Fm d.p [] 0 Yk,yM Fm d.q [] 0 Yl] at this
    | false=>
     refine ⟨0,7,[],fin _ ?_,fun e=>(by cases e),fun e=>(by cases e),.inr (.inr (.inr rfl))⟩;unfold vg;exact bs e0 (bF rfl (bF (cX c1) (bF (cX c2) (bs e1 (bF rfl (bs e2 (bF rfl (bF rfl rfl))))))))
end
def iq (rows:LV) (c:Nat):Bool:=((rows.getD c (.bool false)).cell 1).toBool
def pB (m:Da) (S:List (List Nat)) (j:Nat):Bool:=if j=0 then vh m.L m.gT S S.length else true
def BX (m:Da) (S:List (List Nat)) (mo:Bool):List Nat:=(List.range S.length).filter fun z=>pB m S z||mo
def pC (m:Da) (S:List (List Nat)) (mo:Bool) (ids:List gC):Prop:= ∀d∈ids,∀v,BU (cA S) (BX m S mo) d v→eI 0 (cA S) (dR (cA S)) v d.p []=eI 0 (cA S) (dR (cA S)) v d.q []
section
variable {rows:LV} {jH:Nat→List gC} (hC:EY rows jH) {m:Da} {S:List (List Nat)} {f:Nat→List UInt8} (hm:m.Ok) (hS:pD m S) (hV:CC yP (pE m S f)=some [.int .i64 0]) {c:Nat} (hc:c<17)
include hC hS hV hc
omit hS in
theorem aiM (hle:S.length≤400):CC Fu (pE m S f++[.int .i64 (c:Int)])=some [.int .i64 0,.list ab (nS (BX m S (iq rows c)))]:=by
 obtain ⟨x,hx,_⟩:=hC.cls c hc;have hl:=hC.len;have nA:iq rows c=(x.cell 1).toBool:=by
  unfold iq;rw[qY,hx];rfl
 have pl:(j5 m.L m.gT S S.length).length=S.length:=eW;have fin: ∀z,Qd CC (m.L:Int) (pF S) (tab S.length fun j=> .str (f j)) (ml m S) (nB m S) (j5 m.L m.gT S S.length) (c:Int)=z→CC Fu (pE m S f++[.int .i64 (c:Int)])=z:=fun z h=>aiN h;refine fin _ ?_;unfold Qd;rw[pl];refine bs hV (bF rfl (bs hC.xd (bF xf (bF ?_ (bs (fH S.length (fun i=>((i:Int),nS ((List.range i).filter fun z=>pB m S z||iq rows c))) ((S.length:Int),false,nS (BX m S (iq rows c))) (fun i hi=> ?_) ?_) rfl)))))
 ·show decide ((c:Int)≥(rows.length:Int))=false;rw[hl];exact cX (by omega)
 ·have hb:idx (j5 m.L m.gT S S.length) (i:Int)=some (.bool (pB m S i)):=qo hi;have gR:((List.range i).filter fun z=>pB m S z||iq rows c).length≤i:=by
   have:=Jj (fun z=>pB m S z||iq rows c) (List.range i);rwa [jw] at this
  have app:(pB m S i||iq rows c)=true→(bif Nat.ble (((nS ((List.range i).filter fun z=>pB m S z||iq rows c)).length+([V.int .i64 (i:Int)]:LV).length)*8) ba then some (Sum.inl (β:=Int×Bool×LV) (wrap .i64 ((i:Int)+1),nS ((List.range i).filter fun z=>pB m S z||iq rows c)++([V.int .i64 (i:Int)]:LV))) else none)=some (.inl (((i+1:Nat):Int),nS ((List.range (i+1)).filter fun z=>pB m S z||iq rows c))):=by
   intro hc;refine bT (cap (by rw[dE];simp;omega) (by omega)) ?_;rw[br (by omega),D6,List.filter_append];simp[nS,nV,hc]
  simp only[Qe,Fv,un];cases Fw:pB m S i with
  | true=>exact bT (bm hi) (bs hb (bT Fw (app (by rw[Fw];rfl))))
  | false=>
   cases j6:(x.cell 1).toBool with
   | true=>exact bT (bm hi) (bs hb (bF Fw ((ca hx).trans (bT j6 (app (by rw[nA,j6,Bool.or_true]))))))
   | false=>
    refine bT (bm hi) (bs hb (bF Fw ((ca hx).trans (bF j6 ?_))));rw[br (by omega),D6,List.filter_append];simp[Fw,nA,j6]
 ·simp only[Qe,Fv,un];refine bF (aZ (az _)) ?_;rw[aZ (az _)];rfl
include hm
theorem aiO {bud:Int} (hb:1≤bud∧bud≤1048576): ∃(b:Bool) (i j e:Int) (l:LV),CC E2 (pE m S f++[.int .i64 (c:Int),.int .i64 bud])=some [.bool b,.int .i64 i,.int .i64 j,.int .i64 e,.list ab l]∧
  (e=0→b=true→pC m S (iq rows c) (jH c))∧(e=0→b=false→¬pC m S (iq rows c) (jH c))∧(e=0∨e=1∨e=7):=by
 have hle:=hS.le;have eE:=aiM hC hV hc hle;have hZ: ∀z∈BX m S (iq rows c),z<S.length:=fun z hz=>fQ.1 (uK.1 hz).1;have sE:(BX m S (iq rows c)).length≤S.length:=by
  have:=Jj (fun z=>pB m S z||iq rows c) (List.range S.length);rwa [jw] at this
 unfold pC;generalize BX m S (iq rows c)=Z at*
 obtain ⟨x,hx,a,b,e,f',kW⟩:=hC.cls c hc;have rB:=hC.il c hc;have ao:=hC.ok c hc;generalize jH c=ids at kW rB ao⊢;have hT:Tb S.length (cA S):=⟨hS.pos,hS.le,fun _ _ hi hj=>Qf hm hS hi hj⟩
 have hA: ∀i j k,i<S.length→j<S.length→k<S.length→cA S (cA S i j) k=cA S i (cA S j k):=fun _ _ _ hi hj hk=>Ym hm hS hi hj hk;have ae: ∀j,j<S.length→cA S 0 j=j∧cA S j 0=j:=fun j hj=>by
  obtain ⟨w,hw,rfl⟩:=tH hS hj;have e0:vl m S []=0:=KI hS;refine ⟨?_,?_⟩
  ·rw[←e0,tI hm hS WL.nil hw];rfl
  ·rw[←e0,tI hm hS hw WL.nil,rY]
 have key:=xi (step:=KJ CC bud (ids.length:Int) (m.L:Int) (pF S) (tab S.length fun j=> .str (f j)) (ml m S) (nB m S) (j5 m.L m.gT S S.length) (nS Z) (ids.map fun d=> .agg (cU d)))
  (fun i y=>(∃t:Int,y=(t,(i:Int)))∧∀j (hj:j<ids.length),j<i→∀v,BU (cA S) Z ids[j] v→eI 0 (cA S) (dR (cA S)) v ids[j].p []=eI 0 (cA S) (dR (cA S)) v ids[j].q [])
  (fun (r:(Bool×Int×Int×Int×LV) ⊕ (Int×Int×Bool))=>(∃i j e l,r= .inl (false,i,j,e,l)∧(e=0∨e=1∨e=7)∧(e=0→∃d∈ids,∃v,BU (cA S) Z d v∧eI 0 (cA S) (dR (cA S)) v d.p []≠eI 0 (cA S) (dR (cA S)) v d.q []))∨((∃t i b,r= .inr (t,i,b))∧∀d∈ids,∀v,BU (cA S) Z d v→eI 0 (cA S) (dR (cA S)) v d.p []=eI 0 (cA S) (dR (cA S)) v d.q [])) ids.length (fun i hi y hy=> ?_) (fun y hy=> ?_) ids.length 0 (0,0) (dL _) ⟨⟨0,rfl⟩,fun j _ hj=>(by omega)⟩
 ·obtain ⟨r,el,hr⟩:=key;have fin: ∀z,KK CC (m.L:Int) (pF S) (tab S.length fun j=> .str (f j)) (ml m S) (nB m S) (j5 m.L m.gT S S.length) (c:Int) bud=z→CC E2 (pE m S f++[.int .i64 (c:Int),.int .i64 bud])=z:=fun z h=>aiP h;have hl:((ids.map fun d=>V.agg (cU d)).length:Int)=(ids.length:Int):=by rw[dH]
  rw[←hl] at el;rcases hr with ⟨i,j,e,l,rfl,he,hv⟩|⟨⟨t,i,b,rfl⟩,BY⟩
  ·refine ⟨false,i,j,e,l,fin _ ?_,fun _ h=>(by cases h),fun h0 _ hn=> ?_,he⟩
   ·unfold KK;refine bs eE (bF rfl (bF (cX (by omega)) (bF (cX (by omega)) (bs hC.xd ((ca hx).trans (bs kW ?_))))));exact bs el rfl
   ·obtain ⟨d,hd,v,h1,h2⟩:=hv h0;exact h2 (hn d hd v h1)
  ·refine ⟨true,-1,t,0,[],fin _ ?_,fun _ _=>BY,fun _ h=>(by cases h),.inl rfl⟩;unfold KK;refine bs eE (bF rfl (bF (cX (by omega)) (bF (cX (by omega)) (bs hC.xd ((ca hx).trans (bs kW ?_))))));exact bs el rfl
 ·obtain ⟨⟨t,rfl⟩,Fl⟩:=hy;have jZ:(ids.map fun d=>V.agg (cU d))[i]? =some (.agg (cU ids[i])):=by simp[hi]
  obtain ⟨s,e2,l,hv,Qg,hv9,hve⟩:=aiK hT hA ae hZ (by omega) (ao _ (dd hi)) (wrap .i64 (bud-t));simp only[KJ,Fx,un];by_cases ct:(t==bud)=true
  ·exact .inr ⟨.inl (false,0,0,7,[]),bT (bm hi) ((ca jZ).trans (bT ct rfl)),.inl ⟨0,0,7,[],rfl,.inr (.inr rfl),fun h=>(by cases h)⟩⟩
  have ct:(t==bud)=false:=by simpa using ct
  by_cases c0:e2=0
  ·exact .inr ⟨_,bT (bm hi) ((ca jZ).trans (bF ct (bs hv (bT (by show (e2==0)=true;rw[c0];rfl) rfl)))),.inl ⟨(i:Int),wrap .i64 (t+s),0,l,rfl,.inl rfl,fun _=>⟨_,dd hi,Qg c0⟩⟩⟩
  have Yn:(e2==0)=false:=by simpa using c0
  by_cases c9:e2=9
  ·refine .inl ⟨(wrap .i64 (t+s),((i+1:Nat):Int)),bT (bm hi) ((ca jZ).trans (bF ct (bs hv (bF Yn (bT (by show (e2==9)=true;rw[c9];rfl) ?_))))),⟨_,rfl⟩,fun j hj hji=> ?_⟩
   ·rw[br (by omega)];rfl
   ·by_cases cj:j=i
    ·subst cj;exact hv9 c9
    ·exact Fl j hj (by omega)
  ·have c9':(e2==9)=false:=by simpa using c9
   exact .inr ⟨_,bT (bm hi) ((ca jZ).trans (bF ct (bs hv (bF Yn (bF c9' rfl))))),.inl ⟨0,0,e2,[],rfl,by omega,fun h=>absurd h c0⟩⟩
 ·obtain ⟨⟨t,rfl⟩,Fl⟩:=hy;simp only[KJ,Fx,un];refine ⟨.inr (t,(ids.length:Int),decide ((ids.length:Int)<(ids.length:Int))),bF (aZ (az _)) rfl,.inr ⟨⟨t,(ids.length:Int),decide ((ids.length:Int)<(ids.length:Int)),rfl⟩,fun d hd=> ?_⟩⟩;obtain ⟨j,hj,rfl⟩:=List.mem_iff_getElem.1 hd;exact Fl j hj (by omega)
end
section
variable {rows:LV} {jH:Nat→List gC} (hC:EY rows jH)
include hC
theorem aiQ {a:Da} (ha:a.Ok) (mn:(minD a).n≤32): ∃(z:Int) (l:LV),CC E3 (rC a [.int .i64 3000])=some [.int .i64 z,.list ab l]∧(z≠0∨(z=0∧l.length=17∧∃S,pD (minD a) S∧∀c,c<17→∃n:Int,l[c]? =some (.int .i64 n)∧(n=1→pC (minD a) S (iq rows c) (jH c))∧(n=0→¬pC (minD a) S (iq rows c) (jH c)))):=by
 have A: ∀{a:Da} z,Kj CC (a.L:Int) (a.st:Int) a.ec a.eD 3000=z→CC E3 (rC a [.int .i64 3000])=z:=fun z h=>aif h;have Yo:CC Kh [.int .i64 3000]=some [.bool true]:=aib rfl;rcases aiR ha mn with ⟨eO,_⟩|⟨S,f,eO,hS⟩
 ·refine ⟨3,[],A _ ?_,.inl (by omega)⟩;unfold Kj;exact bs (sF ha) (bF rfl (bs Yo (bF rfl (bs eO (bT rfl rfl)))))
 ·obtain ⟨cl,kW,eC⟩:=aii hC;have hm:=qs ha;have hV:=aiS ha hS eO;have key:=lG (step:=Ki CC 3000 (17:Int) ((minD a).L:Int) (pF S) (tab S.length fun j=> .str (f j)) (ml (minD a) S) (nB (minD a) S) (j5 (minD a).L (minD a).gT S S.length))
   (fun i y=> ∃l:LV,l.length=i∧(∀c,c<i→∃n:Int,l[c]? =some (.int .i64 n)∧(n=1→pC (minD a) S (iq rows c) (jH c))∧(n=0→¬pC (minD a) S (iq rows c) (jH c)))∧y=((i:Int),l))
   (fun r=> ∃l:LV,l.length=17∧(∀c,c<17→∃n:Int,l[c]? =some (.int .i64 n)∧(n=1→pC (minD a) S (iq rows c) (jH c))∧(n=0→¬pC (minD a) S (iq rows c) (jH c)))∧r=(17,false,l)) 17 0 (0,([]:LV)) (fun i _ hi y hy=> ?_) (fun y hy=> ?_) ⟨[],rfl,fun c hc=>(by omega),rfl⟩
  ·obtain ⟨r,el,l,h1,h2,rfl⟩:=key;have aiT:((V.nth [V.list E0 cl] 0).toList.length:Int)=17:=by show (cl.length:Int)=17;omega
   refine ⟨0,l,A _ ?_,.inr ⟨rfl,h1,S,hS,h2⟩⟩;unfold Kj;refine bs (sF ha) (bF rfl (bs Yo (bF rfl (bs eO (bF rfl (bs eC ?_))))));rw[aiT];exact bs el rfl
  ·obtain ⟨l,h1,h2,rfl⟩:=hy;obtain ⟨b',i',j',e',l',hM,ht,hf,he⟩:=aiO hC hm hS hV (c:=i) (by omega) (bud:=3000) (by omega);have bR: ∀v:V,Nat.ble ((l.length+([v]:LV).length)*8) ba=true:=fun v=>cap (by simp;omega) (by omega);have ext: ∀n:Int,(n=1→pC (minD a) S (iq rows i) (jH i))→(n=0→¬pC (minD a) S (iq rows i) (jH i))→∀c,c<i+1→∃n':Int,(l++[V.int .i64 n])[c]? =some (.int .i64 n')∧(n'=1→pC (minD a) S (iq rows c) (jH c))∧(n'=0→¬pC (minD a) S (iq rows c) (jH c)):=fun n k1 k2 c hc=>by
    by_cases cc:c=i
    ·subst cc;exact ⟨n,by rw[←h1,oC (az _),Nat.sub_self];rfl,k1,k2⟩
    ·obtain ⟨n',g1,g2⟩:=h2 c (by omega);exact ⟨n',by rw[ng (by omega)];exact g1,g2⟩
   simp only[Ki,E1,un];by_cases c:e'=0
   ·have c':(e' != 0)=false:=by rw[c];rfl
    cases b' with
    | true=>
     refine ⟨(((i+1:Nat):Int),l++[.int .i64 1]),bT (cg (by omega)) (bs hM (bF c' (bT rfl (bT (bR _) ?_)))),_,by simp[h1],ext 1 (fun _=>ht c rfl) (fun h=>(by omega)),rfl⟩;rw[br (by omega)]
    | false=>
     refine ⟨(((i+1:Nat):Int),l++[.int .i64 0]),bT (cg (by omega)) (bs hM (bF c' (bF rfl (bT (bR _) ?_)))),_,by simp[h1],ext 0 (fun h=>(by omega)) (fun _=>hf c rfl),rfl⟩;rw[br (by omega)]
   ·have c':(e' != 0)=true:=by rw[bne_iff_ne];exact c
    refine ⟨(((i+1:Nat):Int),l++[.int .i64 (0-e')]),bT (cg (by omega)) (bs hM (bT c' (bT (bR _) ?_))),_,by simp[h1],ext (0-e') (fun h=>(by omega)) (fun h=>(by omega)),rfl⟩;rw[br (by omega)];have w:wrap .i64 (0-e')=0-e':=wrap64 (by omega) (by omega);show some (Sum.inl (_,l++[V.int .i64 (wrap .i64 (0-e'))]))=_;rw[w]
  ·obtain ⟨l,h1,h2,rfl⟩:=hy;simp only[Ki,E1,un];exact ⟨_,bF rfl rfl,l,h1,h2,rfl⟩
end
end Go.AM
set_option maxRecDepth 100000
namespace Go.AM
open Go.IntKind (wrap)
open Go.Proofs
namespace Da
theorem KL.reach {d:Da} (h1:1≤d.L) (h:d.KL): ∀t,t≤d.n*d.L→∀q,q<d.mt t→∃w,WL d.L w∧d.run 0 w=q
 | 0,_,q,hq=>⟨[],WL.nil,by have:q<1:=hq;show 0=q;omega⟩
 | t+1,ht,q,hq=>by
  have ih:=h.reach h1 t (by omega);rcases jR q (d.mt t) with c|c
  ·exact ih q c
  ·have e:d.pos t=q:=by
    unfold mt at hq;split at hq
    ·rename_i h3;omega
    ·omega
   have hx:t %d.L<d.L:=ye _ (by omega);have hp:t/d.L<d.n:=by rw[Jl (by omega)];omega
   have h2:=h.row _ hp;have h3:=d.KM (Nat.div_mul_le_self t d.L);obtain ⟨w,hw,hr⟩:=ih (t/d.L) (by omega);refine ⟨w++[t %d.L],WL.app.2 ⟨hw,WL.nil.cons hx⟩,?_⟩;rw[KN,hr];exact e
end Da
theorem Yp {a:Da} (h:a.Ok) {q:Nat} (hq:q<(minD a).n): ∃w,WL a.L w∧(minD a).run (minD a).st w=q:=by
 have hc:=vi h;obtain ⟨w,hw,hr⟩:=hc.num.reach (qs h).l1 _ (az _) q (by rw[hc.num.all];exact hq);exact ⟨w,by rw[sG h] at hw;exact hw,by rw[Yq h];exact hr⟩
end Go.AM
set_option maxRecDepth 100000
namespace Go.AM
open Go.IntKind (wrap)
open Go.Proofs
def BZ (w:List Nat):Nat→List Nat
 | 0=>w
 | k+1=>BZ w k++w
noncomputable def og (n:Nat) (w:List Nat):List Nat:=BZ w (eN-1+n)
noncomputable def uW (d:gC) (t:Nat→List Nat) (i:Nat):List Nat:=if (d.bH i&& !d.bI i)=true then og 0 (t i) else t i
noncomputable def Qh (u:Nat→List Nat) (p:List (Nat×Nat)):Option (List (List Nat)):=eI [] (fun a b=>a++b) og u p []
def Yr (L:Nat) (P:List Nat→Bool) (mo:Bool) (d:gC):Prop:= ∀t:Nat→List Nat,(∀i,WL L (t i)∧(mo=true∨t i≠[]))→∀l r,WL L l→WL L r→Qh (uW d t) d.p=some [l]→Qh (uW d t) d.q=some [r]→∀x y,WL L x→WL L y→P (x++(l++y))=P (x++(r++y))
theorem Fy {L:Nat} {w:List Nat} (h:WL L w): ∀k,WL L (BZ w k)
 | 0=>h
 | k+1=>WL.app.2 ⟨Fy h k,h⟩
theorem Ys {w:List Nat} (h:w≠[]): ∀k,BZ w k≠[]
 | 0=>h
 | k+1=>fun e=>Ys h k (List.append_eq_nil_iff.1 e).1
theorem Qi {α:Type} {one:α} {mul:α→α→α} {po:Nat→α→α} {v:Nat→α} {m:Nat}: ∀(p:List (Nat×Nat)) (st:List α),mP m p st.length=some 1→∃y,eI one mul po v p st=some [y]
 | [],st,hr=>by
  have h1:st.length=1:=by simpa[mP] using hr
  match st,h1 with
  | [y],_=>exact ⟨y,rfl⟩
 | (k,n)::p,st,hr=>by
  simp only[mP] at hr;cases hs:xh m st.length (k,n) with
  | none=>rw[hs] at hr;cases hr
  | some t'=>
   rw[hs,Option.bind_some] at hr;have sn: ∃st',oe one mul po v (k,n) st=some st'∧st'.length=t':=by
    by_cases k0:k=0
    ·subst k0;rw[XZ] at hs;by_cases c:st.length<60
     ·rw[aA c] at hs;exact ⟨one::st,rfl,by cases hs;rfl⟩
     ·rw[aw c] at hs;cases hs
    by_cases k1:k=1
    ·subst k1;rw[PZ] at hs;by_cases c:st.length<60∧n<m
     ·rw[aA c] at hs;exact ⟨v n::st,rfl,by cases hs;rfl⟩
     ·rw[aw c] at hs;cases hs
    by_cases k2:k=2
    ·subst k2;rw[X0] at hs;by_cases c:2≤st.length
     ·rw[aA c] at hs
      match st,c with
      | b::a::r,_=>exact ⟨mul a b::r,rfl,by cases hs;simp⟩
     ·rw[aw c] at hs;cases hs
    ·by_cases k3:k=3
     ·subst k3;rw[X2] at hs;by_cases c:1≤st.length
      ·rw[aA c] at hs
       match st,c with
       | a::r,_=>exact ⟨po n a::r,rfl,by cases hs;rfl⟩
      ·rw[aw c] at hs;cases hs
     ·simp[xh,k0,k1,k2,k3] at hs
   obtain ⟨st',e1,e2⟩:=sn;rw[←e2] at hr;obtain ⟨y,hy⟩:=Qi p st' hr;exact ⟨y,by show (oe one mul po v (k,n) st).bind _=_;rw[e1];exact hy⟩
section
variable {m:Da} (hm:m.Ok) {S:List (List Nat)} (hS:pD m S)
include hm hS
theorem Qj {w:List Nat} (hw:WL m.L w): ∀k,vl m S (BZ w k)=pw (cA S) (vl m S w) k
 | 0=>rfl
 | k+1=>by
  show vl m S (BZ w k++w)=cA S (pw (cA S) (vl m S w) k) (vl m S w);rw[←Qj hw k,tI hm hS (Fy hw k) hw]
theorem aiU {u:Nat→List Nat} (hu: ∀i,WL m.L (u i)) (s:Nat×Nat) (st:List (List Nat)) (cS: ∀w∈st,WL m.L w):
  oe 0 (cA S) (dR (cA S)) (fun i=>vl m S (u i)) s (st.map (vl m S))=(oe [] (fun a b=>a++b) og u s st).map (List.map (vl m S))∧∀st',oe [] (fun a b=>a++b) og u s st=some st'→∀w∈st',WL m.L w:=by
 obtain ⟨k,n⟩:=s;have cons: ∀{w:List Nat} {r:List (List Nat)},WL m.L w→(∀x∈r,WL m.L x)→∀x∈w::r,WL m.L x:=fun hw hr x hx=>by
  rcases fj.1 hx with rfl|hx
  ·exact hw
  ·exact hr x hx
 unfold oe;by_cases k0:k=0
 ·simp only[k0,o0];refine ⟨?_,fun st' e=> ?_⟩
  ·show some (0::st.map (vl m S))=some (vl m S []::st.map (vl m S));rw[KI hS]
  ·cases e;exact cons WL.nil cS
 by_cases k1:k=1
 ·simp only[k0,k1,qb,o0];exact ⟨rfl,fun st' e=>by cases e;exact cons (hu n) cS⟩
 by_cases k2:k=2
 ·simp only[k0,k1,k2,qb,o0]
  match st,cS with
  | [],_=>exact ⟨rfl,fun _ e=>by cases e⟩
  | [_],_=>exact ⟨rfl,fun _ e=>by cases e⟩
  | b::a::r,cS=>
   have hb:=cS b (o5 ..);have ha:=cS a (ju _ (o5 ..));refine ⟨?_,fun st' e=>by cases e;exact cons (WL.app.2 ⟨ha,hb⟩) fun x hx=>cS x (ju _ (ju _ hx))⟩;show some (cA S (vl m S a) (vl m S b)::r.map (vl m S))=some (vl m S (a++b)::r.map (vl m S));rw[tI hm hS ha hb]
 ·simp only[k0,k1,k2,qb]
  match st,cS with
  | [],_=>exact ⟨rfl,fun _ e=>by cases e⟩
  | a::r,cS=>
   have ha:=cS a (o5 ..);refine ⟨?_,fun st' e=>by cases e;exact cons (Fy ha _) fun x hx=>cS x (ju _ hx)⟩;show some (dR (cA S) n (vl m S a)::r.map (vl m S))=some (vl m S (og n a)::r.map (vl m S));unfold dR og;rw[Qj hm hS ha]
theorem Yt {u:Nat→List Nat} (hu: ∀i,WL m.L (u i)): ∀(p:List (Nat×Nat)) (st:List (List Nat)),(∀w∈st,WL m.L w)→
  eI 0 (cA S) (dR (cA S)) (fun i=>vl m S (u i)) p (st.map (vl m S))=(eI [] (fun a b=>a++b) og u p st).map (List.map (vl m S))∧∀st',eI [] (fun a b=>a++b) og u p st=some st'→∀w∈st',WL m.L w
 | [],st,cS=>⟨rfl,fun st' e=>by cases e;exact cS⟩
 | s::p,st,cS=>by
  obtain ⟨e1,h1⟩:=aiU hm hS hu s st cS;show (oe 0 (cA S) (dR (cA S)) (fun i=>vl m S (u i)) s (st.map (vl m S))).bind _=((oe [] (fun a b=>a++b) og u s st).bind _).map _∧∀st',(oe [] (fun a b=>a++b) og u s st).bind _=some st'→_;rw[e1];cases hs:oe [] (fun a b=>a++b) og u s st with
  | none=>exact ⟨rfl,fun _ e=>by cases e⟩
  | some kz=>exact Yt hu p kz (h1 kz hs)
theorem KO {u:Nat→List Nat} (hu: ∀i,WL m.L (u i)) {p:List (Nat×Nat)} {l:List Nat} (h:Qh u p=some [l]):eI 0 (cA S) (dR (cA S)) (fun i=>vl m S (u i)) p []=some [vl m S l]∧WL m.L l:=by
 obtain ⟨e1,h1⟩:=Yt hm hS hu p [] fun _ h=>by cases h
 refine ⟨?_,h1 [l] h l (o5 ..)⟩;have h:eI [] (fun a b=>a++b) og u p []=some [l]:=h;rw[h] at e1;exact e1
omit hm in
theorem aiV {j:Nat} (hj:j<S.length) (hp:pB m S j=true): ∃w,WL m.L w∧vl m S w=j∧w≠[]:=by
 by_cases c:j=0
 ·subst c;have hp:vh m.L m.gT S S.length=true:=hp;obtain ⟨a,ha,h0⟩:=D0 hp;obtain ⟨w,hw,rfl⟩:=tH hS ha;rw[xk hS hw] at h0;obtain ⟨x,hx,e⟩:=List.mem_iff_getElem.1 h0;have Yu:x<m.L:=by simpa[eX] using hx
  refine ⟨w++[x],WL.app.2 ⟨hw,WL.cons Yu WL.nil⟩,?_,by simp⟩;rw[←Yv (m:=m) Yu,cE hx,e]
 ·obtain ⟨w,hw,e⟩:=tH hS hj;refine ⟨w,hw,e,fun h=>c ?_⟩;rw[←e,h,KI hS]
omit hm in
theorem aiW {w:List Nat} (hw:WL m.L w) (bq:w≠[]):pB m S (vl m S w)=true:=by
 unfold pB;by_cases c:vl m S w=0
 ·rw[aA c];obtain ⟨w',x,rfl⟩: ∃w' x,w=w'++[x]:=⟨w.dropLast,w.getLast bq,(List.dropLast_concat_getLast bq).symm⟩
  obtain ⟨h1,h2⟩:=WL.app.1 hw;have hx:x<m.L:=h2.head;refine cg ⟨vl m S w',yQ hS h1,?_⟩;rw[xk hS h1];have e:=Yv (m:=m) (S:=S) (w:=w') hx;rw[c] at e;have hlen:x<(eX m.L m.gT S (kX m w')).length:=by simpa[eX] using hx
  rw[cE hlen] at e;rw[←e];exact dd _
 ·rw[aw c]
end
section
variable {a:Da} (ha:a.Ok) {S:List (List Nat)} (hS:pD (minD a) S)
include ha hS
theorem Yw {l r:List Nat} (hl:WL a.L l) (hr:WL a.L r):vl (minD a) S l=vl (minD a) S r↔∀x y,WL a.L x→WL a.L y→a.acc a.st (x++(l++y))=a.acc a.st (x++(r++y)):=by
 have hm:=qs ha;have hL:=sG ha;have hc:=vi ha;have e: ∀{x w y:List Nat},WL a.L x→WL a.L w→WL a.L y→a.acc a.st (x++(w++y))=(minD a).acc ((minD a).run ((minD a).run (minD a).st x) w) y:=fun hx hw hy=>by
  rw[←xl ha (WL.app.2 ⟨hx,WL.app.2 ⟨hw,hy⟩⟩),Da.yR,Da.yR]
 rw[aiX hm hS (by rw[hL];exact hl) (by rw[hL];exact hr)];constructor
 ·intro h x y hx hy;rw[e hx hl hy,e hx hr hy,h _ (hm.qt _ hm.s (by rw[hL];exact hx))]
 ·intro h q hq;obtain ⟨x,hx,rfl⟩:=Yp ha hq;refine hc.red _ _ (hm.qt _ (hm.qt _ hm.s (by rw[hL];exact hx)) (by rw[hL];exact hl)) (hm.qt _ (hm.qt _ hm.s (by rw[hL];exact hx)) (by rw[hL];exact hr)) fun y hy=> ?_;rw[hL] at hy;rw[←e hx hl hy,←e hx hr hy];exact h x y hx hy
theorem aiY {mo:Bool} {ids:List gC} (ao: ∀d∈ids,mN d):pC (minD a) S mo ids↔∀d∈ids,Yr a.L (a.acc a.st) mo d:=by
 have hm:=qs ha;have hL:=sG ha;have hT:Tb S.length (cA S):=⟨hS.pos,hS.le,fun _ _ hi hj=>Qf hm hS hi hj⟩
 have hA: ∀i j k,i<S.length→j<S.length→k<S.length→cA S (cA S i j) k=cA S i (cA S j k):=fun _ _ _ hi hj hk=>Ym hm hS hi hj hk;have Fz: ∀{w:List Nat},WL (minD a).L w→vl (minD a) S (og 0 w)=pw (cA S) (vl (minD a) S w) (eN-1):=fun hw=>Qj hm hS hw _;constructor
 ·intro h d hd t ht l r _ _ e1 e2 x y hx hy;have hu: ∀i,WL (minD a).L (uW d t i):=fun i=>by
   rw[hL];unfold uW;by_cases c:(d.bH i&& !d.bI i)=true
   ·rw[aA c];exact Fy (ht i).1 _
   ·rw[aw c];exact (ht i).1
  obtain ⟨g1,w1⟩:=KO hm hS hu e1;obtain ⟨g2,w2⟩:=KO hm hS hu e2;rw[hL] at w1 w2;have hv:=h d hd (fun i=>vl (minD a) S (uW d t i)) fun i hi=>⟨?_,?_⟩
  ·rw[g1,g2] at hv;have hv:vl (minD a) S l=vl (minD a) S r:=by simpa using hv
   exact (Yw ha hS w1 w2).1 hv x y hx hy
  ·refine uK.2 ⟨fQ.2 (yQ hS (hu i)),?_⟩;rcases (ht i).2 with h1|h1
   ·rw[h1,Bool.or_true]
   ·rw[aiW hS (hu i) (by
     unfold uW;by_cases c:(d.bH i&& !d.bI i)=true
     ·rw[aA c];exact Ys h1 _
     ·rw[aw c];exact h1),Bool.true_or]
  ·unfold j4;cases ho:d.bH i with
   | false=>rfl
   | true=>
    cases he:d.bI i with
    | true=>rfl
    | false=>
     have KP:WL (minD a).L (t i):=by rw[hL];exact (ht i).1
     have e3:uW d t i=og 0 (t i):=by unfold uW;rw[ho,he];rfl
     have:=XQ hT hA (yQ hS KP);have e4:cA S (vl (minD a) S (uW d t i)) (vl (minD a) S (uW d t i))=vl (minD a) S (uW d t i):=by rw[e3,Fz KP];exact this
     exact cg e4
 ·intro h d hd v hv;have hk:=ao d hd;have hex: ∀i,∃w,(WL a.L w∧(mo=true∨w≠[]))∧(i<d.nv→vl (minD a) S w=v i):=fun i=>by
   by_cases c:i<d.nv
   ·obtain ⟨hz,hb⟩:=uK.1 (hv i c).1;have aR:=fQ.1 hz;cases nA:mo with
    | true=>
     obtain ⟨w,hw,e⟩:=tH hS aR;exact ⟨w,⟨by rw[←hL];exact hw,.inl rfl⟩,fun _=>e⟩
    | false=>
     rw[nA,Bool.or_false] at hb;obtain ⟨w,hw,e,bq⟩:=aiV hS aR hb;exact ⟨w,⟨by rw[←hL];exact hw,.inr bq⟩,fun _=>e⟩
   ·exact ⟨[0],⟨WL.cons ha.l1 WL.nil,.inr (by simp)⟩,fun c2=>absurd c2 c⟩
  obtain ⟨t,ht⟩:=Classical.axiomOfChoice hex;have hu: ∀i,WL (minD a).L (uW d t i):=fun i=>by
   rw[hL];unfold uW;by_cases c:(d.bH i&& !d.bI i)=true
   ·rw[aA c];exact Fy (ht i).1.1 _
   ·rw[aw c];exact (ht i).1.1
  have Yx: ∀i,i<d.nv→v i=vl (minD a) S (uW d t i):=fun i hi=>by
   have KP:WL (minD a).L (t i):=by rw[hL];exact (ht i).1.1
   unfold uW;by_cases c:(d.bH i&& !d.bI i)=true
   ·rw[aA c,Fz KP,(ht i).2 hi];obtain ⟨c1,c2⟩:=kb.1 c;have hr:=(hv i hi).2;unfold j4 at hr;rw[c1,(show d.bI i=false by simpa using c2)] at hr;exact (Kn (D0 (show decide (cA S (v i) (v i)=v i)=true from hr)) _).symm
   ·rw[aw c];exact ((ht i).2 hi).symm
  rw[yM Yx d.p [] 0 hk.wp,yM Yx d.q [] 0 hk.wq];obtain ⟨l,e1⟩:=Qi (one:=[]) (mul:=fun a b=>a++b) (po:=og) (v:=uW d t) d.p [] hk.wp;obtain ⟨r,e2⟩:=Qi (one:=[]) (mul:=fun a b=>a++b) (po:=og) (v:=uW d t) d.q [] hk.wq;obtain ⟨g1,w1⟩:=KO hm hS hu e1;obtain ⟨g2,w2⟩:=KO hm hS hu e2;rw[hL] at w1 w2;rw[g1,g2,(Yw ha hS w1 w2).2 fun x y hx hy=>h d hd t (fun i=>(ht i).1) l r w1 w2 e1 e2 x y hx hy]
end
inductive xm (mul:Nat→Nat→Nat) (G:List Nat):Nat→Prop
 | one {g:Nat}:g∈G→xm mul G g
 | more {x g:Nat}:xm mul G x→g∈G→xm mul G (mul x g)
theorem xm.mono {mul:Nat→Nat→Nat} {G H:List Nat} (h: ∀g∈G,g∈H) {x:Nat} (hx:xm mul G x):xm mul H x:=by
 induction hx with
 | one hg=>exact .one (h _ hg)
 | more _ hg ih=>exact .more ih (h _ hg)
structure ClI (K:Nat) (mul:Nat→Nat→Nat) (G M:List Nat):Prop where
 gd:nC K M
 sub: ∀g∈G,g∈M
 pr: ∀x∈M,xm mul G x
 cl: ∀x∈M,∀g∈G,mul x g∈M
 gl:G.length≤M.length
end Go.AM
set_option maxRecDepth 100000
namespace Go.AM
open Go.IntKind (wrap)
open Go.Proofs Go.Sort
end Go.AM
set_option maxRecDepth 100000
namespace Go.AM
open Go.IntKind (wrap)
open Go.Proofs
structure KQ (K:Nat) (mul:Nat→Nat→Nat) (G Z:List Nat):Prop where
 asc:Z.Pairwise (· < ·)
 lt: ∀x∈Z,x<K
 sub: ∀g∈G,g∈Z
 pr: ∀x∈Z,xm mul G x
 cl: ∀x∈Z,∀y∈Z,mul x y∈Z
section
variable {K:Nat} {mul:Nat→Nat→Nat} (h:Tb K mul) (ha: ∀i j k,i<K→j<K→k<K→mul (mul i j) k=mul i (mul j k))
include ha
end
theorem aiZ {Z:List Nat} (h:Z.Pairwise (· < ·)):Z.Nodup:=h.imp fun h=>by omega
section
variable {K:Nat} {mul:Nat→Nat→Nat} {G Z:List Nat} (h:Tb K mul) (ha: ∀i j k,i<K→j<K→k<K→mul (mul i j) k=mul i (mul j k)) (hZ:KQ K mul G Z)
include hZ
theorem KQ.le:Z.length≤K:=nC.le ⟨aiZ hZ.asc,hZ.lt⟩
include h
end
end Go.AM
set_option maxRecDepth 100000
namespace Go.AM
open Go.IntKind (wrap)
open Go.Proofs
namespace Da
def mQ (a:Da) (f:Nat→Bool):Da:=⟨a.L,a.st,tab a.n f,a.N⟩
def vj (a:Da) (s:Nat):Da:=⟨a.L,s,a.F,a.N⟩
def pre (a:Da) (k:Nat) (g:Nat→List Nat):Da:=⟨k,a.st,a.F,tab a.n fun q=>tab k fun x=>a.run q (g x)⟩
theorem yS {a:Da} {f:Nat→Bool}:(a.mQ f).n=a.n:=by simp[mQ,n]
theorem Yy {a:Da} {f:Nat→Bool} {q:Nat} (h:q<a.n):(a.mQ f).fin q=f q:=by
 show (tab a.n f).getD q false=f q;exact xn h
theorem Ok.mQ {a:Da} (h:a.Ok) {f:Nat→Bool}:(a.mQ f).Ok:=⟨h.l1,h.l6,by rw[yS];exact h.nN,fun r hr=>by rw[yS];exact h.row r hr,by rw[yS];exact h.s,by rw[yS];exact h.dy⟩
theorem Ok.vj {a:Da} (h:a.Ok) {s:Nat} (hs:s<a.n):(a.vj s).Ok:=⟨h.l1,h.l6,h.nN,h.row,hs,h.dy⟩
theorem ai0 {a:Da} {f:Nat→Bool} {q:Nat} {w:List Nat}:(a.mQ f).run q w=a.run q w:=rfl
theorem ai1 {a:Da} (h:a.Ok) {f:Nat→Bool} {q:Nat} (hq:q<a.n) {w:List Nat} (hw:WL a.L w):(a.mQ f).acc q w=f (a.run q w):=by
 unfold acc;rw[ai0,Yy (h.qt w hq hw)]
theorem ai2 {a:Da} {f:Nat→Bool}:(a.mQ f).ec=bV a.n f:=by
 unfold ec bV;rw[yS];exact dg fun q hq=>by rw[Yy hq]
theorem ai3 {a:Da} {f:Nat→Bool}:(a.mQ f).eD=a.eD:=by unfold eD;rw[yS];rfl
theorem Ok.pre {a:Da} (h:a.Ok) {k:Nat} {g:Nat→List Nat} (h1:1≤k) (h6:k≤6) (hg: ∀x,x<k→WL a.L (g x)):(a.pre k g).Ok:=⟨h1,h6,by simp[Da.pre,n],fun r hr=>by
 obtain ⟨q,hq,rfl⟩:=KR.1 hr;refine ⟨by simp[Da.pre],fun s hs=> ?_⟩;obtain ⟨x,hx,rfl⟩:=KR.1 hs;exact h.qt _ hq (hg x hx),h.s,h.dy⟩
end Da
end Go.AM
set_option maxRecDepth 100000
namespace Go.AM
open Go.IntKind (wrap)
open Go.Proofs
theorem ai4 {f:Nat→Nat} {n:Nat} (h: ∀p q,p<n→q<n→f p=f q→p=q):((List.range n).map f).Nodup:=by
 refine List.pairwise_map.2 (List.nodup_range.imp_of_mem fun {a b} ha hb bq e=>bq ?_);exact h a b (fQ.1 ha) (fQ.1 hb) e
theorem Qk {a:Da} (h:a.Ok):(minD a).n≤a.n:=by
 have hc:=vi h;have hL:=sG h;have hex: ∀q:Nat,∃w,q<(minD a).n→WL a.L w∧(minD a).run (minD a).st w=q:=fun q=>by
  by_cases c:q<(minD a).n
  ·obtain ⟨w,h1,h2⟩:=Yp h c;exact ⟨w,fun _=>⟨h1,h2⟩⟩
  ·exact ⟨[],fun c2=>absurd c2 c⟩
 obtain ⟨W,hW⟩:=Classical.axiomOfChoice hex;have key:=yc (l₁:=(List.range (minD a).n).map fun q=>a.run a.st (W q)) (l₂:=List.range a.n) (ai4 fun p q hp hq e=> ?_) fun x hx=> ?_
 ·simpa using key
 ·obtain ⟨p1,p2⟩:=hW p hp;obtain ⟨q1,q2⟩:=hW q hq;refine hc.red p q hp hq fun w hw=> ?_;rw[hL] at hw;rw[←p2,←q2,←Da.yR,←Da.yR,xl h (WL.app.2 ⟨p1,hw⟩),xl h (WL.app.2 ⟨q1,hw⟩),Da.yR,Da.yR,e]
 ·obtain ⟨q,hq,rfl⟩:=iB.1 hx;exact fQ.2 (h.qt _ h.s (hW q (fQ.1 hq)).1)
section
variable {m:Da} (hm:m.Ok) {S:List (List Nat)} (hS:pD m S) {k:Nat} (h1:1≤k) (h6:k≤6) {g:Nat→List Nat} (hg: ∀x,x<k→WL m.L (g x)) {S2:List (List Nat)} (hS2:pD (minD (m.pre k g)) S2)
def vals (m:Da) (S:List (List Nat)) (k:Nat) (g:Nat→List Nat):List Nat:=0::(List.range k).map fun x=>vl m S (g x)
section
variable {Z:List Nat} (hZ:KQ S.length (cA S) (vals m S k g) Z)
include hZ
end
end
section
variable {K:Nat} {mul:Nat→Nat→Nat} {G Z:List Nat} (hZ:KQ K mul G Z)
include hZ
end
def vk (L:Nat) (P:List Nat→Bool) (c:Nat):Prop:= ∀d∈PM c,Yr L P (iq Kb c) d
def KS (L:Nat) (P:List Nat→Bool) (l:LV):Prop:=l.length=16∧∀c,c<16→∃n:Int,l[c]? =some (.int .i64 n)∧(n=1→vk L P c)∧(n=0→¬vk L P c)
theorem Ql {a:Da} (ha:a.Ok) (mn:(minD a).n≤32):CC xe (fI a)=some [.list ab [],.bool false]∨∃l,CC xe (fI a)=some [.list ab l,.bool true]∧KS a.L (a.acc a.st) l:=by
 obtain ⟨z,l,e,h⟩:=aiQ XG ha mn;have A: ∀{a:Da} z,Kk CC (a.L:Int) (a.st:Int) a.ec a.eD=z→CC xe (fI a)=z:=fun z h=>aih h;rcases h with hz|⟨rfl,hl,S,hS,hv⟩
 ·refine .inl (A _ ?_);unfold Kk;exact bs e (bT (by show (z != 0)=true;rw[bne_iff_ne];exact hz) rfl)
 ·refine .inr ⟨l.take 16,A _ ?_,by rw[mD,hl];rfl,fun c hc=> ?_⟩
  ·unfold Kk;refine bs e (bF rfl (bF ?_ (bT ?_ rfl)))
   ·show ((l.length:Int) != 17)=false;rw[hl];rfl
   ·show decide ((16:Int)≤(l.length:Int))=true;exact cg (by omega)
  ·obtain ⟨n,h1,h2,h3⟩:=hv c (by omega);have hh:=aiY ha hS (mo:=iq Kb c) (ids:=PM c) fun d hd=>XG.ok c (by omega) d hd;exact ⟨n,by rw[List.getElem?_take,aA hc];exact h1,fun e=>hh.1 (h2 e),fun e hn=>h3 e (hh.2 hn)⟩
theorem vk.quo {L:Nat} {P Q:List Nat→Bool} {c:Nat} (h:vk L P c) {u v:List Nat} (hu:WL L u) (hv:WL L v) (e: ∀w,WL L w→Q w=P (u++(w++v))):vk L Q c:=fun d hd t ht l r hl hr e1 e2 x y hx hy=>by
 rw[e _ (WL.app.2 ⟨hx,WL.app.2 ⟨hl,hy⟩⟩),e _ (WL.app.2 ⟨hx,WL.app.2 ⟨hr,hy⟩⟩)];have:=h d hd t ht l r hl hr e1 e2 (u++x) (y++v) (WL.app.2 ⟨hu,hx⟩) (WL.app.2 ⟨hy,hv⟩);simpa only[kJ] using this
end Go.AM
set_option maxRecDepth 100000
namespace Go.AM
open Go.IntKind (wrap)
theorem WT.ai5 {P:Program} {t:TypeId} {x:V} (hu:P.underlying t=some (.int .i64)) (h:WT P t x): ∃n:Int,x= .int .i64 n∧ -9223372036854775808≤n∧n≤9223372036854775807:=by
 obtain ⟨n,rfl,h1,h2⟩:=h.fU hu;have e1:IntKind.min .i64= -9223372036854775808:=by decide
 have e2:IntKind.max .i64=9223372036854775807:=by decide
 rw[e1] at h1;rw[e2] at h2;exact ⟨n,rfl,h1,h2⟩
theorem WT.Qm {P:Program} {t:TypeId} {x:V} (hu:P.underlying t=some (.int .u8)) (h:WT P t x): ∃n:Int,x= .int .u8 n∧0≤n∧n≤255:=by
 obtain ⟨n,rfl,h1,h2⟩:=h.fU hu;have e1:IntKind.min .u8=0:=by decide
 have e2:IntKind.max .u8=255:=by decide
 rw[e1] at h1;rw[e2] at h2;exact ⟨n,rfl,h1,h2⟩
end Go.AM
set_option maxRecDepth 100000
namespace Go.AM
open Go.IntKind (wrap)
open Go.Proofs
def Df.enc (d:Df):V:= .agg (FA d [])
noncomputable def Yz (C:af) (cw cJ:Int) (b9 cK:LV) (w:List UInt8):Option LV:=
 (C FB [V.int .i64 cw,V.int .i64 cJ,.list ar b9,.list ag cK]).bind fun r1=>
 bif (((V.nth (r1.drop 2) 0).toInt):Int) != 0 then
  some [V.int .i64 0,V.int .i64 0,V.int .i64 ((V.nth (r1.drop 2) 0).toInt),.list ar ([]:LV),.list ag ([]:LV)]
 else
  (C B0 [.str w,V.int .i64 cw]).bind fun r2=>
  bif !((V.nth r2 0).toBool) then
  some [V.int .i64 0,V.int .i64 0,V.int .i64 1,.list ar ([]:LV),.list ag ([]:LV)]
  else
  (C FC [V.int .i64 ((V.nth r1 0).toInt),V.int .i64 ((V.nth (r1.drop 1) 0).toInt),.list ar ((V.nth (r1.drop 3) 0).toList),.list ag ((V.nth ((r1.drop 3).drop 1) 0).toList),V.int .i64 ((V.nth (r1.drop 1) 0).toInt),.str w]).bind fun r3=>
  (C tJ [V.int .i64 ((V.nth r1 0).toInt),V.int .i64 ((V.nth r3 0).toInt),.list ar ((V.nth (r1.drop 3) 0).toList),.list ag ((V.nth ((r1.drop 3).drop 1) 0).toList)]).bind fun r4=>
  some [V.int .i64 ((V.nth r4 0).toInt),V.int .i64 ((V.nth (r4.drop 1) 0).toInt),V.int .i64 0,.list ar ((V.nth (r4.drop 2) 0).toList),.list ag ((V.nth ((r4.drop 2).drop 1) 0).toList)]
theorem ai6 {cw cJ:Int} {b9 cK:LV} {w:List UInt8} {r:Option LV} (h:Yz CC cw cJ b9 cK w=r):CC KT [V.int .i64 cw,V.int .i64 cJ,.list ar b9,.list ag cK,.str w]=r:=bO (L:=bM) av h
noncomputable def FD (C:af) (w:List UInt8) (t30 j7 j8 eY eZ:Int) (aQ aV aS aF:LV) (t31:Int) (FE:LV) {β:Type} (kn:(Int×LV)→Option β) (kr:(Int×Bool×LV)→Option β):Option β:=
 bif decide (t31<t30) then
  (C FC [V.int .i64 eY,V.int .i64 eZ,.list ar aS,.list ag aF,V.int .i64 t31,.str w]).bind fun r3=>
  aP aS ((V.nth r3 0).toInt) fun x4=>
  aP FE t31 fun x5=>
  kn (wrap .i64 (t31+1),bj FE t31 (.bool x4.toBool))
 else
  kr (t31,decide (t31<t30),FE)
noncomputable def KU (C:af) (w:List UInt8) (t30 j7 j8 eY eZ:Int) (aQ aV aS aF:LV):=un fun t31 FE=>FD C w t30 j7 j8 eY eZ aQ aV aS aF t31 FE (fun y=>some (Sum.inl y)) (fun r=>some (Sum.inr r))
noncomputable def ai7 (C:af):cN:=bL 129 Qn [EQ,EQ,H1,EQ,EQ,EQ,EQ,H1,EQ,EQ,EQ,EQ] [[1,2,0,0,4,5,6,7,0,9,10,11,12]] (@FD C) bM
theorem ai8 (C:af):bD C (ai7 C) 8 (Lp [1,1,1,1,1,0,1,0,0] 8):=bN Qn [EQ,EQ,H1,EQ,EQ,EQ,EQ,H1,EQ,EQ,EQ,EQ] [[1,2,0,0,4,5,6,7,0,9,10,11,12]] (@FD C) (bA av)
noncomputable def YA (C:af) (cw cJ:Int) (b9 cK:LV) (w:List UInt8):Option LV:=
 (C FB [V.int .i64 cw,V.int .i64 cJ,.list ar b9,.list ag cK]).bind fun r1=>
 bif (((V.nth (r1.drop 2) 0).toInt):Int) != 0 then
  some [V.int .i64 0,V.int .i64 0,V.int .i64 ((V.nth (r1.drop 2) 0).toInt),.list ar ([]:LV),.list ag ([]:LV)]
 else
  (C B0 [.str w,V.int .i64 cw]).bind fun r2=>
  bif !((V.nth r2 0).toBool) then
  some [V.int .i64 0,V.int .i64 0,V.int .i64 1,.list ar ([]:LV),.list ag ([]:LV)]
  else
  bif (decide (0≤(((V.nth (r1.drop 3) 0).toList).length:Int)))&&((decide ((((V.nth (r1.drop 3) 0).toList).length:Int)≤(((V.nth (r1.drop 3) 0).toList).length:Int)))&&(Nat.ble ((((((V.nth (r1.drop 3) 0).toList).length:Int):Int).toNat)*1) ba)) then
   (Loop (KU C w ((List.replicate (((((V.nth (r1.drop 3) 0).toList).length:Int):Int).toNat) (V.bool false)).length:Int) 0 0 ((V.nth r1 0).toInt) ((V.nth (r1.drop 1) 0).toInt) ([]:LV) ([]:LV) ((V.nth (r1.drop 3) 0).toList) ((V.nth ((r1.drop 3).drop 1) 0).toList)) (0,List.replicate (((((V.nth (r1.drop 3) 0).toList).length:Int):Int).toNat) (V.bool false))).bind (un fun jY=>un fun (nu:Bool) (ai9:LV)=>
    (C tJ [V.int .i64 ((V.nth r1 0).toInt),V.int .i64 ((V.nth (r1.drop 1) 0).toInt),.list ar ai9,.list ag ((V.nth ((r1.drop 3).drop 1) 0).toList)]).bind fun r9=>
    some [V.int .i64 ((V.nth r9 0).toInt),V.int .i64 ((V.nth (r9.drop 1) 0).toInt),V.int .i64 0,.list ar ((V.nth (r9.drop 2) 0).toList),.list ag ((V.nth ((r9.drop 2).drop 1) 0).toList)])
  else none
theorem aja {cw cJ:Int} {b9 cK:LV} {w:List UInt8} {r:Option LV} (h:YA CC cw cJ b9 cK w=r):CC KV [V.int .i64 cw,V.int .i64 cJ,.list ar b9,.list ag cK,.str w]=r:=bO (bE (ai8 CC) av) h
section
variable {a:Da} (h:a.Ok) {w:List UInt8}
include h
theorem ajb (hw:oh w (a.L:Int)):CC KT (rC a [.str w])=some (KW (minD ((minD a).vj ((minD a).run (minD a).st (lets w)))) 0):=by
 have hm:=qs h;have yT:oh w ((minD a).L:Int):=by rw[sG h];exact hw
 refine ai6 ?_;unfold Yz;refine bs (YB h) (bF rfl ?_);refine bs (Qo w a.L) (bF (by simp[hw]) ?_);have hr:=YC hm hm.s w;rw[aA yT] at hr;refine bs hr ?_;refine bs (yU (hm.vj (hm.qt (lets w) hm.s yT.WL))) ?_;rfl
theorem ajc (hw:oh w (a.L:Int)):CC KV (rC a [.str w])=some (KW (minD ((minD a).mQ fun q=>(minD a).fin ((minD a).run q (lets w)))) 0):=by
 have hm:=qs h;have hn:=hm.dy;have yT:oh w ((minD a).L:Int):=by rw[sG h];exact hw
 refine aja ?_;unfold YA;refine bs (YB h) (bF rfl ?_);refine bs (Qo w a.L) (bF (by simp[hw]) ?_);have e0:(V.nth ((KW (minD a) 0).drop 3) 0).toList=(minD a).ec:=rfl;rw[e0,Da.B3];refine bT (gD (by omega) (by omega)) ?_;rw[Int.toNat_natCast,oK,eW];have key: ∀{k1 k2:Int} {l1 l2:List V},Loop (KU CC w ((minD a).n:Int) k1 k2 ((minD a).L:Int) ((minD a).st:Int) l1 l2 (minD a).ec (minD a).eD) (0,(tab (minD a).n fun _=>V.bool false))=some (((minD a).n:Int),false,(bV (minD a).n fun q=>(minD a).fin ((minD a).run q (lets w)))):=by
  intro k1 k2 l1 l2;refine (fH (minD a).n (fun i=>((i:Int),(tab (minD a).n fun q=>if q<i then V.bool ((minD a).fin ((minD a).run q (lets w))) else V.bool false))) _ (fun q hq=> ?_) ?_)
  ·have hr:=YC hm hq w;rw[aA yT] at hr;simp only[KU,FD,un,aP,bj];refine bT (bm hq) ?_;refine bs hr ?_;refine (mq (i:=(minD a).run q (lets w)) (hm.qt (lets w) hq yT.WL)).trans ?_;refine (mq (i:=q) hq).trans ?_;rw[br (by omega),Int.toNat_natCast];exact congrArg (fun x=>some (Sum.inl (((q+1:Nat):Int),x))) (ajd (f:=fun q=>V.bool ((minD a).fin ((minD a).run q (lets w)))) rfl)
  ·simp only[KU,FD,un,aP,bj];refine bF (aZ (az _)) ?_;rw[aZ (az _)];exact congrArg (fun x=>some (Sum.inr (((minD a).n:Int),false,x))) (aje (f:=fun q=>V.bool ((minD a).fin ((minD a).run q (lets w)))))
 refine bs key ?_;have hM:=yU (hm.mQ (f:=fun q=>(minD a).fin ((minD a).run q (lets w))));unfold fI rC at hM;rw[Da.ai2,Da.ai3] at hM;refine bs hM ?_;rfl
end
section
variable {d:Df} (h:d.Ok) (hv:d.val≠0)
include h hv
end
def YD (l:List (List UInt8)) (L:Int):Prop:= ∀i,i<l.length→oh (l.getD i []) L
instance (l:List (List UInt8)) (L:Int):Decidable (YD l L):=by unfold YD;infer_instance
section
variable {a:Da} (h:a.Ok) {l:List (List UInt8)}
include h
end
noncomputable def YE (C:af) (x n:Int):Option LV:=
 bif decide (n<1) then
  some [V.int .i64 0]
 else
  bif !decide (n=0) then
  bif decide (((Int.tmod x n):Int)<0) then
   some [V.int .i64 (wrap .i64 ((Int.tmod x n)+n))]
  else
   some [V.int .i64 (Int.tmod x n)]
  else none
theorem ajf {x n:Int} {r:Option LV} (h:YE CC x n=r):CC KX [V.int .i64 x,V.int .i64 n]=r:=bO (L:=bM) av h
noncomputable def Qp (C:af) (l:LV):Option LV:=
 bif decide ((l.length:Int)>80) then
  bif decide (80≤(l.length:Int)) then
  some [.list ab ((l.drop 0).take (80-0)),V.int .i64 0]
  else none
 else
  some [.list ab l,V.int .i64 0]
theorem YF {l:LV} {r:Option LV} (h:Qp CC l=r):CC FF [.list ab l]=r:=bO (L:=bM) av h
noncomputable def Qq (C:af) (n:Int) (bu:LV) (bw:Int):Option LV:=
 bif decide (bw≥(bu.length:Int)) then
  some [V.int .i64 0,.list ab bu,V.int .i64 bw]
 else
  (idx bu (wrap .i64 ((wrap .i64 (bw+1))-1))).bind fun x1=>
  (C KX [V.int .i64 x1.toInt,V.int .i64 n]).bind fun r2=>
  some [V.int .i64 ((V.nth r2 0).toInt),.list ab bu,V.int .i64 (wrap .i64 (bw+1))]
theorem YG {n:Int} {bu:LV} {bw:Int} {r:Option LV} (h:Qq CC n bu bw=r):CC nD [V.int .i64 n,.list ab bu,V.int .i64 bw]=r:=bO (L:=bM) av h
theorem ajg {x:Int} {n:Nat} (hn:1≤n) (hm:n≤1000000): ∃v:Nat,v<n∧CC KX [.int .i64 x,.int .i64 (n:Int)]=some [.int .i64 (v:Int)]:=by
 have h1:x %n<n:=Int.emod_lt_of_pos _ (by omega);have h2:0≤x %n:=Int.emod_nonneg _ (by omega);have e:((x %n).toNat:Int)=x %n:=Int.toNat_of_nonneg h2;have h0:Int.tmod x n=x %n∨Int.tmod x n=x %n-n:=by
  rw[Int.tmod_eq_emod];split<;>simp
 refine ⟨(x %n).toNat,by omega,ajf ?_⟩;unfold YE;refine bF (by simp;omega) (bT (by simp;omega) ?_);rw[e];by_cases h:Int.tmod x n<0
 ·refine bT (cg h) ?_;have h3:Int.tmod x n+n=x %n:=by omega
  rw[h3,rD (by omega) (by omega)]
 ·refine bF (cX h) ?_;have h3:Int.tmod x n=x %n:=by omega
  rw[h3]
structure Tp where
 l:List Int
 k:Nat
 h:l.length≤80
 hk:k≤80
def Tp.L (t:Tp):V:= .list ab (t.l.map iV)
def Tp.K (t:Tp):V:= .int .i64 (t.k:Int)
theorem YH (l:List Int): ∃t:Tp,CC FF [.list ab (l.map iV)]=some [t.L,t.K]:=by
 by_cases h:80<l.length
 ·refine ⟨⟨l.take 80,0,by simp;omega,by omega⟩,YF ?_⟩;unfold Qp;refine bT (by simp;omega) (bT (by simp;omega) ?_);simp[Tp.L,Tp.K,List.map_take]
 ·refine ⟨⟨l,0,by omega,by omega⟩,YF ?_⟩;unfold Qp;exact bF (by simp;omega) rfl
theorem pG (t:Tp) {n:Nat} (hn:1≤n) (hm:n≤1000000): ∃(v:Nat) (u:Tp),v<n∧CC nD [.int .i64 (n:Int),t.L,t.K]=some [.int .i64 (v:Int),u.L,u.K]:=by
 have hh:=t.h;have hk:=t.hk;by_cases h:t.l.length≤t.k
 ·refine ⟨0,t,by omega,YG ?_⟩;unfold Qq;exact bT (by simp;omega) rfl
 ·obtain ⟨v,hv,e⟩:=ajg (x:=t.l.getD t.k 0) hn hm;refine ⟨v,⟨t.l,t.k+1,t.h,by omega⟩,hv,YG ?_⟩;unfold Qq;refine bF (by simp;omega) ?_;rw[br (by omega),rD (by omega) (by omega),show ((t.k+1:Nat):Int)-1=(t.k:Int) by omega];refine bs (Qr (z:=0) (by omega)) ?_;refine bs (by rw[V.toInt_int];exact e) ?_;rfl
structure Nd where
 op:Nat
 x:Nat
 a:Nat
 b:Nat
deriving DecidableEq
def Nd.v (d:Nd):V:= .agg [.int .i64 (d.op:Int),.int .i64 (d.x:Int),.int .i64 (d.a:Int),.int .i64 (d.b:Int)]
structure Nd.Ok (d:Nd) (L i:Nat):Prop where
 o1:1≤d.op
 o8:d.op≤8
 x1:d.op=3→d.x<L
 x0:d.op≠3→d.x=0
 a1:5≤d.op→d.a<i
 a0:d.op<5→d.a=0
 b1:5≤d.op→d.op≠8→d.b<i
 b0:d.op<5∨d.op=8→d.b=0
structure YI (g:List Nd) (L:Nat):Prop where
 l1:1≤L
 l2:L≤6
 n1:1≤g.length
 n2:g.length≤100
 nd: ∀i (h:i<g.length),g[i].Ok L i
theorem YI.get {g:List Nd} {L i:Nat} (h:YI g L) (hi:i<g.length):idx (g.map Nd.v) (i:Int)=some g[i].v:=by
 rw[YJ rfl hi]
noncomputable def FG (C:af) (aT n q iS iT bG bU:Int) (aV aS aF aU:LV) (a:Int) (bu:LV) (bw:Int) (rows:LV) {β:Type} (kn:(Int×LV×Int×LV)→Option β) (kr:(Int×Bool×LV×Int×LV)→Option β):Option β:=
 bif decide (a<aT) then
  (C nD [V.int .i64 n,.list ab bu,V.int .i64 bw]).bind fun r4=>
  bif Nat.ble ((rows.length+([V.int .i64 ((V.nth r4 0).toInt)]:LV).length)*8) ba then
  kn (wrap .i64 (a+1),(V.nth (r4.drop 1) 0).toList,(V.nth ((r4.drop 1).drop 1) 0).toInt,rows++([V.int .i64 ((V.nth r4 0).toInt)]:LV))
  else none
 else
  kr (a,decide (a<aT),bu,bw,rows)
noncomputable def FH (C:af) (aT n q iS iT bG bU:Int) (aV aS aF aU:LV):=un fun a=>un fun bu=>un fun bw rows=>FG C aT n q iS iT bG bU aV aS aF aU a bu bw rows (fun y=>some (Sum.inl y)) (fun r=>some (Sum.inr r))
noncomputable def FI (C:af) (aT n iS iT bG bU:Int) (aQ aV:LV) (q:Int) (bu:LV) (bw:Int) (aS aF:LV) {β:Type} (kn:(Int×LV×Int×LV×LV)→Option β) (kr:(Int×Bool×LV×Int×LV×LV)→Option β):Option β:=
 bif decide (q<n) then
  (C nD [V.int .i64 2,.list ab bu,V.int .i64 bw]).bind fun r3=>
  bif Nat.ble ((aS.length+([.bool ((((V.nth r3 0).toInt):Int)==1)]:LV).length)*1) ba then
  (Loop (FH C aT n q iS iT bG bU aQ aV (aS++([.bool ((((V.nth r3 0).toInt):Int)==1)]:LV)) aF) (0,(V.nth (r3.drop 1) 0).toList,(V.nth ((r3.drop 1).drop 1) 0).toInt,([]:LV))).bind (un fun a_5=>un fun (jY:Bool)=>un fun (Qs:LV)=>un fun (ajh:Int) (aji:LV)=>
   bif Nat.ble ((aF.length+1)*24) ba then
    kn (wrap .i64 (q+1),Qs,ajh,aS++([.bool ((((V.nth r3 0).toInt):Int)==1)]:LV),aF++([.list ab aji]:LV))
   else none)
  else none
 else
  kr (q,decide (q<n),bu,bw,aS,aF)
noncomputable def KY (C:af) (aT n iS iT bG bU:Int) (aQ aV:LV):=un fun q=>un fun bu=>un fun bw=>un fun aS aF=>FI C aT n iS iT bG bU aQ aV q bu bw aS aF (fun y=>some (Sum.inl y)) (fun r=>some (Sum.inr r))
noncomputable def YK (C:af):cN:=bL 161 Qt [EQ,EQ,EQ,H1,H1,H1,EQ,EQ,EQ,EQ,H1,EQ,EQ,EQ,EQ] [[1,2,3,0,0,0,0,7,8,9,10,0,12,13,14,15]] (@FG C) (bL 81 Qu [EQ,EQ,H1,H1,H1,EQ,EQ,EQ,EQ,EQ,EQ,H1,H1] [[1,2,0,0,0,0,6,7,8,9,10,11,0,0]] (@FI C) bM)
theorem ajj (C:af):bD C (YK C) 26 (Lp [1,1,1,1,0,1,0,0,1,0,0,1,1,0,1,0,0] 26):=bN Qt [EQ,EQ,EQ,H1,H1,H1,EQ,EQ,EQ,EQ,H1,EQ,EQ,EQ,EQ] [[1,2,3,0,0,0,0,7,8,9,10,0,12,13,14,15]] (@FG C) (bA av)
theorem ajk (C:af):bD C (YK C) 26 (Lp [1,1,1,1,0,1,0,0] 26):=bN Qu [EQ,EQ,H1,H1,H1,EQ,EQ,EQ,EQ,EQ,EQ,H1,H1] [[1,2,0,0,0,0,6,7,8,9,10,11,0,0]] (@FI C) (bA (bE (ajj C) av))
noncomputable def YL (C:af) (aT dy:Int) (bu:LV) (bw:Int):Option LV:=
 (C nD [V.int .i64 dy,.list ab bu,V.int .i64 bw]).bind fun r1=>
 (C nD [V.int .i64 (wrap .i64 (1+((V.nth r1 0).toInt))),.list ab ((V.nth (r1.drop 1) 0).toList),V.int .i64 ((V.nth ((r1.drop 1).drop 1) 0).toInt)]).bind fun r2=>
 (Loop (KY C aT (wrap .i64 (1+((V.nth r1 0).toInt))) 0 0 aT ((V.nth r2 0).toInt) ([]:LV) ([]:LV)) (0,(V.nth (r2.drop 1) 0).toList,(V.nth ((r2.drop 1).drop 1) 0).toInt,([]:LV),([]:LV))).bind (un fun ajl=>un fun (yV:Bool)=>un fun (ajm:LV)=>un fun ajn=>un fun (pH:LV) (vm:LV)=>
  some [V.int .i64 aT,V.int .i64 ((V.nth r2 0).toInt),.list ab ajm,V.int .i64 ajn,.list ar pH,.list ag vm])
theorem ajo {aT dy:Int} {bu:LV} {bw:Int} {r:Option LV} (h:YL CC aT dy bu bw=r):CC FJ [V.int .i64 aT,V.int .i64 dy,.list ab bu,V.int .i64 bw]=r:=bO (bE (ajk CC) av) h
def cW (N:List (List Nat)):LV:=N.map fun r=> .list ab (nS r)
structure FN (L:Nat) (F:List Bool) (N:List (List Nat)):Prop where
 len:F.length=N.length
 pos:1≤N.length
 row: ∀r∈N,r.length=L∧∀q∈r,q<N.length
theorem FN.ok {L st:Nat} {F:List Bool} {N:List (List Nat)} (h:FN L F N) (h1:1≤L) (h6:L≤6) (hs:st<N.length) (hn:N.length≤512):(⟨L,st,F,N⟩:Da).Ok:=by
 have e:(⟨L,st,F,N⟩:Da).n=N.length:=h.len;exact ⟨h1,h6,by rw[e],fun r hr=>by rw[e];exact h.row r hr,by rw[e];exact hs,by rw[e];exact hn⟩
theorem FN.leaves {L st:Nat} {F:List Bool} {N:List (List Nat)} (h:(⟨L,st,F,N⟩:Da).Ok):fI ⟨L,st,F,N⟩=[.int .i64 (L:Int),.int .i64 (st:Int),.list ar (F.map V.bool),.list ag (cW N)]:=by
 have:=h.leaves [];show rC _ []=_;rw[←this];simp only[FA,Da.df,cW,wB];refine congrArg (fun x=>[V.int .i64 (L:Int),V.int .i64 (st:Int),V.list ar (F.map V.bool),V.list ag x]) (oB fun r _=> ?_);simp only[Function.comp,tK,sH,nS,wB];rfl
theorem YM (t:Tp) {L m:Nat} (h1:1≤L) (h6:L≤6) (hm:1≤m) (tC:m≤50): ∃(F:List Bool) (N:List (List Nat)) (st:Nat) (u:Tp),FN L F N∧N.length≤m∧st<N.length∧
  CC FJ [.int .i64 (L:Int),.int .i64 (m:Int),t.L,t.K]=some [.int .i64 (L:Int),.int .i64 (st:Int),u.L,u.K,.list ar (F.map V.bool),.list ag (cW N)]:=by
 obtain ⟨v,t1,hv,e1⟩:=pG t (n:=m) hm (by omega);obtain ⟨st,t2,cS,e2⟩:=pG t1 (n:=v+1) (by omega) (by omega);have inner: ∀(w:Tp) {x1 x2 x3 x4 x5:Int} {y1 y2 y3 y4:LV},∃(r:List Nat) (u:Tp),r.length=L∧(∀q∈r,q<v+1)∧
   Loop (FH CC (L:Int) ((v+1:Nat):Int) x1 x2 x3 x4 x5 y1 y2 y3 y4) (0,w.l.map iV,(w.k:Int),([]:LV))=some ((L:Int),false,u.l.map iV,(u.k:Int),nS r):=by
  intro w x1 x2 x3 x4 x5 y1 y2 y3 y4;have key:=lG (step:=FH CC (L:Int) ((v+1:Nat):Int) x1 x2 x3 x4 x5 y1 y2 y3 y4) (fun i x=> ∃(r:List Nat) (u:Tp),r.length=i∧(∀q∈r,q<v+1)∧x=((i:Int),u.l.map iV,(u.k:Int),nS r))
   (fun o=> ∃(r:List Nat) (u:Tp),r.length=L∧(∀q∈r,q<v+1)∧o=((L:Int),false,u.l.map iV,(u.k:Int),nS r)) L 0 (0,w.l.map iV,(w.k:Int),nS []) (fun i _ hi x hx=> ?_) (fun x hx=> ?_) ⟨[],w,rfl,fun _ h=>(by cases h),rfl⟩
  ·obtain ⟨o,e,r,u,a1,a2,rfl⟩:=key;exact ⟨r,u,a1,a2,e⟩
  ·obtain ⟨r,u,a1,a2,rfl⟩:=hx;obtain ⟨k,u2,hk,e⟩:=pG u (n:=v+1) (by omega) (by omega);simp only[FH,FG,un];refine ⟨_,bT (bm (by omega)) (bs e (bT (cap (a:=(nS r).length) (b:=1) (by rw[dE];omega) (by omega)) rfl)),r++[k],u2,by simp;omega,fun q hq=> ?_,?_⟩
   ·rcases fb.1 hq with hq|hq
    ·exact a2 q hq
    ·rw[fL.1 hq];exact hk
   ·rw[br (by omega)];refine dc rfl (dc rfl (dc rfl ?_));simp[nS,nV]
  ·obtain ⟨r,u,a1,a2,rfl⟩:=hx;rw[dL] at*
   simp only[FH,FG,un];exact ⟨_,bF (aZ (az _)) rfl,r,u,a1,a2,dc rfl (dc (aZ (az _)) rfl)⟩
 have key:=lG (step:=KY CC (L:Int) ((v+1:Nat):Int) 0 0 (L:Int) (st:Int) [] []) (fun i x=> ∃(F:List Bool) (N:List (List Nat)) (u:Tp),F.length=i∧N.length=i∧(∀r∈N,r.length=L∧∀q∈r,q<v+1)∧x=((i:Int),u.l.map iV,(u.k:Int),F.map V.bool,cW N))
  (fun o=> ∃(F:List Bool) (N:List (List Nat)) (u:Tp),F.length=v+1∧N.length=v+1∧(∀r∈N,r.length=L∧∀q∈r,q<v+1)∧o=(((v+1:Nat):Int),false,u.l.map iV,(u.k:Int),F.map V.bool,cW N)) (v+1) 0 (0,t2.l.map iV,(t2.k:Int),([]:LV),([]:LV)) (fun i _ hi x hx=> ?_) (fun x hx=> ?_) ⟨[],[],t2,rfl,rfl,fun _ h=>(by cases h),rfl⟩
 ·obtain ⟨o,e,F,N,u,a1,a2,a3,rfl⟩:=key;refine ⟨F,N,st,u,⟨by omega,by omega,fun r hr=>by rw[a2];exact a3 r hr⟩,by omega,by omega,ajo ?_⟩;unfold YL;have hw:wrap .i64 (1+(V.nth [V.int .i64 (v:Int),t1.L,t1.K] 0).toInt)=((v+1:Nat):Int):=by
   show wrap .i64 (1+(v:Int))=_;rw[show (1+(v:Int))=((v+1:Nat):Int) by omega];exact wrap64 (by omega) (by omega)
  refine bs e1 ?_;rw[hw];exact bs e2 (bs e rfl)
 ·obtain ⟨F,N,u,a1,a2,a3,rfl⟩:=hx;obtain ⟨k,u2,hk,e⟩:=pG u (n:=2) (by omega) (by omega);obtain ⟨r,u3,b1,b2,e3⟩:=inner u2 (x1:=(i:Int)) (x2:=0) (x3:=0) (x4:=(L:Int)) (x5:=(st:Int)) (y1:=[]) (y2:=[]) (y3:=F.map V.bool++[.bool ((k:Int)==1)]) (y4:=cW N);simp only[KY,FI,un];refine ⟨(((i+1:Nat):Int),u3.l.map iV,(u3.k:Int),F.map V.bool++[.bool ((k:Int)==1)],cW N++[.list ab (nS r)]),bT (bm (by omega)) (bs e (bT (cap (a:=(F.map V.bool).length) (b:=1) (by rw[dH];omega) (by omega)) (bs e3 ?_))),F++[(k:Int)==1],N++[r],u3,by simp;omega,by simp;omega,fun s hs=> ?_,?_⟩
  ·simp only[un];refine bT (cap (a:=(cW N).length) (b:=1) (by rw[cW,dH];omega) (by omega)) ?_;rw[br (by omega)];rfl
  ·rcases fb.1 hs with hs|hs
   ·exact a3 s hs
   ·rw[fL.1 hs];exact ⟨b1,b2⟩
  ·simp[cW]
 ·obtain ⟨F,N,u,a1,a2,a3,rfl⟩:=hx;rw[dL] at*
  simp only[KY,FI,un];exact ⟨_,bF (aZ (az _)) rfl,F,N,u,a1,a2,a3,dc rfl (dc (aZ (az _)) rfl)⟩
noncomputable def FK (C:af) (q t17 t18:Int) (t25:Nat) (t26:Int) (B4:LV) (B5 iS iT bG bU:Int) (aV aS aF:LV) (t27:Int) (vn:LV) {β:Type} (kn:(Int×LV)→Option β) (kr:(Int×Bool×LV)→Option β):Option β:=
 bif decide (t27<t26) then
  (fl Tryz.prog ag vn [(t25,0)]).bind fun x4=>
  bif (decide (0≤t27))&&(decide (t27<(x4.toList.length:Int))) then
  (fl Tryz.prog ag vn [(t25,0)]).bind fun x5=>
  (x5.toList[t27.toNat]?).bind fun x6=>
  aP vn q fun x7=>
  (fl Tryz.prog ag vn [(q.toNat,0)]).bind fun x8=>
  bif (decide (0≤t27))&&(decide (t27<(x8.toList.length:Int))) then
   (fl Tryz.prog ag vn [(q.toNat,0)]).bind fun x9=>
   (x9.toList[t27.toNat]?).bind fun oj=>
   kn (wrap .i64 (t27+1),setRow Tryz.prog (bj x9.toList t27 (V.int .i64 (if x6.toInt>q then x6.toInt else q))) ag vn [(q.toNat,0)])
  else none
  else none
 else
  kr (t27,decide (t27<t26),vn)
noncomputable def FL (C:af) (q t17 t18:Int) (t25:Nat) (t26:Int) (B4:LV) (B5 iS iT bG bU:Int) (aV aS aF:LV):=un fun t27 vn=>FK C q t17 t18 t25 t26 B4 B5 iS iT bG bU aV aS aF t27 vn (fun y=>some (Sum.inl y)) (fun r=>some (Sum.inr r))
noncomputable def FM (C:af) (t17:Int) (B4:LV) (B5 iS iT bG bU:Int) (aQ aV aS:LV) (t18:Int) (aF:LV) {β:Type} (kn:(Int×LV)→Option β) (kr:(Int×Bool×LV)→Option β):Option β:=
 bif decide (t18<t17) then
  aP aF t18 fun x2=>
  (fl Tryz.prog ag aF [(t18.toNat,0)]).bind fun x3=>
  (Loop (FL C t18 t17 t18 (t18.toNat) (x3.toList.length:Int) B4 B5 iS iT bG bU aQ aV aS) (0,aF)).bind (un fun yV=>un fun (KZ:Bool) (ajp:LV)=>
   kn (wrap .i64 (t18+1),ajp))
 else
  kr (t18,decide (t18<t17),aF)
noncomputable def K0 (C:af) (t17:Int) (B4:LV) (B5 iS iT bG bU:Int) (aQ aV aS:LV):=un fun t18 aF=>FM C t17 B4 B5 iS iT bG bU aQ aV aS t18 aF (fun y=>some (Sum.inl y)) (fun r=>some (Sum.inr r))
noncomputable def YN (C:af):cN:=bL 97 Qv [EQ,EQ,EQ,EQ,EQ,H1,EQ,EQ,EQ,EQ,EQ,EQ,H1,EQ,EQ,EQ] [[1,2,3,4,5,0,0,7,8,9,10,11,12,0,14,15,16]] (@FK C) (bL 49 Qw [EQ,H1,EQ,EQ,EQ,EQ,EQ,EQ,EQ,EQ,EQ,H1] [[1,0,0,3,4,5,6,7,8,9,10,11,0]] (@FM C) bM)
theorem ajq (C:af):bD C (YN C) 23 (Lp [1,1,0,1,0,0,1,1,0,0,1,1,0,0] 23):=bN Qv [EQ,EQ,EQ,EQ,EQ,H1,EQ,EQ,EQ,EQ,EQ,EQ,H1,EQ,EQ,EQ] [[1,2,3,4,5,0,0,7,8,9,10,11,12,0,14,15,16]] (@FK C) (bA av)
theorem ajr (C:af):bD C (YN C) 23 (Lp [1,1,0,1,0,0] 23):=bN Qw [EQ,H1,EQ,EQ,EQ,EQ,EQ,EQ,EQ,EQ,EQ,H1] [[1,0,0,3,4,5,6,7,8,9,10,11,0]] (@FM C) (bA (bE (ajq C) av))
noncomputable def YO (C:af) (aT dy:Int) (bu:LV) (bw:Int):Option LV:=
 (C FJ [V.int .i64 aT,V.int .i64 dy,.list ab bu,V.int .i64 bw]).bind fun r1=>
 (Loop (K0 C (((V.nth (((r1.drop 2).drop 2).drop 1) 0).toList).length:Int) ((V.nth (r1.drop 2) 0).toList) ((V.nth ((r1.drop 2).drop 1) 0).toInt) 0 0 ((V.nth r1 0).toInt) ((V.nth (r1.drop 1) 0).toInt) ([]:LV) ([]:LV) ((V.nth ((r1.drop 2).drop 2) 0).toList)) (0,(V.nth (((r1.drop 2).drop 2).drop 1) 0).toList)).bind (un fun vo=>un fun (B6:Bool) (yW:LV)=>
  some [V.int .i64 ((V.nth r1 0).toInt),V.int .i64 0,.list ab ((V.nth (r1.drop 2) 0).toList),V.int .i64 ((V.nth ((r1.drop 2).drop 1) 0).toInt),.list ar ((V.nth ((r1.drop 2).drop 2) 0).toList),.list ag yW])
theorem ajs {aT dy:Int} {bu:LV} {bw:Int} {r:Option LV} (h:YO CC aT dy bu bw=r):CC K3 [V.int .i64 aT,V.int .i64 dy,.list ab bu,V.int .i64 bw]=r:=bO (bE (ajr CC) av) h
theorem Qx {N:List (List Nat)}:(cW N).length=N.length:=by simp[cW]
theorem ajt {N:List (List Nat)} {q:Nat} {r:List Nat} (hq:q<N.length):(cW (N.set q r))[q]? =some (.list ab (nS r)):=by simp[cW,hq]
theorem aju (t:Tp) {L m:Nat} (h1:1≤L) (h6:L≤6) (hm:1≤m) (tC:m≤50): ∃(F:List Bool) (N:List (List Nat)) (u:Tp),FN L F N∧N.length≤m∧
  CC K3 [.int .i64 (L:Int),.int .i64 (m:Int),t.L,t.K]=some [.int .i64 (L:Int),.int .i64 0,u.L,u.K,.list ar (F.map V.bool),.list ag (cW N)]:=by
 obtain ⟨F,N0,st,u,hF,hNm,cS,e0⟩:=YM t h1 h6 hm tC;obtain ⟨n,hn⟩: ∃n,n=N0.length:=⟨_,rfl⟩
 have YP:=hF.row;rw[←hn] at YP;have inner: ∀{N:List (List Nat)} {q:Nat},N.length=n→q<n→(∀r∈N,r.length=L∧∀y∈r,y<n)→∃r:List Nat,r.length=L∧(∀y∈r,y<n)∧
   Loop (FL CC (q:Int) (n:Int) (q:Int) q (L:Int) (u.l.map iV) (u.k:Int) 0 0 (L:Int) (st:Int) [] [] (F.map V.bool)) (0,cW N)=some ((L:Int),false,cW (N.set q r)):=by
  intro N q hN hq c6;have YQ:=c6 N[q] (dd (by omega));have key:=lG (step:=FL CC (q:Int) (n:Int) (q:Int) q (L:Int) (u.l.map iV) (u.k:Int) 0 0 (L:Int) (st:Int) [] [] (F.map V.bool)) (fun j x=> ∃r:List Nat,r.length=L∧(∀y∈r,y<n)∧x=((j:Int),cW (N.set q r)))
   (fun o=> ∃r:List Nat,r.length=L∧(∀y∈r,y<n)∧o=((L:Int),false,cW (N.set q r))) L 0 (0,cW N) (fun j _ hj x hx=> ?_) (fun x hx=> ?_) ⟨N[q],YQ.1,YQ.2,by rw[List.set_getElem_self];rfl⟩
  ·obtain ⟨o,e,r,a1,a2,rfl⟩:=key;exact ⟨r,a1,a2,e⟩
  ·obtain ⟨r,a1,a2,rfl⟩:=hx;have fV:j<r.length:=by omega
   have hg:=ajt (N:=N) (q:=q) (r:=r) (by omega);have yX:=qu hg;have K4:=a2 _ (dd fV);have K5:(V.list ab (nS r)).toList[((j:Int)).toNat]? =some (nV r[j]):=by rw[V.eB,Int.toNat_natCast];exact xo fV
   have hb:(decide (0≤(j:Int))&&decide ((j:Int)<((V.list ab (nS r)).toList.length:Int)))=true:=by rw[V.eB];exact oJ (by rw[dE];exact fV)
   have jm:setRow Tryz.prog (bj (V.list ab (nS r)).toList (j:Int) (V.int .i64 (if (nV r[j]).toInt>(q:Int) then (nV r[j]).toInt else (q:Int)))) ag (cW (N.set q r)) [((q:Int).toNat,0)]=cW (N.set q (r.set j (if r[j]>q then r[j] else q))):=by
    rw[Int.toNat_natCast,FO hg,V.eB];have hv:(V.int .i64 (if (nV r[j]).toInt>(q:Int) then (nV r[j]).toInt else (q:Int)))=nV (if r[j]>q then r[j] else q):=by
     show V.int .i64 (if ((r[j]:Nat):Int)>(q:Int) then ((r[j]:Nat):Int) else (q:Int))=V.int .i64 ((if r[j]>q then r[j] else q:Nat):Int);by_cases c:r[j]>q
     ·rw[aA c,aA (by omega)]
     ·rw[aw c,aw (by omega)]
    rw[hv];simp only[bj,Int.toNat_natCast,cW,List.map_set];rw[AZ];simp[nS]
   simp only[FL,FK,un];refine ⟨_,bT (bm (by omega)) (bs yX (bT hb (bs yX (bs (a:=nV r[j]) K5 ((ca hg).trans (bs (by rw[Int.toNat_natCast];exact yX) (bT hb (bs (by rw[Int.toNat_natCast];exact yX) (bs (a:=nV r[j]) K5 rfl))))))))),r.set j (if r[j]>q then r[j] else q),by rw[o4,a1],fun y hy=> ?_,?_⟩
   ·rcases D7 hy with hy|rfl
    ·exact a2 y hy
    ·split
     ·exact K4
     ·exact hq
   ·rw[br (by omega)];exact dc rfl jm
  ·obtain ⟨r,a1,a2,rfl⟩:=hx;rw[dL] at*
   simp only[FL,FK,un];exact ⟨_,bF (aZ (az _)) rfl,r,a1,a2,dc rfl (dc (aZ (az _)) rfl)⟩
 have key:=lG (step:=K0 CC (n:Int) (u.l.map iV) (u.k:Int) 0 0 (L:Int) (st:Int) [] [] (F.map V.bool)) (fun q x=> ∃N:List (List Nat),N.length=n∧(∀r∈N,r.length=L∧∀y∈r,y<n)∧x=((q:Int),cW N))
  (fun o=> ∃N:List (List Nat),N.length=n∧(∀r∈N,r.length=L∧∀y∈r,y<n)∧o=((n:Int),false,cW N)) n 0 (0,cW N0) (fun q _ hq x hx=> ?_) (fun x hx=> ?_) ⟨N0,hn.symm,YP,rfl⟩
 ·obtain ⟨o,e,N,a1,a2,rfl⟩:=key;refine ⟨F,N,u,⟨by rw[hF.len,←hn,a1],by rw[a1,hn];exact hF.pos,fun r hr=>by rw[a1];exact a2 r hr⟩,by omega,ajs ?_⟩;unfold YO;refine bs e0 ?_;have hl:((V.nth ((([V.int .i64 (L:Int),.int .i64 (st:Int),u.L,u.K,.list ar (F.map V.bool),.list ag (cW N0)].drop 2).drop 2).drop 1) 0).toList.length:Int)=(n:Int):=by show ((cW N0).length:Int)=_;rw[Qx,hn]
  rw[hl];exact bs e rfl
 ·obtain ⟨N,a1,a2,rfl⟩:=hx;have dD:q<n:=by omega
  obtain ⟨r,b1,b2,e⟩:=inner a1 dD a2;have hg:(cW N)[q]? =some (.list ab (nS N[q])):=by simp[cW,a1,dD]
  have Qy:=(a2 N[q] (dd (by omega))).1;simp only[K0,FM,un];have hlen:((V.list ab (nS N[q])).toList.length:Int)=(L:Int):=by rw[V.eB,dE,Qy]
  refine ⟨(((q+1:Nat):Int),cW (N.set q r)),bT (bm dD) ((ca hg).trans (bs (by rw[Int.toNat_natCast];exact qu hg) ?_)),N.set q r,by rw[o4,a1],fun s hs=> ?_,rfl⟩
  ·rw[hlen,Int.toNat_natCast];refine bs e ?_;rw[br (by omega)];rfl
  ·rcases D7 hs with hs|rfl
   ·exact a2 s hs
   ·exact ⟨b1,b2⟩
 ·obtain ⟨N,a1,a2,rfl⟩:=hx;rw[dL] at*
  simp only[K0,FM,un];exact ⟨_,bF (aZ (az _)) rfl,N,a1,a2,dc rfl (dc (aZ (az _)) rfl)⟩
noncomputable def FP (C:af) (aT n iS iT bG bU:Int) (aQ aV:LV) (q:Int) (bu:LV) (bw:Int) (aS aF:LV) {β:Type} (kn:(Int×LV×Int×LV×LV)→Option β) (kr:(Int×Bool×LV×Int×LV×LV)→Option β):Option β:=
 bif decide (q<n) then
  (C nD [V.int .i64 2,.list ab bu,V.int .i64 bw]).bind fun r3=>
  bif Nat.ble ((aS.length+([.bool ((((V.nth r3 0).toInt):Int)==1)]:LV).length)*1) ba then
  bif (decide (0≤aT))&&((decide (aT≤aT))&&(Nat.ble ((aT.toNat)*8) ba)) then
   bif Nat.ble ((aF.length+1)*24) ba then
   kn (wrap .i64 (q+1),(V.nth (r3.drop 1) 0).toList,(V.nth ((r3.drop 1).drop 1) 0).toInt,aS++([.bool ((((V.nth r3 0).toInt):Int)==1)]:LV),aF++([.list ab (List.replicate (aT.toNat) (V.int .i64 0))]:LV))
   else none
  else none
  else none
 else
  kr (q,decide (q<n),bu,bw,aS,aF)
noncomputable def FQ (C:af) (aT n iS iT bG bU:Int) (aQ aV:LV):=un fun q=>un fun bu=>un fun bw=>un fun aS aF=>FP C aT n iS iT bG bU aQ aV q bu bw aS aF (fun y=>some (Sum.inl y)) (fun r=>some (Sum.inr r))
noncomputable def FR (C:af) (aT n a:Int) (bu:LV) (bw iS iT bG bU:Int) (aV aS aF aU:LV) (q:Int) (lI:LV) {β:Type} (kn:(Int×LV)→Option β) (kr:(Int×Bool×LV)→Option β):Option β:=
 bif decide (q<n) then
  bif Nat.ble ((lI.length+([V.int .i64 q]:LV).length)*8) ba then
  kn (wrap .i64 (q+1),lI++([V.int .i64 q]:LV))
  else none
 else
  kr (q,decide (q<n),lI)
noncomputable def K6 (C:af) (aT n a:Int) (bu:LV) (bw iS iT bG bU:Int) (aV aS aF aU:LV):=un fun q lI=>FR C aT n a bu bw iS iT bG bU aV aS aF aU q lI (fun y=>some (Sum.inl y)) (fun r=>some (Sum.inr r))
noncomputable def FT (C:af) (aT n a iS iT bG bU:Int) (aV aS aF:LV) (q:Int) (bu:LV) (bw:Int) (lI aU:LV) {β:Type} (kn:(Int×LV×Int×LV×LV)→Option β) (kr:(Int×Bool×LV×Int×LV×LV)→Option β):Option β:=
 bif decide (q<n) then
  (C nD [V.int .i64 (lI.length:Int),.list ab bu,V.int .i64 bw]).bind fun gS=>
  aP aU q fun B7=>
  aP lI ((V.nth gS 0).toInt) fun K7=>
  (fl Tryz.prog ag aU [(q.toNat,0)]).bind fun K8=>
  bif (decide (0≤a))&&(decide (a<(K8.toList.length:Int))) then
  (fl Tryz.prog ag aU [(q.toNat,0)]).bind fun vp=>
  (vp.toList[a.toNat]?).bind fun K9=>
  bif (decide (0≤((V.nth gS 0).toInt)))&&(decide (((V.nth gS 0).toInt)≤(lI.length:Int))) then
   bif Nat.ble ((([]:LV).length+((lI.drop 0).take ((((V.nth gS 0).toInt:Int).toNat)-0)).length)*8) ba then
   bif (decide (0≤(wrap .i64 (((V.nth gS 0).toInt)+1))))&&(decide ((wrap .i64 (((V.nth gS 0).toInt)+1))≤(lI.length:Int))) then
    bif Nat.ble (((([]:LV)++((lI.drop 0).take ((((V.nth gS 0).toInt:Int).toNat)-0))).length+((lI.drop ((wrap .i64 (((V.nth gS 0).toInt)+1):Int).toNat)).take (lI.length-((wrap .i64 (((V.nth gS 0).toInt)+1):Int).toNat))).length)*8) ba then
    kn (wrap .i64 (q+1),(V.nth (gS.drop 1) 0).toList,(V.nth ((gS.drop 1).drop 1) 0).toInt,(([]:LV)++((lI.drop 0).take ((((V.nth gS 0).toInt:Int).toNat)-0)))++((lI.drop ((wrap .i64 (((V.nth gS 0).toInt)+1):Int).toNat)).take (lI.length-((wrap .i64 (((V.nth gS 0).toInt)+1):Int).toNat))),setRow Tryz.prog (bj vp.toList a (V.int .i64 K7.toInt)) ag aU [(q.toNat,0)])
    else none
   else none
   else none
  else none
  else none
 else
  kr (q,decide (q<n),bu,bw,lI,aU)
noncomputable def FU (C:af) (aT n a iS iT bG bU:Int) (aV aS aF:LV):=un fun q=>un fun bu=>un fun bw=>un fun lI aU=>FT C aT n a iS iT bG bU aV aS aF q bu bw lI aU (fun y=>some (Sum.inl y)) (fun r=>some (Sum.inr r))
noncomputable def FV (C:af) (aT n iS iT bG bU:Int) (aQ aV aS:LV) (a:Int) (bu:LV) (bw:Int) (aF:LV) {β:Type} (kn:(Int×LV×Int×LV)→Option β) (kr:(Int×Bool×LV×Int×LV)→Option β):Option β:=
 bif decide (a<aT) then
  (Loop (K6 C aT n a bu bw iS iT bG bU aQ aV aS aF) (0,([]:LV))).bind (un fun ajl=>un fun (yV:Bool) (ajv:LV)=>
   (Loop (FU C aT n a iS iT bG bU aQ aV aS) (0,bu,bw,ajv,aF)).bind (un fun ay7=>un fun (ajw:Bool)=>un fun (ajx:LV)=>un fun ajy=>un fun (ay8:LV) (vq:LV)=>
    kn (wrap .i64 (a+1),ajx,ajy,vq)))
 else
  kr (a,decide (a<aT),bu,bw,aF)
noncomputable def La (C:af) (aT n iS iT bG bU:Int) (aQ aV aS:LV):=un fun a=>un fun bu=>un fun bw aF=>FV C aT n iS iT bG bU aQ aV aS a bu bw aF (fun y=>some (Sum.inl y)) (fun r=>some (Sum.inr r))
noncomputable def Lb (C:af):cN:=bL 81 Qz [EQ,EQ,H1,H1,H1,EQ,EQ,EQ,EQ,EQ,EQ,H1,H1] [[1,2,0,0,0,0,6,7,8,9,10,11,0,0]] (@FP C) (bL 209 QA [EQ,EQ,EQ,H1,EQ,EQ,EQ,EQ,EQ,EQ,H1,EQ,EQ,EQ,EQ] [[1,2,3,0,0,5,6,7,8,9,10,0,12,13,14,15]] (@FR C) (bL 273 QB [EQ,EQ,EQ,H1,H1,H1,EQ,EQ,EQ,EQ,H1,EQ,EQ,EQ,H1] [[1,2,3,0,0,0,0,7,8,9,10,0,12,13,14,0]] (@FT C) (bL 145 QC [EQ,EQ,H1,H1,H1,EQ,EQ,EQ,EQ,EQ,EQ,EQ,H1] [[1,2,0,0,0,0,6,7,8,9,10,11,12,0]] (@FV C) bM)))
theorem ajz (C:af):bD C (Lb C) 24 (Lp [1,1,1,1,0,1,0,0] 24):=bN Qz [EQ,EQ,H1,H1,H1,EQ,EQ,EQ,EQ,EQ,EQ,H1,H1] [[1,2,0,0,0,0,6,7,8,9,10,11,0,0]] (@FP C) (bA av)
theorem ajA (C:af):bD C (Lb C) 24 (Lp [1,1,1,1,1,0,1,0,0,1,0,0,1,0,1,0,0] 24):=bN QA [EQ,EQ,EQ,H1,EQ,EQ,EQ,EQ,EQ,EQ,H1,EQ,EQ,EQ,EQ] [[1,2,3,0,0,5,6,7,8,9,10,0,12,13,14,15]] (@FR C) (bA av)
theorem ajB (C:af):bD C (Lb C) 24 (Lp [1,1,1,1,1,0,1,0,0,1,0,0,1,1,1,0,0] 24):=bN QB [EQ,EQ,EQ,H1,H1,H1,EQ,EQ,EQ,EQ,H1,EQ,EQ,EQ,H1] [[1,2,3,0,0,0,0,7,8,9,10,0,12,13,14,0]] (@FT C) (bA av)
theorem ajC (C:af):bD C (Lb C) 24 (Lp [1,1,1,1,1,0,1,0,0] 24):=bN QC [EQ,EQ,H1,H1,H1,EQ,EQ,EQ,EQ,EQ,EQ,EQ,H1] [[1,2,0,0,0,0,6,7,8,9,10,11,12,0]] (@FV C) (bA (bE (ajA C) (bE (ajB C) av)))
noncomputable def YR (C:af) (aT dy:Int) (bu:LV) (bw:Int):Option LV:=
 (C nD [V.int .i64 dy,.list ab bu,V.int .i64 bw]).bind fun r1=>
 (C nD [V.int .i64 (wrap .i64 (1+((V.nth r1 0).toInt))),.list ab ((V.nth (r1.drop 1) 0).toList),V.int .i64 ((V.nth ((r1.drop 1).drop 1) 0).toInt)]).bind fun r2=>
 (Loop (FQ C aT (wrap .i64 (1+((V.nth r1 0).toInt))) 0 0 aT ((V.nth r2 0).toInt) ([]:LV) ([]:LV)) (0,(V.nth (r2.drop 1) 0).toList,(V.nth ((r2.drop 1).drop 1) 0).toInt,([]:LV),([]:LV))).bind (un fun q_4=>un fun (lF:Bool)=>un fun (QD:LV)=>un fun Qs=>un fun (B8:LV) (yY:LV)=>
  (Loop (La C aT (wrap .i64 (1+((V.nth r1 0).toInt))) 0 0 aT ((V.nth r2 0).toInt) ([]:LV) ([]:LV) B8) (0,QD,Qs,yY)).bind (un fun ay9=>un fun (aza:Bool)=>un fun (ajD:LV)=>un fun (ajE:Int) (QE:LV)=>
   some [V.int .i64 aT,V.int .i64 ((V.nth r2 0).toInt),.list ab ajD,V.int .i64 ajE,.list ar B8,.list ag QE]))
theorem ajF {aT dy:Int} {bu:LV} {bw:Int} {r:Option LV} (h:YR CC aT dy bu bw=r):CC Lc [V.int .i64 aT,V.int .i64 dy,.list ab bu,V.int .i64 bw]=r:=bO (bE (ajz CC) (bE (ajC CC) av)) h
theorem ajG (l:List Nat) (k:Nat):((([]:LV)++((nS l).drop 0).take (k-0))++((nS l).drop (k+1)).take ((nS l).length-(k+1)))=nS (l.take k++l.drop (k+1)):=by
 have h:((nS l).drop (k+1)).take ((nS l).length-(k+1))=(nS l).drop (k+1):=List.take_of_length_le (by rw[A5];exact az _);rw[wx,Nat.sub_zero,List.nil_append,h];simp[nS,List.map_take,List.map_drop]
theorem ajH (t:Tp) {L m:Nat} (h1:1≤L) (h6:L≤6) (hm:1≤m) (tC:m≤50): ∃(F:List Bool) (N:List (List Nat)) (st:Nat) (u:Tp),FN L F N∧N.length≤m∧st<N.length∧
  CC Lc [.int .i64 (L:Int),.int .i64 (m:Int),t.L,t.K]=some [.int .i64 (L:Int),.int .i64 (st:Int),u.L,u.K,.list ar (F.map V.bool),.list ag (cW N)]:=by
 obtain ⟨v,t1,hv,e1⟩:=pG t (n:=m) hm (by omega);obtain ⟨st,t2,cS,e2⟩:=pG t1 (n:=v+1) (by omega) (by omega);obtain ⟨n,hn⟩: ∃n,n=v+1:=⟨_,rfl⟩
 rw[←hn] at cS e2;have l1: ∃(F:List Bool) (N:List (List Nat)) (u:Tp),F.length=n∧N.length=n∧(∀r∈N,r.length=L∧∀y∈r,y<n)∧
   Loop (FQ CC (L:Int) (n:Int) 0 0 (L:Int) (st:Int) [] []) (0,t2.l.map iV,(t2.k:Int),([]:LV),([]:LV))=some ((n:Int),false,u.l.map iV,(u.k:Int),F.map V.bool,cW N):=by
  have key:=lG (step:=FQ CC (L:Int) (n:Int) 0 0 (L:Int) (st:Int) [] []) (fun i x=> ∃(F:List Bool) (N:List (List Nat)) (u:Tp),F.length=i∧N.length=i∧(∀r∈N,r.length=L∧∀y∈r,y<n)∧x=((i:Int),u.l.map iV,(u.k:Int),F.map V.bool,cW N))
   (fun o=> ∃(F:List Bool) (N:List (List Nat)) (u:Tp),F.length=n∧N.length=n∧(∀r∈N,r.length=L∧∀y∈r,y<n)∧o=((n:Int),false,u.l.map iV,(u.k:Int),F.map V.bool,cW N)) n 0 (0,t2.l.map iV,(t2.k:Int),([]:LV),([]:LV)) (fun i _ hi x hx=> ?_) (fun x hx=> ?_) ⟨[],[],t2,rfl,rfl,fun _ h=>(by cases h),rfl⟩
  ·obtain ⟨o,e,F,N,u,a1,a2,a3,rfl⟩:=key;exact ⟨F,N,u,a1,a2,a3,e⟩
  ·obtain ⟨F,N,u,a1,a2,a3,rfl⟩:=hx;obtain ⟨k,u2,hk,e⟩:=pG u (n:=2) (by omega) (by omega);simp only[FQ,FP,un];refine ⟨(((i+1:Nat):Int),u2.l.map iV,(u2.k:Int),F.map V.bool++[.bool ((k:Int)==1)],cW N++[.list ab (List.replicate L (V.int .i64 0))]),bT (bm (by omega)) (bs e (bT (cap (a:=(F.map V.bool).length) (b:=1) (by rw[dH];omega) (by omega)) (bT (gD (by omega) (by omega)) (bT (cap (a:=(cW N).length) (b:=1) (by rw[Qx];omega) (by omega)) ?_)))),F++[(k:Int)==1],N++[List.replicate L 0],u2,by simp;omega,by simp;omega,fun s hs=> ?_,?_⟩
   ·rw[br (by omega),Int.toNat_natCast];rfl
   ·rcases fb.1 hs with hs|hs
    ·exact a3 s hs
    ·rw[fL.1 hs];exact ⟨by simp,fun y hy=>by rw[(List.mem_replicate.1 hy).2];omega⟩
   ·simp[cW,nS,nV]
  ·obtain ⟨F,N,u,a1,a2,a3,rfl⟩:=hx;rw[dL] at*
   simp only[FQ,FP,un];exact ⟨_,bF (aZ (az _)) rfl,F,N,u,a1,a2,a3,dc rfl (dc (aZ (az _)) rfl)⟩
 obtain ⟨F,N0,u0,f1,f2,f3,eL1⟩:=l1;have l2: ∀{x1 x2 x3 x4 x5 x6:Int} {y0 y1 y2 y3 y4:LV},Loop (K6 CC (L:Int) (n:Int) x1 y0 x2 x3 x4 x5 x6 y1 y2 y3 y4) (0,([]:LV))=some ((n:Int),false,nS (List.range n)):=by
  intro x1 x2 x3 x4 x5 x6 y0 y1 y2 y3 y4;refine fH n (fun i=>((i:Int),nS (List.range i))) _ (fun i hi=> ?_) ?_
  ·simp only[K6,FR,un];refine bT (bm hi) (bT (cap (a:=(nS (List.range i)).length) (b:=1) (by rw[dE,jw];omega) (by omega)) ?_);rw[br (by omega),D6];simp[nS,nV]
  ·simp only[K6,FR,un];refine bF (aZ (az _)) ?_;rw[aZ (az _)]
 have l3: ∀{a:Nat} (ha:a<L) {N:List (List Nat)} {w:Tp},N.length=n→(∀r∈N,r.length=L∧∀y∈r,y<n)→∃(N':List (List Nat)) (u:Tp) (l:LV),N'.length=n∧(∀r∈N',r.length=L∧∀y∈r,y<n)∧
   Loop (FU CC (L:Int) (n:Int) (a:Int) 0 0 (L:Int) (st:Int) [] [] (F.map V.bool)) (0,w.l.map iV,(w.k:Int),nS (List.range n),cW N)=some ((n:Int),false,u.l.map iV,(u.k:Int),l,cW N'):=by
  intro a ha N w hN c6;have key:=lG (step:=FU CC (L:Int) (n:Int) (a:Int) 0 0 (L:Int) (st:Int) [] [] (F.map V.bool)) (fun q x=> ∃(N':List (List Nat)) (u:Tp) (l:List Nat),N'.length=n∧(∀r∈N',r.length=L∧∀y∈r,y<n)∧l.length=n-q∧(∀y∈l,y<n)∧x=((q:Int),u.l.map iV,(u.k:Int),nS l,cW N'))
   (fun o=> ∃(N':List (List Nat)) (u:Tp) (l:LV),N'.length=n∧(∀r∈N',r.length=L∧∀y∈r,y<n)∧o=((n:Int),false,u.l.map iV,(u.k:Int),l,cW N')) n 0 (0,w.l.map iV,(w.k:Int),nS (List.range n),cW N) (fun q _ hq x hx=> ?_) (fun x hx=> ?_) ⟨N,w,List.range n,hN,c6,by simp,fun y hy=>fQ.1 hy,rfl⟩
  ·obtain ⟨o,e,N',u,l,a1,a2,rfl⟩:=key;exact ⟨N',u,l,a1,a2,e⟩
  ·obtain ⟨N',u,l,a1,a2,a3,a4,rfl⟩:=hx;have dD:q<n:=by omega
   obtain ⟨k,u2,hk,e⟩:=pG u (n:=l.length) (by omega) (by omega);have hg:(cW N')[q]? =some (.list ab (nS N'[q])):=by simp[cW,a1,dD]
   have hr:=a2 N'[q] (dd (by omega));have yX:=qu hg;have FW:=a4 _ (dd hk);have YS:a<(N'[q]).length:=by rw[hr.1];exact ha
   have K5:(V.list ab (nS N'[q])).toList[((a:Int)).toNat]? =some (nV (N'[q])[a]):=by rw[V.eB,Int.toNat_natCast];exact xo YS
   have hb:(decide (0≤(a:Int))&&decide ((a:Int)<((V.list ab (nS N'[q])).toList.length:Int)))=true:=by rw[V.eB];exact oJ (by rw[dE];exact YS)
   have hw1:wrap .i64 ((k:Int)+1)=((k+1:Nat):Int):=br (by omega);have jm:setRow Tryz.prog (bj (V.list ab (nS N'[q])).toList (a:Int) (V.int .i64 (nV l[k]).toInt)) ag (cW N') [((q:Int).toNat,0)]=cW (N'.set q ((N'[q]).set a l[k])):=by
    rw[Int.toNat_natCast,FO hg,V.eB];simp[bj,cW,List.map_set,nS,nV]
   simp only[FU,FT,un];refine ⟨(((q+1:Nat):Int),u2.l.map iV,(u2.k:Int),nS (l.take k++l.drop (k+1)),cW (N'.set q ((N'[q]).set a l[k]))),bT (bm dD) ?_,N'.set q ((N'[q]).set a l[k]),u2,l.take k++l.drop (k+1),by rw[o4,a1],fun s hs=> ?_,by rw[iA,mD,A5];omega,fun y hy=> ?_,rfl⟩
   ·rw[dE];refine bs e ((ca hg).trans ((ca (i:=k) (xo hk)).trans (bs (by rw[Int.toNat_natCast];exact yX) (bT hb (bs (by rw[Int.toNat_natCast];exact yX) (bs (a:=nV (N'[q])[a]) K5 ?_))))));have qp:(V.nth [V.int .i64 (k:Int),u2.L,u2.K] 0).toInt=(k:Int):=rfl;simp only[qp,hw1,Int.toNat_natCast];refine bT (kb.2 ⟨cg (by omega),cg (by omega)⟩) (bT (cap (a:=0) (by rw[mD];simp;omega) (by omega)) (bT (kb.2 ⟨cg (by omega),cg (by omega)⟩) (bT (cap (by rw[iA,mD,mD,A5,A5,dE];simp;omega) (by omega)) ?_)));rw[br (by omega)];have YT:=jm;rw[Int.toNat_natCast] at YT;refine congrArg (fun z=>some (Sum.inl z)) (dc rfl (dc rfl (dc rfl (dc ?_ YT))));have:=ajG l k;rw[dE] at this;exact this
   ·rcases D7 hs with hs|rfl
    ·exact a2 s hs
    ·refine ⟨by rw[o4,hr.1],fun y hy=> ?_⟩;rcases D7 hy with hy|rfl
     ·exact hr.2 y hy
     ·exact FW
   ·rcases fb.1 hy with hy|hy
    ·exact a4 y (Jm hy)
    ·exact a4 y (List.mem_of_mem_drop hy)
  ·obtain ⟨N',u,l,a1,a2,a3,a4,rfl⟩:=hx;rw[dL] at*
   simp only[FU,FT,un];exact ⟨_,bF (aZ (az _)) rfl,N',u,nS l,a1,a2,dc rfl (dc (aZ (az _)) rfl)⟩
 have key:=lG (step:=La CC (L:Int) (n:Int) 0 0 (L:Int) (st:Int) [] [] (F.map V.bool)) (fun a x=> ∃(N':List (List Nat)) (u:Tp),N'.length=n∧(∀r∈N',r.length=L∧∀y∈r,y<n)∧x=((a:Int),u.l.map iV,(u.k:Int),cW N'))
  (fun o=> ∃(N':List (List Nat)) (u:Tp),N'.length=n∧(∀r∈N',r.length=L∧∀y∈r,y<n)∧o=((L:Int),false,u.l.map iV,(u.k:Int),cW N')) L 0 (0,u0.l.map iV,(u0.k:Int),cW N0) (fun a _ ha x hx=> ?_) (fun x hx=> ?_) ⟨N0,u0,f2,f3,rfl⟩
 ·obtain ⟨o,e,N,u,a1,a2,rfl⟩:=key;refine ⟨F,N,st,u,⟨by omega,by omega,fun r hr=>by rw[a1];exact a2 r hr⟩,by omega,by omega,ajF ?_⟩;unfold YR;have hw:wrap .i64 (1+(V.nth [V.int .i64 (v:Int),t1.L,t1.K] 0).toInt)=(n:Int):=by
   show wrap .i64 (1+(v:Int))=_;rw[show (1+(v:Int))=(n:Int) by omega];exact wrap64 (by omega) (by omega)
  refine bs e1 ?_;rw[hw];exact bs e2 (bs eL1 (bs e rfl))
 ·obtain ⟨N',u,a1,a2,rfl⟩:=hx;obtain ⟨N2,u2,l,b1,b2,e⟩:=l3 (a:=a) (by omega) (w:=u) a1 a2;simp only[La,FV,un];refine ⟨_,bT (bm (by omega)) (bs l2 (bs e rfl)),N2,u2,b1,b2,?_⟩;exact dc (br (by omega)) rfl
 ·obtain ⟨N',u,a1,a2,rfl⟩:=hx;rw[dL] at*
  simp only[La,FV,un];exact ⟨_,bF (aZ (az _)) rfl,N',u,a1,a2,dc rfl (dc (aZ (az _)) rfl)⟩
noncomputable def FX (C:af) (aT:Int) (w:List UInt8) (a:Int) (v:List UInt8) (t23 t24 t51:Int) (bu:LV) (bw j7 j8 bG bU:Int) (ls rows aS aF aU bC:LV) (to t52:Int) {β:Type} (kn:(Int×Int)→Option β) (kr:(Int×Int×Bool)→Option β):Option β:=
 bif decide (t52<t51) then
  aP ls t52 fun x5=>
  bif x5.toStr==v then
  kn (t52,wrap .i64 (t52+1))
  else
  kn (to,wrap .i64 (t52+1))
 else
  kr (to,t52,decide (t52<t51))
noncomputable def FY (C:af) (aT:Int) (w:List UInt8) (a:Int) (v:List UInt8) (t23 t24 t51:Int) (bu:LV) (bw j7 j8 bG bU:Int) (ls rows aS aF aU bC:LV):=un fun to t52=>FX C aT w a v t23 t24 t51 bu bw j7 j8 bG bU ls rows aS aF aU bC to t52 (fun y=>some (Sum.inl y)) (fun r=>some (Sum.inr r))
noncomputable def yZ (C:af) (aT:Int) (w:List UInt8) (a t23 t24:Int) (bu:LV) (bw j7 j8 bG bU:Int) (ls rows aS aF aU bC:LV) (v:List UInt8) (to:Int) {β:Type} (kn:((List UInt8)×Int)→Option β) (kr:((List UInt8)×Int×Bool)→Option β):Option β:=
 bif to==(-1) then
  (Loop (FY C aT w a v t23 t24 (ls.length:Int) bu bw j7 j8 bG bU ls rows aS aF aU bC) (to,0)).bind (un fun ajI=>un fun (nu:Int) (vr:Bool)=>
   bif decide (1≤(v.length:Int)) then
   kn ((v.drop 1).take (v.length-1),ajI)
   else none)
 else
  kr (v,to,to==(-1))
noncomputable def y6 (C:af) (aT:Int) (w:List UInt8) (a t23 t24:Int) (bu:LV) (bw j7 j8 bG bU:Int) (ls rows aS aF aU bC:LV):=un fun v to=>yZ C aT w a t23 t24 bu bw j7 j8 bG bU ls rows aS aF aU bC v to (fun y=>some (Sum.inl y)) (fun r=>some (Sum.inr r))
noncomputable def FZ (C:af) (aT:Int) (w:List UInt8) (t23 t24:Int) (bu:LV) (bw j7 j8 bG bU:Int) (ls aS aF aU bC:LV) (a:Int) (rows:LV) {β:Type} (kn:(Int×LV)→Option β) (kr:(Int×Bool×LV)→Option β):Option β:=
 bif decide (a<aT) then
  bif Nat.ble (w.length+(jU ([.int .u8 (wrap .u8 (wrap .i64 (97+a)))]:LV)).length) pc then
  (Loop (y6 C aT w a t23 t24 bu bw j7 j8 bG bU ls rows aS aF aU bC) (w++(jU ([.int .u8 (wrap .u8 (wrap .i64 (97+a)))]:LV)),(-1))).bind (un fun (v_9:List UInt8)=>un fun (YU:Int) (yV:Bool)=>
   bif Nat.ble ((rows.length+([V.int .i64 YU]:LV).length)*8) ba then
    kn (wrap .i64 (a+1),rows++([V.int .i64 YU]:LV))
   else none)
  else none
 else
  kr (a,decide (a<aT),rows)
noncomputable def F0 (C:af) (aT:Int) (w:List UInt8) (t23 t24:Int) (bu:LV) (bw j7 j8 bG bU:Int) (ls aS aF aU bC:LV):=un fun a rows=>FZ C aT w t23 t24 bu bw j7 j8 bG bU ls aS aF aU bC a rows (fun y=>some (Sum.inl y)) (fun r=>some (Sum.inr r))
noncomputable def F3 (C:af) (aT t23 j7 j8 bG bU:Int) (ls aV aS:LV) (t24:Int) (bu:LV) (bw:Int) (aF aU:LV) {β:Type} (kn:(Int×LV×Int×LV×LV)→Option β) (kr:(Int×Bool×LV×Int×LV×LV)→Option β):Option β:=
 bif decide (t24<t23) then
  aP ls t24 fun x3=>
  (C nD [V.int .i64 2,.list ab bu,V.int .i64 bw]).bind fun r4=>
  bif Nat.ble ((aF.length+([.bool ((((V.nth r4 0).toInt):Int)==1)]:LV).length)*1) ba then
  (Loop (F0 C aT x3.toStr t23 t24 ((V.nth (r4.drop 1) 0).toList) ((V.nth ((r4.drop 1).drop 1) 0).toInt) j7 j8 bG bU ls aV aS (aF++([.bool ((((V.nth r4 0).toInt):Int)==1)]:LV)) aU) (0,([]:LV))).bind (un fun azb=>un fun (B9:Bool) (ajJ:LV)=>
   bif Nat.ble ((aU.length+1)*24) ba then
    kn (wrap .i64 (t24+1),(V.nth (r4.drop 1) 0).toList,(V.nth ((r4.drop 1).drop 1) 0).toInt,aF++([.bool ((((V.nth r4 0).toInt):Int)==1)]:LV),aU++([.list ab ajJ]:LV))
   else none)
  else none
 else
  kr (t24,decide (t24<t23),bu,bw,aF,aU)
noncomputable def F4 (C:af) (aT t23 j7 j8 bG bU:Int) (ls aV aS:LV):=un fun t24=>un fun bu=>un fun bw=>un fun aF aU=>F3 C aT t23 j7 j8 bG bU ls aV aS t24 bu bw aF aU (fun y=>some (Sum.inl y)) (fun r=>some (Sum.inr r))
noncomputable def Ld (C:af):cN:=bL 241 QF [EQ,EQ,EQ,EQ,H1,EQ,EQ,EQ,H1,EQ,EQ,EQ,EQ,EQ,EQ,EQ,EQ,EQ,EQ,EQ,EQ] [[1,2,3,4,0,6,7,8,0,0,10,11,12,13,14,15,16,17,18,19,20,21]] (@FX C) (bL 209 QG [EQ,EQ,EQ,H1,H1,EQ,EQ,EQ,EQ,EQ,EQ,EQ,EQ,EQ,EQ,EQ,EQ,EQ,EQ] [[1,2,3,0,0,6,7,0,8,9,10,11,12,13,14,15,16,17,18,19]] (@yZ C) (bL 145 QH [EQ,EQ,H1,EQ,EQ,EQ,EQ,EQ,EQ,EQ,EQ,EQ,H1,EQ,EQ,EQ,EQ] [[1,2,0,4,5,0,6,7,8,9,10,11,12,0,14,15,16,17]] (@FZ C) (bL 65 QI [EQ,EQ,H1,H1,H1,EQ,EQ,EQ,EQ,EQ,EQ,EQ,H1,H1] [[1,2,0,0,0,0,6,7,8,9,10,11,12,0,0]] (@F3 C) bM)))
theorem ajK (C:af):bD C (Ld C) 25 (Lp [1,1,1,0,1,0,0,1,1,0,0,1,1,1,0,1,0,0,1,0,0,1,1,0,0,0,1,0,0,1,0,0] 25):=bN QF [EQ,EQ,EQ,EQ,H1,EQ,EQ,EQ,H1,EQ,EQ,EQ,EQ,EQ,EQ,EQ,EQ,EQ,EQ,EQ,EQ] [[1,2,3,4,0,6,7,8,0,0,10,11,12,13,14,15,16,17,18,19,20,21]] (@FX C) (bA av)
theorem ajL (C:af):bD C (Ld C) 25 (Lp [1,1,1,0,1,0,0,1,1,0,0,1,1,1,0,1,0,0,1,0,0,1,1,0,0,0] 25):=bN QG [EQ,EQ,EQ,H1,H1,EQ,EQ,EQ,EQ,EQ,EQ,EQ,EQ,EQ,EQ,EQ,EQ,EQ,EQ] [[1,2,3,0,0,6,7,0,8,9,10,11,12,13,14,15,16,17,18,19]] (@yZ C) (bA (bE (ajK C) av))
theorem ajM (C:af):bD C (Ld C) 25 (Lp [1,1,1,0,1,0,0,1,1,0,0,1,1,1,0,1,0,0] 25):=bN QH [EQ,EQ,H1,EQ,EQ,EQ,EQ,EQ,EQ,EQ,EQ,EQ,H1,EQ,EQ,EQ,EQ] [[1,2,0,4,5,0,6,7,8,9,10,11,12,0,14,15,16,17]] (@FZ C) (bA (bE (ajL C) av))
theorem ajN (C:af):bD C (Ld C) 25 (Lp [1,1,1,0,1,0,0] 25):=bN QI [EQ,EQ,H1,H1,H1,EQ,EQ,EQ,EQ,EQ,EQ,EQ,H1,H1] [[1,2,0,0,0,0,6,7,8,9,10,11,12,0,0]] (@F3 C) (bA (bE (ajM C) av))
noncomputable def YV (C:af) (aT:Int) (bu:LV) (bw:Int):Option LV:=
 (C nD [V.int .i64 2,.list ab bu,V.int .i64 bw]).bind fun r1=>
 (C y7 [V.int .i64 aT,V.int .i64 (wrap .i64 (1+((V.nth r1 0).toInt)))]).bind fun r2=>
 (Loop (F4 C aT (((V.nth r2 0).toList).length:Int) 0 0 aT 0 ((V.nth r2 0).toList) ([]:LV) ([]:LV)) (0,(V.nth (r1.drop 1) 0).toList,(V.nth ((r1.drop 1).drop 1) 0).toInt,([]:LV),([]:LV))).bind (un fun B6=>un fun (xp:Bool)=>un fun (ajO:LV)=>un fun ajP=>un fun (qv:LV) (pI:LV)=>
  some [V.int .i64 aT,V.int .i64 0,.list ab ajO,V.int .i64 ajP,.list ar qv,.list ag pI])
theorem ajQ {aT:Int} {bu:LV} {bw:Int} {r:Option LV} (h:YV CC aT bu bw=r):CC Lf [V.int .i64 aT,.list ab bu,V.int .i64 bw]=r:=bO (bE (ajN CC) av) h
section
variable {ws:List (List UInt8)} (hw:ws.length≤100)
include hw
theorem YW {L a t23 t24 k x1 x2 x3 x4:Int} {w v:List UInt8} {y0 y1 y2 y3 y4 y5:LV} {to:Int} (vu:to= -1): ∃lJ:Int,(lJ= -1∧v∉ws∨∃i:Nat,i<ws.length∧lJ=(i:Int))∧
  Loop (FY CC L w a v t23 t24 (ws.length:Int) y0 k x1 x2 x3 x4 (ws.map V.str) y1 y2 y3 y4 y5) (to,0)=some (lJ,(ws.length:Int),false):=by
 subst vu;have key:=lG (step:=FY CC L w a v t23 t24 (ws.length:Int) y0 k x1 x2 x3 x4 (ws.map V.str) y1 y2 y3 y4 y5) (fun j x=> ∃lJ:Int,(lJ= -1∧v∉ws.take j∨∃i:Nat,i<ws.length∧lJ=(i:Int))∧x=(lJ,(j:Int)))
  (fun o=> ∃lJ:Int,(lJ= -1∧v∉ws∨∃i:Nat,i<ws.length∧lJ=(i:Int))∧o=(lJ,(ws.length:Int),false)) ws.length 0 ((-1:Int),0) (fun j _ hj x hx=> ?_) (fun x hx=> ?_) ⟨-1,.inl ⟨rfl,by simp⟩,rfl⟩
 ·obtain ⟨o,e,lJ,h1,rfl⟩:=key;exact ⟨lJ,h1,e⟩
 ·obtain ⟨lJ,h1,rfl⟩:=hx;have fV:j<ws.length:=by omega
  have hg:(ws.map V.str)[j]? =some (.str ws[j]):=by simp[fV]
  simp only[FY,FX,un];by_cases c:(ws[j]==v)=true
  ·exact ⟨((j:Int),((j+1:Nat):Int)),bT (bm fV) ((ca hg).trans (bT c (by rw[br (by omega)]))),(j:Int),.inr ⟨j,fV,rfl⟩,rfl⟩
  ·have c:(ws[j]==v)=false:=by simpa using c
   refine ⟨(lJ,((j+1:Nat):Int)),bT (bm fV) ((ca hg).trans (bF c (by rw[br (by omega)]))),lJ,?_,rfl⟩;rcases h1 with ⟨h1,h2⟩|h1
   ·refine .inl ⟨h1,fun hm=> ?_⟩;rw[D5 fV] at hm;rcases fb.1 hm with hm|hm
    ·exact h2 hm
    ·rw[fL.1 hm] at c;simp at c
   ·exact .inr h1
 ·obtain ⟨lJ,h1,rfl⟩:=hx;rw[dL] at*
  rw[uJ] at h1;simp only[FY,FX,un];exact ⟨_,bF (aZ (az _)) rfl,lJ,h1,dc rfl (dc rfl (aZ (az _)))⟩
theorem ajR {L a t23 t24 k x1 x2 x3 x4:Int} {w:List UInt8} {y0 y1 y2 y3 y4 y5:LV} {b:UInt8} (hb:[b]∈ws): ∀(p:List UInt8),∃(v:List UInt8) (i:Nat),i<ws.length∧
  Loop (y6 CC L w a t23 t24 y0 k x1 x2 x3 x4 (ws.map V.str) y1 y2 y3 y4 y5) (p++[b],-1)=some (v,(i:Int),false):=by
 have fin: ∀{v:List UInt8} {i:Nat},Loop (y6 CC L w a t23 t24 y0 k x1 x2 x3 x4 (ws.map V.str) y1 y2 y3 y4 y5) (v,(i:Int))=some (v,(i:Int),false):=fun {v i}=>by
  refine kg ?_;simp only[y6,yZ,un];have hf:((i:Int)==(-1))=false:=by rw[qW];omega
  exact bF hf (by rw[hf])
 intro p
 induction p with
 | nil=>
  obtain ⟨lJ,h1,e⟩:=YW hw (L:=L) (a:=a) (t23:=t23) (t24:=t24) (k:=k) (x1:=x1) (x2:=x2) (x3:=x3) (x4:=x4) (w:=w) (v:=[b]) (y0:=y0) (y1:=y1) (y2:=y2) (y3:=y3) (y4:=y4) (y5:=y5) rfl;rcases h1 with ⟨_,h1⟩|⟨i,hi,rfl⟩
  ·exact absurd hb h1
  ·refine ⟨[],i,hi,(iM (y:=([],(i:Int))) ?_).trans fin⟩;simp only[y6,yZ,un];rw[dH];refine bT rfl (bs e ?_);simp only[un];exact bT rfl rfl
 | cons c p ih=>
  obtain ⟨lJ,h1,e⟩:=YW hw (L:=L) (a:=a) (t23:=t23) (t24:=t24) (k:=k) (x1:=x1) (x2:=x2) (x3:=x3) (x4:=x4) (w:=w) (v:=c::(p++[b])) (y0:=y0) (y1:=y1) (y2:=y2) (y3:=y3) (y4:=y4) (y5:=y5) rfl;have hlen:decide (1≤(((c::(p++[b])).length:Nat):Int))=true:=cg (by simp;omega);have YX:((c::(p++[b])).drop 1).take ((c::(p++[b])).length-1)=p++[b]:=by
   show (p++[b]).take _=_;exact List.take_of_length_le (by simp)
  rcases h1 with ⟨rfl,_⟩|⟨i,hi,rfl⟩
  ·obtain ⟨v,i,hi,e2⟩:=ih;refine ⟨v,i,hi,(iM ?_).trans e2⟩;simp only[y6,yZ,un,List.cons_append];rw[dH];refine bT rfl (bs e (bT hlen ?_));rw[YX]
  ·refine ⟨p++[b],i,hi,(iM ?_).trans fin⟩;simp only[y6,yZ,un,List.cons_append];rw[dH];refine bT rfl (bs e (bT hlen ?_));rw[YX]
end
theorem ajS {ws:List (List UInt8)} (hw:ws.length≤100) (y8: ∀w∈ws,w.length≤100) {L:Nat} (hL:L≤2) (ajT: ∀a,a<L→[UInt8.ofNat (97+a)]∈ws) (t:Tp): ∃(F:List Bool) (N:List (List Nat)) (u:Tp),F.length=ws.length∧N.length=ws.length∧(∀r∈N,r.length=L∧∀y∈r,y<ws.length)∧
  Loop (F4 CC (L:Int) (ws.length:Int) 0 0 (L:Int) 0 (ws.map V.str) [] []) (0,t.l.map iV,(t.k:Int),([]:LV),([]:LV))=some ((ws.length:Int),false,u.l.map iV,(u.k:Int),F.map V.bool,cW N):=by
 have ajU: ∀a:Nat,a<L→jU ([.int .u8 (wrap .u8 (wrap .i64 (97+(a:Int))))]:LV)=[UInt8.ofNat (97+a)]:=fun a ha=>by
  rcases (by omega:a=0∨a=1) with rfl|rfl<;>rfl
 have row: ∀{w:List UInt8} (hwi:w.length≤100) {x1 x2 x3 x4 x5 x6 x7:Int} {y0 y1 y2 y3 y4:LV},∃r:List Nat,r.length=L∧(∀y∈r,y<ws.length)∧
   Loop (F0 CC (L:Int) w x1 x2 y0 x3 x4 x5 x6 x7 (ws.map V.str) y1 y2 y3 y4) (0,([]:LV))=some ((L:Int),false,nS r):=by
  intro w hwi x1 x2 x3 x4 x5 x6 x7 y0 y1 y2 y3 y4;have key:=lG (step:=F0 CC (L:Int) w x1 x2 y0 x3 x4 x5 x6 x7 (ws.map V.str) y1 y2 y3 y4) (fun a x=> ∃r:List Nat,r.length=a∧(∀y∈r,y<ws.length)∧x=((a:Int),nS r))
   (fun o=> ∃r:List Nat,r.length=L∧(∀y∈r,y<ws.length)∧o=((L:Int),false,nS r)) L 0 (0,nS []) (fun a _ ha x hx=> ?_) (fun x hx=> ?_) ⟨[],rfl,fun _ h=>(by cases h),rfl⟩
  ·obtain ⟨o,e,r,a1,a2,rfl⟩:=key;exact ⟨r,a1,a2,e⟩
  ·obtain ⟨r,a1,a2,rfl⟩:=hx;have QJ:a<L:=by omega
   obtain ⟨v,i,hi,e⟩:=ajR hw (ajT a QJ) (L:=(L:Int)) (a:=(a:Int)) (t23:=x1) (t24:=x2) (k:=x3) (x1:=x4) (x2:=x5) (x3:=x6) (x4:=x7) (w:=w) (y0:=y0) (y1:=nS r) (y2:=y1) (y3:=y2) (y4:=y3) (y5:=y4) w;simp only[F0,FZ,un];rw[ajU a QJ];refine ⟨(((a+1:Nat):Int),nS (r++[i])),bT (bm QJ) (bT (yf (by unfold pc;simp;omega)) (bs e ?_)),r++[i],by simp;omega,fun y hy=> ?_,rfl⟩
   ·simp only[un];refine bT (cap (a:=(nS r).length) (b:=1) (by rw[dE];omega) (by omega)) ?_;rw[br (by omega)];simp[nS,nV]
   ·rcases fb.1 hy with hy|hy
    ·exact a2 y hy
    ·rw[fL.1 hy];exact hi
  ·obtain ⟨r,a1,a2,rfl⟩:=hx;rw[dL] at*
   simp only[F0,FZ,un];exact ⟨_,bF (aZ (az _)) rfl,r,a1,a2,dc rfl (dc (aZ (az _)) rfl)⟩
 have key:=lG (step:=F4 CC (L:Int) (ws.length:Int) 0 0 (L:Int) 0 (ws.map V.str) [] []) (fun i x=> ∃(F:List Bool) (N:List (List Nat)) (u:Tp),F.length=i∧N.length=i∧(∀r∈N,r.length=L∧∀y∈r,y<ws.length)∧x=((i:Int),u.l.map iV,(u.k:Int),F.map V.bool,cW N))
  (fun o=> ∃(F:List Bool) (N:List (List Nat)) (u:Tp),F.length=ws.length∧N.length=ws.length∧(∀r∈N,r.length=L∧∀y∈r,y<ws.length)∧o=((ws.length:Int),false,u.l.map iV,(u.k:Int),F.map V.bool,cW N)) ws.length 0 (0,t.l.map iV,(t.k:Int),([]:LV),([]:LV)) (fun i _ hi x hx=> ?_) (fun x hx=> ?_) ⟨[],[],t,rfl,rfl,fun _ h=>(by cases h),rfl⟩
 ·obtain ⟨o,e,F,N,u,a1,a2,a3,rfl⟩:=key;exact ⟨F,N,u,a1,a2,a3,e⟩
 ·obtain ⟨F,N,u,a1,a2,a3,rfl⟩:=hx;have bS:i<ws.length:=by omega
  obtain ⟨k,u2,hk,e⟩:=pG u (n:=2) (by omega) (by omega);have hg:(ws.map V.str)[i]? =some (.str ws[i]):=by simp[bS]
  obtain ⟨r,b1,b2,er⟩:=row (y8 _ (dd bS)) (x1:=(ws.length:Int)) (x2:=(i:Int)) (x3:=(u2.k:Int)) (x4:=0) (x5:=0) (x6:=(L:Int)) (x7:=0) (y0:=u2.l.map iV) (y1:=[]) (y2:=[]) (y3:=F.map V.bool++[.bool ((k:Int)==1)]) (y4:=cW N);simp only[F4,F3,un];refine ⟨(((i+1:Nat):Int),u2.l.map iV,(u2.k:Int),F.map V.bool++[.bool ((k:Int)==1)],cW N++[.list ab (nS r)]),bT (bm bS) ((ca hg).trans (bs e (bT (cap (a:=(F.map V.bool).length) (b:=1) (by rw[dH];omega) (by omega)) (bs er ?_)))),F++[(k:Int)==1],N++[r],u2,by simp;omega,by simp;omega,fun s hs=> ?_,?_⟩
  ·simp only[un];refine bT (cap (a:=(cW N).length) (b:=1) (by rw[Qx];omega) (by omega)) ?_;rw[br (by omega)];rfl
  ·rcases fb.1 hs with hs|hs
   ·exact a3 s hs
   ·rw[fL.1 hs];exact ⟨b1,b2⟩
  ·simp[cW]
 ·obtain ⟨F,N,u,a1,a2,a3,rfl⟩:=hx;rw[dL] at*
  simp only[F4,F3,un];exact ⟨_,bF (aZ (az _)) rfl,F,N,u,a1,a2,a3,dc rfl (dc (aZ (az _)) rfl)⟩
noncomputable def Cc (C:af) (aT dy:Int) (bu:LV) (bw:Int):Option LV:=
 (C nD [V.int .i64 6,.list ab bu,V.int .i64 bw]).bind fun r1=>
 bif (((V.nth r1 0).toInt):Int)==1 then
  (C K3 [V.int .i64 aT,V.int .i64 dy,.list ab ((V.nth (r1.drop 1) 0).toList),V.int .i64 ((V.nth ((r1.drop 1).drop 1) 0).toInt)]).bind fun r2=>
  some [V.int .i64 ((V.nth r2 0).toInt),V.int .i64 ((V.nth (r2.drop 1) 0).toInt),.list ab ((V.nth (r2.drop 2) 0).toList),V.int .i64 ((V.nth ((r2.drop 2).drop 1) 0).toInt),.list ar ((V.nth ((r2.drop 2).drop 2) 0).toList),.list ag ((V.nth (((r2.drop 2).drop 2).drop 1) 0).toList)]
 else
  bif (((V.nth r1 0).toInt):Int)==2 then
  (C Lc [V.int .i64 aT,V.int .i64 (if 4<dy then 4 else dy),.list ab ((V.nth (r1.drop 1) 0).toList),V.int .i64 ((V.nth ((r1.drop 1).drop 1) 0).toInt)]).bind fun r3=>
  some [V.int .i64 ((V.nth r3 0).toInt),V.int .i64 ((V.nth (r3.drop 1) 0).toInt),.list ab ((V.nth (r3.drop 2) 0).toList),V.int .i64 ((V.nth ((r3.drop 2).drop 1) 0).toInt),.list ar ((V.nth ((r3.drop 2).drop 2) 0).toList),.list ag ((V.nth (((r3.drop 2).drop 2).drop 1) 0).toList)]
  else
  bif (((V.nth r1 0).toInt):Int)==3 then
   (C Lf [V.int .i64 aT,.list ab ((V.nth (r1.drop 1) 0).toList),V.int .i64 ((V.nth ((r1.drop 1).drop 1) 0).toInt)]).bind fun r4=>
   some [V.int .i64 ((V.nth r4 0).toInt),V.int .i64 ((V.nth (r4.drop 1) 0).toInt),.list ab ((V.nth (r4.drop 2) 0).toList),V.int .i64 ((V.nth ((r4.drop 2).drop 1) 0).toInt),.list ar ((V.nth ((r4.drop 2).drop 2) 0).toList),.list ag ((V.nth (((r4.drop 2).drop 2).drop 1) 0).toList)]
  else
   (C FJ [V.int .i64 aT,V.int .i64 dy,.list ab ((V.nth (r1.drop 1) 0).toList),V.int .i64 ((V.nth ((r1.drop 1).drop 1) 0).toInt)]).bind fun r5=>
   some [V.int .i64 ((V.nth r5 0).toInt),V.int .i64 ((V.nth (r5.drop 1) 0).toInt),.list ab ((V.nth (r5.drop 2) 0).toList),V.int .i64 ((V.nth ((r5.drop 2).drop 1) 0).toInt),.list ar ((V.nth ((r5.drop 2).drop 2) 0).toList),.list ag ((V.nth (((r5.drop 2).drop 2).drop 1) 0).toList)]
theorem ajV {aT dy:Int} {bu:LV} {bw:Int} {r:Option LV} (h:Cc CC aT dy bu bw=r):CC F5 [V.int .i64 aT,V.int .i64 dy,.list ab bu,V.int .i64 bw]=r:=bO (L:=bM) av h
noncomputable def YY (C:af) (bu:LV) (bw:Int):Option LV:=
 (C nD [V.int .i64 8,.list ab bu,V.int .i64 bw]).bind fun r1=>
 some [V.int .i64 (wrap .i64 (2-(wrap .i64 (Int.tdiv ((V.nth r1 0).toInt) 7)))),.list ab ((V.nth (r1.drop 1) 0).toList),V.int .i64 ((V.nth ((r1.drop 1).drop 1) 0).toInt)]
theorem ajW {bu:LV} {bw:Int} {r:Option LV} (h:YY CC bu bw=r):CC Lg [.list ab bu,V.int .i64 bw]=r:=bO (L:=bM) av h
noncomputable def YZ (C:af) (l:LV) (dy:Int):Option LV:=
 (C FF [.list ab l]).bind fun r1=>
 (C Lg [.list ab ((V.nth r1 0).toList),V.int .i64 ((V.nth (r1.drop 1) 0).toInt)]).bind fun r2=>
 (C F5 [V.int .i64 ((V.nth r2 0).toInt),V.int .i64 dy,.list ab ((V.nth (r2.drop 1) 0).toList),V.int .i64 ((V.nth ((r2.drop 1).drop 1) 0).toInt)]).bind fun r3=>
 some [V.int .i64 ((V.nth r3 0).toInt),V.int .i64 ((V.nth (r3.drop 1) 0).toInt),.list ar ((V.nth ((r3.drop 2).drop 2) 0).toList),.list ag ((V.nth (((r3.drop 2).drop 2).drop 1) 0).toList)]
theorem ajX {l:LV} {dy:Int} {r:Option LV} (h:YZ CC l dy=r):CC Lh [.list ab l,V.int .i64 dy]=r:=bO (L:=bM) av h
def Ce (L k:Nat):List (List UInt8):=
 if L=1 then (if k=1 then [[],[97]] else [[],[97],[97,97]])
 else (if k=1 then [[],[97],[98]] else [[],[97],[98],[97,97],[97,98],[98,97],[98,98]])
theorem ajY:CC y7 [.int .i64 1,.int .i64 1]=some [.list cz [.str [],.str [97]]]:=aH (N:=60) (n:=30) (by kernel_rfl)
theorem ajZ:CC y7 [.int .i64 1,.int .i64 2]=some [.list cz [.str [],.str [97],.str [97,97]]]:=aH (N:=60) (n:=30) (by kernel_rfl)
theorem aj0:CC y7 [.int .i64 2,.int .i64 1]=some [.list cz [.str [],.str [97],.str [98]]]:=aH (N:=60) (n:=30) (by kernel_rfl)
theorem aj1:CC y7 [.int .i64 2,.int .i64 2]=some [.list cz [.str [],.str [97],.str [98],.str [97,97],.str [97,98],.str [98,97],.str [98,98]]]:=aH (N:=60) (n:=30) (by kernel_rfl)
theorem aj2 {L k:Nat} (h1:1≤L) (h2:L≤2) (k1:1≤k) (k2:k≤2):CC y7 [.int .i64 (L:Int),.int .i64 (k:Int)]=some [.list cz ((Ce L k).map V.str)]:=by
 rcases (by omega:L=1∨L=2) with rfl|rfl<;>rcases (by omega:k=1∨k=2) with rfl|rfl
 ·exact ajY
 ·exact ajZ
 ·exact aj0
 ·exact aj1
theorem aj3 {L k:Nat} (h1:1≤L) (h2:L≤2) (k1:1≤k) (k2:k≤2):1≤(Ce L k).length∧(Ce L k).length≤7∧(∀w∈Ce L k,w.length≤100)∧∀a,a<L→[UInt8.ofNat (97+a)]∈Ce L k:=by
 rcases (by omega:L=1∨L=2) with rfl|rfl<;>rcases (by omega:k=1∨k=2) with rfl|rfl<;>decide
theorem aj4 (t:Tp) {L:Nat} (h1:1≤L) (h2:L≤2): ∃(F:List Bool) (N:List (List Nat)) (u:Tp),FN L F N∧N.length≤7∧
  CC Lf [.int .i64 (L:Int),t.L,t.K]=some [.int .i64 (L:Int),.int .i64 0,u.L,u.K,.list ar (F.map V.bool),.list ag (cW N)]:=by
 obtain ⟨v,t1,hv,e1⟩:=pG t (n:=2) (by omega) (by omega);obtain ⟨w1,w2,w3,w4⟩:=aj3 (L:=L) (k:=v+1) h1 h2 (by omega) (by omega);have hW:=aj2 (L:=L) (k:=v+1) h1 h2 (by omega) (by omega);generalize Ce L (v+1)=ws at*
 obtain ⟨F,N,u,a1,a2,a3,e⟩:=ajS (ws:=ws) (by omega) w3 h2 w4 t1;refine ⟨F,N,u,⟨by omega,by omega,fun r hr=>by rw[a2];exact a3 r hr⟩,by omega,ajQ ?_⟩;unfold YV;have hw:wrap .i64 (1+(V.nth [V.int .i64 (v:Int),t1.L,t1.K] 0).toInt)=((v+1:Nat):Int):=by
  show wrap .i64 (1+(v:Int))=_;rw[show (1+(v:Int))=((v+1:Nat):Int) by omega];exact wrap64 (by omega) (by omega)
 refine bs e1 ?_;rw[hw];refine bs hW ?_;have hl:((V.nth [V.list cz (ws.map V.str)] 0).toList.length:Int)=(ws.length:Int):=by show ((ws.map V.str).length:Int)=_;rw[dH]
 rw[hl];exact bs e rfl
theorem aj5 (t:Tp) {L m:Nat} (h1:1≤L) (h2:L≤2) (hm:1≤m) (tC:m≤4): ∃(F:List Bool) (N:List (List Nat)) (st:Nat) (u:Tp),FN L F N∧N.length≤7∧st<N.length∧
  CC F5 [.int .i64 (L:Int),.int .i64 (m:Int),t.L,t.K]=some [.int .i64 (L:Int),.int .i64 (st:Int),u.L,u.K,.list ar (F.map V.bool),.list ag (cW N)]:=by
 obtain ⟨v,t1,hv,e1⟩:=pG t (n:=6) (by omega) (by omega);have A: ∀z,Cc CC (L:Int) (m:Int) (t.l.map iV) (t.k:Int)=z→CC F5 [.int .i64 (L:Int),.int .i64 (m:Int),t.L,t.K]=z:=fun z h=>ajV h;have Cf: ∀k:Nat,v≠k→((V.nth [V.int .i64 (v:Int),t1.L,t1.K] 0).toInt==(k:Int))=false:=fun k hk=>by
  show ((v:Int)==(k:Int))=false;rw[qW];omega
 by_cases c1:v=1
 ·subst c1;obtain ⟨F,N,u,a1,a2,e⟩:=aju t1 h1 (L:=L) (m:=m) (by omega) hm (by omega);refine ⟨F,N,0,u,a1,by omega,a1.pos,A _ ?_⟩;unfold Cc;exact bs e1 (bT rfl (bs e rfl))
 by_cases c2:v=2
 ·subst c2;obtain ⟨F,N,st,u,a1,a2,a3,e⟩:=ajH t1 h1 (L:=L) (m:=m) (by omega) hm (by omega);refine ⟨F,N,st,u,a1,by omega,a3,A _ ?_⟩;unfold Cc;have Li:(if (4:Int)<(m:Int) then (4:Int) else (m:Int))=(m:Int):=aw (by omega);refine bs e1 (bF (Cf 1 (by omega)) (bT rfl ?_));rw[Li];exact bs e rfl
 by_cases c3:v=3
 ·subst c3;obtain ⟨F,N,u,a1,a2,e⟩:=aj4 t1 h1 h2;refine ⟨F,N,0,u,a1,a2,a1.pos,A _ ?_⟩;unfold Cc;exact bs e1 (bF (Cf 1 (by omega)) (bF (Cf 2 (by omega)) (bT rfl (bs e rfl))))
 ·obtain ⟨F,N,st,u,a1,a2,a3,e⟩:=YM t1 h1 (L:=L) (m:=m) (by omega) hm (by omega);refine ⟨F,N,st,u,a1,by omega,a3,A _ ?_⟩;unfold Cc;exact bs e1 (bF (Cf 1 c1) (bF (Cf 2 c2) (bF (Cf 3 c3) (bs e rfl))))
theorem aj6 (t:Tp): ∃(L:Nat) (u:Tp),1≤L∧L≤2∧CC Lg [t.L,t.K]=some [.int .i64 (L:Int),u.L,u.K]:=by
 obtain ⟨v,t1,hv,e1⟩:=pG t (n:=8) (by omega) (by omega);have key: ∀v:Nat,v<8→∃L:Nat,1≤L∧L≤2∧wrap .i64 (2-(wrap .i64 (Int.tdiv ((v:Nat):Int) 7)))=(L:Int):=fun v hv=>by
  rcases (by omega:v=0∨v=1∨v=2∨v=3∨v=4∨v=5∨v=6∨v=7) with rfl|rfl|rfl|rfl|rfl|rfl|rfl|rfl
  all_goals first|exact ⟨2,by omega,by omega,by decide⟩|exact ⟨1,by omega,by omega,by decide⟩
 obtain ⟨L,h1,h2,hL⟩:=key v hv;refine ⟨L,t1,h1,h2,ajW ?_⟩;unfold YY;refine bs e1 ?_;show some [V.int .i64 (wrap .i64 (2-(wrap .i64 (Int.tdiv ((v:Nat):Int) 7)))),_,_]=_;rw[hL];rfl
theorem aj7 (l:List Int) {m:Nat} (hm:1≤m) (tC:m≤4): ∃a:Da,a.Ok∧a.L≤2∧a.n≤7∧CC Lh [.list ab (l.map iV),.int .i64 (m:Int)]=some (fI a):=by
 obtain ⟨t,e0⟩:=YH l;obtain ⟨L,t1,h1,h2,e1⟩:=aj6 t;obtain ⟨F,N,st,u,hF,hN,hs,e2⟩:=aj5 t1 h1 h2 hm tC;have ao:=hF.ok h1 (by omega) hs (by omega);refine ⟨⟨L,st,F,N⟩,ao,h2,by show F.length≤7;rw[hF.len];exact hN,?_⟩;rw[FN.leaves ao];refine ajX ?_;unfold YZ;exact bs e0 (bs e1 (bs e2 rfl))
noncomputable def F6 (C:af) (aT n:Int) (bu:LV) (bw:Int) (sI:LV) {β:Type} (kn:(Int×LV×Int×LV)→Option β) (kr:(Int×Bool×LV×Int×LV)→Option β):Option β:=
 bif decide (n>0) then
  (C nD [V.int .i64 aT,.list ab bu,V.int .i64 bw]).bind fun r2=>
  bif Nat.ble ((sI.length+([.int .u8 (wrap .u8 (wrap .i64 (97+((V.nth r2 0).toInt))))]:LV).length)*1) ba then
  kn (wrap .i64 (n-1),(V.nth (r2.drop 1) 0).toList,(V.nth ((r2.drop 1).drop 1) 0).toInt,sI++([.int .u8 (wrap .u8 (wrap .i64 (97+((V.nth r2 0).toInt))))]:LV))
  else none
 else
  kr (n,decide (n>0),bu,bw,sI)
noncomputable def Lj (C:af) (aT:Int):=un fun n=>un fun bu=>un fun bw sI=>F6 C aT n bu bw sI (fun y=>some (Sum.inl y)) (fun r=>some (Sum.inr r))
noncomputable def aj8 (C:af):cN:=bL 49 QK [EQ,H1,H1,H1,H1] [[1,0,0,0,0,0]] (@F6 C) bM
theorem aj9 (C:af):bD C (aj8 C) 6 (Lp [1,1,0,1,0,0] 6):=bN QK [EQ,H1,H1,H1,H1] [[1,0,0,0,0,0]] (@F6 C) (bA av)
noncomputable def Y0 (C:af) (aT dy:Int) (bu:LV) (bw:Int):Option LV:=
 (C nD [V.int .i64 (wrap .i64 (dy+1)),.list ab bu,V.int .i64 bw]).bind fun r1=>
 (Loop (Lj C aT) ((V.nth r1 0).toInt,(V.nth (r1.drop 1) 0).toList,(V.nth ((r1.drop 1).drop 1) 0).toInt,([]:LV))).bind (un fun n_3=>un fun (mf:Bool)=>un fun (aka:LV)=>un fun (QD:Int) (akb:LV)=>
  some [.str (jU akb),.list ab aka,V.int .i64 QD])
theorem akc {aT dy:Int} {bu:LV} {bw:Int} {r:Option LV} (h:Y0 CC aT dy bu bw=r):CC Lk [V.int .i64 aT,V.int .i64 dy,.list ab bu,V.int .i64 bw]=r:=bO (bE (aj9 CC) av) h
def F7 (b:UInt8):V:= .int .u8 (b.toNat:Int)
theorem akd (w:List UInt8):jU (w.map F7)=w:=by
 unfold jU;rw[wB]
 conv=>rhs;rw[←List.map_id w]
 apply oB;intro b _;show UInt8.ofNat ((b.toNat:Int)).toNat=b;simp
theorem ake (t:Tp) {L m:Nat} (h1:1≤L) (h2:L≤6) (hm:m≤100): ∃(w:List UInt8) (u:Tp),oh w (L:Int)∧w.length≤m∧CC Lk [.int .i64 (L:Int),.int .i64 (m:Int),t.L,t.K]=some [.str w,u.L,u.K]:=by
 have key: ∀(n:Nat) (t:Tp) (w:List UInt8),w.length+n≤m→(∀b∈w,97≤b.toNat∧b.toNat<97+L)→∃(w':List UInt8) (u:Tp),w'.length≤w.length+n∧(∀b∈w',97≤b.toNat∧b.toNat<97+L)∧
   Loop (Lj CC (L:Int)) ((n:Int),t.l.map iV,(t.k:Int),w.map F7)=some (0,false,u.l.map iV,(u.k:Int),w'.map F7):=by
  intro n
  induction n with
  | zero=>
   intro t w hw hb;refine ⟨w,t,az _,hb,kg ?_⟩;simp only[Lj,F6,un];exact bF rfl rfl
  | succ n ih=>
   intro t w hw hb;obtain ⟨v,t1,hv,e1⟩:=pG t (n:=L) h1 (by omega);have ed:V.int .u8 (wrap .u8 (wrap .i64 (97+(v:Int))))=F7 (UInt8.ofNat (97+v)):=by
    have a1:wrap .i64 (97+(v:Int))=((97+v:Nat):Int):=by
     rw[show (97+(v:Int))=((97+v:Nat):Int) by omega];exact wrap64 (by omega) (by omega)
    have a2:wrap .u8 ((97+v:Nat):Int)=((97+v:Nat):Int):=by
     rcases (by omega:v=0∨v=1∨v=2∨v=3∨v=4∨v=5) with rfl|rfl|rfl|rfl|rfl|rfl<;>rfl
    rw[a1,a2];unfold F7;refine congrArg _ (congrArg _ ?_);rcases (by omega:v=0∨v=1∨v=2∨v=3∨v=4∨v=5) with rfl|rfl|rfl|rfl|rfl|rfl<;>rfl
   have hvb:97≤(UInt8.ofNat (97+v)).toNat∧(UInt8.ofNat (97+v)).toNat<97+L:=by
    have:(UInt8.ofNat (97+v)).toNat=97+v:=by
     rcases (by omega:v=0∨v=1∨v=2∨v=3∨v=4∨v=5) with rfl|rfl|rfl|rfl|rfl|rfl<;>rfl
    omega
   obtain ⟨w',u,g1,g2,g3⟩:=ih t1 (w++[UInt8.ofNat (97+v)]) (by simp;omega) fun b eA=>by
    rcases fb.1 eA with h|h
    ·exact hb b h
    ·rw[fL.1 h];exact hvb
   refine ⟨w',u,by simp at g1;omega,g2,(iM ?_).trans g3⟩;simp only[Lj,F6,un];refine bT (cg (by omega)) (bs e1 ?_);have qq:(V.nth [V.int .i64 (v:Int),t1.L,t1.K] 0).toInt=(v:Int):=rfl;rw[qq,ed];refine bT (by rw[gb,QL];simp;omega) ?_;have w2:wrap .i64 (((n+1:Nat):Int)-1)=(n:Int):=by
    rw[show (((n+1:Nat):Int)-1)=(n:Int) by omega];exact wrap64 (by omega) (by omega)
   rw[w2,tk];rfl
 obtain ⟨n,t1,hn,e1⟩:=pG t (n:=m+1) (by omega) (by omega);obtain ⟨w,u,g1,g2,g3⟩:=key n t1 [] (by simp;omega) fun _ h=>by cases h
 have hl:w.length≤m:=by simp at g1;omega
 refine ⟨w,u,⟨by omega,by omega,by omega,fun i hi=> ?_⟩,hl,akc ?_⟩
 ·have:=g2 w[i] (dd hi);unfold kY;rw[cE hi];omega
 ·unfold Y0;have w1:wrap .i64 ((m:Int)+1)=((m+1:Nat):Int):=br (by omega);rw[w1];refine bs e1 (bs g3 ?_);simp only[un];rw[akd];rfl
noncomputable def F8 (C:af) (a b' c:LV) (t70 t71:Int) {β:Type} (kn:Int→Option β) (kr:((Bool) ⊕ (Int×Bool))→Option β):Option β:=
 bif decide (t71<t70) then
  (idx a t71).bind fun j9=>
  bif (j9.toInt:Int)==1 then
  (idx b' t71).bind fun Cg=>
  bif (Cg.toInt:Int)==0 then
   kr (.inl false)
  else
   (idx c t71).bind fun B7=>
   bif (B7.toInt:Int)==0 then
   kr (.inl false)
   else
   kn (wrap .i64 (t71+1))
  else
  kn (wrap .i64 (t71+1))
 else
  kr (.inr (t71,decide (t71<t70)))
noncomputable def Ll (C:af) (a b' c:LV) (t70:Int):=fun t71=>F8 C a b' c t70 t71 (fun y=>some (Sum.inl y)) (fun r=>some (Sum.inr r))
noncomputable def akf (C:af):cN:=bL 209 QM [EQ,EQ,EQ,EQ,H1] [[0],[1,2,3,4,0,0]] (@F8 C) bM
theorem akg (C:af):bD C (akf C) 3 (Lp [1,1,1,1,1,1,1,1,1,1,0,1,0,0] 3):=bN QM [EQ,EQ,EQ,EQ,H1] [[0],[1,2,3,4,0,0]] (@F8 C) (bA av)
noncomputable def Y1 (C:af) (l w:LV):Option LV:=
 (C Lh [.list ab l,V.int .i64 3]).bind fun r1=>
 (C FF [.list ab w]).bind fun r2=>
 (C Lk [V.int .i64 ((V.nth r1 0).toInt),V.int .i64 4,.list ab ((V.nth r2 0).toList),V.int .i64 ((V.nth (r2.drop 1) 0).toInt)]).bind fun r3=>
 (C KT [V.int .i64 ((V.nth r1 0).toInt),V.int .i64 ((V.nth (r1.drop 1) 0).toInt),.list ar ((V.nth (r1.drop 2) 0).toList),.list ag ((V.nth ((r1.drop 2).drop 1) 0).toList),.str ((V.nth r3 0).toStr)]).bind fun r4=>
 (C KV [V.int .i64 ((V.nth r1 0).toInt),V.int .i64 ((V.nth (r1.drop 1) 0).toInt),.list ar ((V.nth (r1.drop 2) 0).toList),.list ag ((V.nth ((r1.drop 2).drop 1) 0).toList),.str ((V.nth r3 0).toStr)]).bind fun r5=>
 bif (((V.nth (r4.drop 2) 0).toInt):Int) != 0 then
  some [.bool false]
 else
  bif (((V.nth (r5.drop 2) 0).toInt):Int) != 0 then
  some [.bool false]
  else
  (C xe [V.int .i64 ((V.nth r1 0).toInt),V.int .i64 ((V.nth (r1.drop 1) 0).toInt),.list ar ((V.nth (r1.drop 2) 0).toList),.list ag ((V.nth ((r1.drop 2).drop 1) 0).toList)]).bind fun r6=>
  (C xe [V.int .i64 ((V.nth r4 0).toInt),V.int .i64 ((V.nth (r4.drop 1) 0).toInt),.list ar ((V.nth (r4.drop 3) 0).toList),.list ag ((V.nth ((r4.drop 3).drop 1) 0).toList)]).bind fun r7=>
  (C xe [V.int .i64 ((V.nth r5 0).toInt),V.int .i64 ((V.nth (r5.drop 1) 0).toInt),.list ar ((V.nth (r5.drop 3) 0).toList),.list ag ((V.nth ((r5.drop 3).drop 1) 0).toList)]).bind fun r8=>
  bif !((V.nth (r6.drop 1) 0).toBool) then
   (C y9 []).bind fun r9=>
   some [.bool ((V.nth r9 0).toBool)]
  else
   bif !((V.nth (r7.drop 1) 0).toBool) then
   (C y9 []).bind fun ff=>
   some [.bool ((V.nth ff 0).toBool)]
   else
   bif !((V.nth (r8.drop 1) 0).toBool) then
    (C y9 []).bind fun cH=>
    some [.bool ((V.nth cH 0).toBool)]
   else
    (Loop (Ll C ((V.nth r6 0).toList) ((V.nth r7 0).toList) ((V.nth r8 0).toList) (((V.nth r6 0).toList).length:Int)) 0).bind (fJ (fun (B6:Bool)=>
     some [.bool B6]) (un fun (xp:Int) (F9:Bool)=>
     (C y9 []).bind fun r18=>
     some [.bool ((V.nth r18 0).toBool)]))
theorem akh {l w:LV} {r:Option LV} (h:Y1 CC l w=r):CC QN [.list ab l,.list ab w]=r:=bO (bE (akg CC) av) h
theorem aki {L:Nat} {P Q R:List Nat→Bool} {a b c:LV} (ha:KS L P a) (hb:KS L Q b) (hc:KS L R c) (h1: ∀k,vk L P k→vk L Q k) (h2: ∀k,vk L P k→vk L R k):Loop (Ll CC a b c 16) 0=some (.inr (16,false)):=by
 refine fH 16 (fun i=>(i:Int)) _ (fun i hi=> ?_) ?_
 ·obtain ⟨n,e1,k1,_⟩:=ha.2 i hi;obtain ⟨n2,e2,_,k2⟩:=hb.2 i hi;obtain ⟨n3,e3,_,k3⟩:=hc.2 i hi;have g: ∀{l:LV} {v:V},l[i]? =some v→idx l (i:Int)=some v:=fun h=>by rw[Ch rfl];exact h
  simp only[Ll,F8];refine bT (cg (by omega)) (bs (g e1) ?_);by_cases c1:n=1
  ·have t1:=k1 c1;have f2:(n2==0)=false:=by rw[qW];exact fun e=>k2 e (h1 i t1)
   have f3:(n3==0)=false:=by rw[qW];exact fun e=>k3 e (h2 i t1)
   refine bT (by show (n==1)=true;rw[c1];rfl) (bs (g e2) (bF f2 (bs (g e3) (bF f3 ?_))));rw[br (by omega)]
  ·refine bF (by show (n==1)=false;rw[qW];exact c1) ?_;rw[br (by omega)]
 ·simp only[Ll,F8];exact bF rfl rfl
theorem agV (l w:List Int):CC QN [.list ab (l.map iV),.list ab (w.map iV)]=some [.bool true]:=by
 obtain ⟨a,ha,hL,hn,e0⟩:=aj7 l (m:=3) (by omega) (by omega);obtain ⟨t,e1⟩:=YH w;obtain ⟨wd,u,hw,_,e2⟩:=ake t (L:=a.L) (m:=4) ha.l1 ha.l6 (by omega);have hm:=qs ha;have Ga:=sG ha;have y8:WL a.L (lets wd):=hw.WL;have akj:WL (minD a).L (lets wd):=by rw[Ga];exact y8
 have jf:(minD a).n≤7:=lZ (Qk ha) hn;have eL:=ajb ha hw;have eR:=ajc ha hw;have hx:=hm.vj (hm.qt (lets wd) hm.s akj);have hy:=hm.mQ (f:=fun q=>(minD a).fin ((minD a).run q (lets wd)));have hyn:((minD a).mQ fun q=>(minD a).fin ((minD a).run q (lets wd))).n=(minD a).n:=Da.yS;have kx:=qs hx;have ky:=qs hy;have ax: ∀v,WL a.L v→(minD ((minD a).vj ((minD a).run (minD a).st (lets wd)))).acc (minD ((minD a).vj ((minD a).run (minD a).st (lets wd)))).st v=a.acc a.st (lets wd++(v++[])):=fun v hv=>by
  rw[rY,xl hx (show WL (minD a).L v by rw[Ga];exact hv),←xl ha (WL.app.2 ⟨y8,hv⟩),Da.yR];rfl
 have ay: ∀v,WL a.L v→(minD ((minD a).mQ fun q=>(minD a).fin ((minD a).run q (lets wd)))).acc (minD ((minD a).mQ fun q=>(minD a).fin ((minD a).run q (lets wd)))).st v=a.acc a.st ([]++(v++lets wd)):=fun v hv=>by
  have ko:WL (minD a).L v:=by rw[Ga];exact hv
  rw[xl hy ko];show (((minD a).mQ fun q=>(minD a).fin ((minD a).run q (lets wd))).acc (minD a).st v)=_;rw[Da.ai1 hm hm.s ko,List.nil_append,←xl ha (WL.app.2 ⟨hv,y8⟩)];show _=(minD a).fin ((minD a).run (minD a).st (v++lets wd));rw[Da.KN]
 have v0:=Ql ha (by omega);have v1:=Ql kx (by rw[QO hx];exact lZ (Qk hx) (by show (minD a).n≤32;omega));have v2:=Ql ky (by rw[QO hy];exact lZ (Qk hy) (by rw[hyn];omega));rw[show (minD ((minD a).vj ((minD a).run (minD a).st (lets wd)))).L=a.L from (sG hx).trans Ga] at v1;rw[show (minD ((minD a).mQ fun q=>(minD a).fin ((minD a).run q (lets wd)))).L=a.L from (sG hy).trans Ga] at v2;generalize minD ((minD a).vj ((minD a).run (minD a).st (lets wd)))=x at*
 generalize minD ((minD a).mQ fun q=>(minD a).fin ((minD a).run q (lets wd)))=y at*
 refine akh ?_;unfold Y1;refine bs e0 (bs e1 (bs e2 (bs eL (bs eR (bF rfl (bF rfl ?_))))));rcases v0 with p0|⟨l0,p0,q0⟩<;>rcases v1 with p1|⟨l1,p1,q1⟩<;>rcases v2 with p2|⟨l2,p2,q2⟩
 all_goals refine bs p0 (bs p1 (bs p2 ?_))
 case inr.inr.inr=>
  refine bF rfl (bF rfl (bF rfl ?_));have hl:(((V.nth [V.list ab l0,V.bool true] 0).toList.length:Nat):Int)=16:=by show (l0.length:Int)=16;rw[q0.1];rfl
  rw[hl];refine bs (aki q0 q1 q2 (fun k h=>h.quo y8 WL.nil ax) fun k h=>h.quo WL.nil y8 ay) ?_;exact bs Lm rfl
 all_goals first|exact bT rfl (bs Lm rfl)|exact bF rfl (bT rfl (bs Lm rfl))|exact bF rfl (bF rfl (bT rfl (bs Lm rfl)))
def OY (r:List Int):V:= .list ab (r.map fun n=> .int .i64 n)
theorem WJ {t:TypeId} {x:V} (hu:Tryz.prog.underlying t=some (.slice ab)) (hi:Tryz.prog.underlying ab=some (.int .i64)) (h:nE Tryz.prog t x): ∃r:List Int,x=OY r∧(r.length≤maxLen∧∀q∈r,-9223372036854775808≤q∧q≤9223372036854775807):=by
 obtain ⟨es,rfl,e1,e2⟩:=WT.akk hu (nE.one (by simp[b8,hu]) h);obtain ⟨r,rfl,hr⟩:=Y2 (f:=fun n=>V.int .i64 n) (p:=fun q=> -9223372036854775808≤q∧q≤9223372036854775807) fun y hy=>WT.ai5 hi (nE.one (by simp[b8,hi]) (e2 y hy));exact ⟨r,rfl,by simpa using e1,hr⟩
end Go.AM
