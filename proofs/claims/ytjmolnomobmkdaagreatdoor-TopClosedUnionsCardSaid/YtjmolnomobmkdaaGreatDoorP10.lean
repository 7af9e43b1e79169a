/-
  Functions of the program, lifted to plain data.
-/
import Derived.Sort.AssemblyPlain
import Derived.Test.YtjmolnomobmkdaaGreatDoorP9
set_option linter.unusedVariables false
set_option linter.unusedSimpArgs false
set_option linter.unusedSectionVars false
set_option maxRecDepth 100000
namespace Go.AM
open Go.IntKind (wrap)
open Go.Proofs
theorem Yp:CC mq (cS eS)=some [.int .i64 0]:=aG (N:=60) (n:=30) (by kernel_rfl)
theorem aih:CC fO [.int .i64 eS.l0,.int .i64 eS.l1,.list ai eS.l2]=some [.list bG (eS.p.map cg)]:=aG (N:=60) (n:=30) (by kernel_rfl)
theorem aii:CC fO [.int .i64 eS.r0,.int .i64 eS.r1,.list ai eS.r2]=some [.list bG (eS.q.map cg)]:=aG (N:=60) (n:=30) (by kernel_rfl)
theorem aij:CC gE ([.int .i64 eS.l0,.int .i64 eS.l1,.list ai eS.l2,.int .i64 0,.int .i64 0,.list ai []]++cU (fun _=>false) (fun _=>false))=some (cU eS.o1 eS.e1):=aG (N:=60) (n:=30) (by kernel_rfl)
theorem aik:CC gE ([.int .i64 eS.r0,.int .i64 eS.r1,.list ai eS.r2,.int .i64 0,.int .i64 0,.list ai []]++cU eS.o1 eS.e1)=some (cU eS.bC eS.bD):=aG (N:=60) (n:=30) (by kernel_rfl)
theorem ail:CC nH [.list ai [.agg [.int .i64 eS.l0,.int .i64 eS.l1,.list ai eS.l2],.agg [.int .i64 eS.r0,.int .i64 eS.r1,.list ai eS.r2]]]=some [.int .i64 (eS.nv:Int)]:=aG (N:=60) (n:=30) (by kernel_rfl)
theorem aim:CC gk [.str zt,.int .i64 0]=some [.int .i64 eS.l0,.int .i64 eS.l1,.list ai eS.l2,.bool true,.str zt,.int .i64 42]:=aG (N:=60) (n:=30) (by kernel_rfl)
theorem ain:CC nJ [.int .u8 61,.str zt,.int .i64 42]=some [.bool true,.str zt,.int .i64 43]:=aG (N:=60) (n:=30) (by kernel_rfl)
theorem aio:CC gk [.str zt,.int .i64 43]=some [.int .i64 eS.r0,.int .i64 eS.r1,.list ai eS.r2,.bool true,.str zt,.int .i64 74]:=aG (N:=60) (n:=30) (by kernel_rfl)
theorem aip:nc eS:=⟨Yp,aih,aii,aij,aik,ail,by decide,by unfold fp;decide,by unfold fp;decide,by decide,by decide,by decide,by decide⟩
theorem aiq:nf zt eS:=p6 (by decide) aim ain aio (by decide) Yp
theorem td:CC Cr [.str []]=some [.int .i64 0,.int .i64 0,.list ai [],.int .i64 0,.int .i64 0,.list ai [],.int .i64 0,.int .i64 2]:=aG (N:=60) (n:=30) (by kernel_rfl)
theorem air:CC Cs []=some [.list FD K7]:=aG (N:=60) (n:=30) (by kernel_rfl)
theorem ais:CC jL [.str [116,114,105,118,105,97,108],.bool true,.int .i64 1,.int .i64 0,.str [120,32,61,32,49],.str []]=some [.str [116,114,105,118,105,97,108],.bool true,.int .i64 1,.int .i64 0,.list iU ([eT].map fun d=> .agg (cS d))]:=te ait td
theorem aiu:CC jL [.str [99,111,109,109,117,116,97,116,105,118,101],.bool true,.int .i64 4,.int .i64 0,.str [120,121,32,61,32,121,120],.str []]=some [.str [99,111,109,109,117,116,97,116,105,118,101],.bool true,.int .i64 4,.int .i64 0,.list iU ([dt].map fun d=> .agg (cS d))]:=te K8 td
theorem aiv:CC jL [.str [99,111,109,109,117,116,97,116,105,118,101,45,97,112,101,114,105,111,100,105,99],.bool true,.int .i64 4,.int .i64 0,.str [120,121,32,61,32,121,120],.str [120,94,40,119,43,49,41,32,61,32,120,94,119]]=some [.str [99,111,109,109,117,116,97,116,105,118,101,45,97,112,101,114,105,111,100,105,99],.bool true,.int .i64 4,.int .i64 0,.list iU ([dt,aH].map fun d=> .agg (cS d))]:=Ct K8 Yq
theorem aiw:CC jL [.str [97,98,101,108,105,97,110],.bool true,.int .i64 4,.int .i64 0,.str [120,121,32,61,32,121,120],.str [120,94,119,32,61,32,49]]=some [.str [97,98,101,108,105,97,110],.bool true,.int .i64 4,.int .i64 0,.list iU ([dt,dP].map fun d=> .agg (cS d))]:=Ct K8 Yr
theorem aix:CC jL [.str [115,101,109,105,108,97,116,116,105,99,101],.bool true,.int .i64 2,.int .i64 6,.str [120,121,32,61,32,121,120],.str [120,120,32,61,32,120]]=some [.str [115,101,109,105,108,97,116,116,105,99,101],.bool true,.int .i64 2,.int .i64 6,.list iU ([dt,eU].map fun d=> .agg (cS d))]:=Ct K8 aiy
theorem aiz:CC jL [.str [97,112,101,114,105,111,100,105,99],.bool true,.int .i64 1,.int .i64 0,.str [120,94,40,119,43,49,41,32,61,32,120,94,119],.str []]=some [.str [97,112,101,114,105,111,100,105,99],.bool true,.int .i64 1,.int .i64 0,.list iU ([aH].map fun d=> .agg (cS d))]:=te Yq td
theorem aiA:CC jL [.str [103,114,111,117,112],.bool true,.int .i64 5,.int .i64 0,.str [120,94,119,32,61,32,49],.str []]=some [.str [103,114,111,117,112],.bool true,.int .i64 5,.int .i64 0,.list iU ([dP].map fun d=> .agg (cS d))]:=te Yr td
theorem aiB:CC jL [.str [106,45,116,114,105,118,105,97,108],.bool true,.int .i64 2,.int .i64 6,.str [40,120,121,41,94,119,120,32,61,32,40,120,121,41,94,119],.str [121,40,120,121,41,94,119,32,61,32,40,120,121,41,94,119]]=some [.str [106,45,116,114,105,118,105,97,108],.bool true,.int .i64 2,.int .i64 6,.list iU ([ep,et].map fun d=> .agg (cS d))]:=Ct Ys Yt
theorem aiC:CC jL [.str [114,45,116,114,105,118,105,97,108],.bool true,.int .i64 3,.int .i64 1,.str [40,120,121,41,94,119,120,32,61,32,40,120,121,41,94,119],.str []]=some [.str [114,45,116,114,105,118,105,97,108],.bool true,.int .i64 3,.int .i64 1,.list iU ([ep].map fun d=> .agg (cS d))]:=te Ys td
theorem aiD:CC jL [.str [108,45,116,114,105,118,105,97,108],.bool true,.int .i64 3,.int .i64 2,.str [121,40,120,121,41,94,119,32,61,32,40,120,121,41,94,119],.str []]=some [.str [108,45,116,114,105,118,105,97,108],.bool true,.int .i64 3,.int .i64 2,.list iU ([et].map fun d=> .agg (cS d))]:=te Yt td
theorem aiE:CC jL [.str [100,97],.bool true,.int .i64 3,.int .i64 3,.str [40,120,121,41,94,119,120,40,120,121,41,94,119,32,61,32,40,120,121,41,94,119],.str []]=some [.str [100,97],.bool true,.int .i64 3,.int .i64 3,.list iU ([eV].map fun d=> .agg (cS d))]:=te aiF td
theorem aiG:CC jL [.str [102,105,110,105,116,101,45,111,114,45,99,111,102,105,110,105,116,101],.bool false,.int .i64 2,.int .i64 1,.str [120,94,119,121,32,61,32,120,94,119],.str [121,120,94,119,32,61,32,120,94,119]]=some [.str [102,105,110,105,116,101,45,111,114,45,99,111,102,105,110,105,116,101],.bool false,.int .i64 2,.int .i64 1,.list iU ([eu,ew].map fun d=> .agg (cS d))]:=Ct Yu Yv
theorem aiH:CC jL [.str [100,101,102,105,110,105,116,101],.bool false,.int .i64 2,.int .i64 3,.str [121,120,94,119,32,61,32,120,94,119],.str []]=some [.str [100,101,102,105,110,105,116,101],.bool false,.int .i64 2,.int .i64 3,.list iU ([ew].map fun d=> .agg (cS d))]:=te Yv td
theorem aiI:CC jL [.str [114,101,118,101,114,115,101,45,100,101,102,105,110,105,116,101],.bool false,.int .i64 2,.int .i64 2,.str [120,94,119,121,32,61,32,120,94,119],.str []]=some [.str [114,101,118,101,114,115,101,45,100,101,102,105,110,105,116,101],.bool false,.int .i64 2,.int .i64 2,.list iU ([eu].map fun d=> .agg (cS d))]:=te Yu td
theorem aiJ:CC jL [.str [103,101,110,101,114,97,108,105,115,101,100,45,100,101,102,105,110,105,116,101],.bool false,.int .i64 2,.int .i64 4,.str [120,94,119,121,120,94,119,32,61,32,120,94,119],.str []]=some [.str [103,101,110,101,114,97,108,105,115,101,100,45,100,101,102,105,110,105,116,101],.bool false,.int .i64 2,.int .i64 4,.list iU ([eW].map fun d=> .agg (cS d))]:=te aiK td
theorem aiL:CC jL [.str [108,111,99,97,108,108,121,45,116,101,115,116,97,98,108,101],.bool false,.int .i64 2,.int .i64 5,.str [120,94,119,121,120,94,119,121,120,94,119,32,61,32,120,94,119,121,120,94,119],.str [120,94,119,121,120,94,119,122,120,94,119,32,61,32,120,94,119,122,120,94,119,121,120,94,119]]=some [.str [108,111,99,97,108,108,121,45,116,101,115,116,97,98,108,101],.bool false,.int .i64 2,.int .i64 5,.list iU ([eX,eY].map fun d=> .agg (cS d))]:=Ct aiM aiN
theorem aiO:CC jL [.str [100,111,116,45,100,101,112,116,104,45,111,110,101],.bool false,.int .i64 2,.int .i64 7,.str [40,120,94,119,122,121,94,119,117,120,94,119,41,94,119,120,94,119,122,121,94,119,116,120,94,119,40,120,94,119,118,121,94,119,116,120,94,119,41,94,119,32,61,32,40,120,94,119,122,121,94,119,117,120,94,119,41,94,119,40,120,94,119,118,121,94,119,116,120,94,119,41,94,119],.str []]=some [.str [100,111,116,45,100,101,112,116,104,45,111,110,101],.bool false,.int .i64 2,.int .i64 7,.list iU ([eS].map fun d=> .agg (cS d))]:=te aiq td
theorem Yw:FE K7 QK where
 xU:=air
 len:=rfl
 cls:=fun c hc=>by
  rcases (by omega:c=0∨c=1∨c=2∨c=3∨c=4∨c=5∨c=6∨c=7∨c=8∨c=9∨c=10∨c=11∨c=12∨c=13∨c=14∨c=15∨c=16) with rfl|rfl|rfl|rfl|rfl|rfl|rfl|rfl|rfl|rfl|rfl|rfl|rfl|rfl|rfl|rfl|rfl
  ·exact ⟨_,rfl,_,_,_,_,ais⟩
  ·exact ⟨_,rfl,_,_,_,_,aiu⟩
  ·exact ⟨_,rfl,_,_,_,_,aiv⟩
  ·exact ⟨_,rfl,_,_,_,_,aiw⟩
  ·exact ⟨_,rfl,_,_,_,_,aix⟩
  ·exact ⟨_,rfl,_,_,_,_,aiz⟩
  ·exact ⟨_,rfl,_,_,_,_,aiA⟩
  ·exact ⟨_,rfl,_,_,_,_,aiB⟩
  ·exact ⟨_,rfl,_,_,_,_,aiC⟩
  ·exact ⟨_,rfl,_,_,_,_,aiD⟩
  ·exact ⟨_,rfl,_,_,_,_,aiE⟩
  ·exact ⟨_,rfl,_,_,_,_,aiG⟩
  ·exact ⟨_,rfl,_,_,_,_,aiH⟩
  ·exact ⟨_,rfl,_,_,_,_,aiI⟩
  ·exact ⟨_,rfl,_,_,_,_,aiJ⟩
  ·exact ⟨_,rfl,_,_,_,_,aiL⟩
  ·exact ⟨_,rfl,_,_,_,_,aiO⟩
 ok:=fun c hc=>by
  rcases (by omega:c=0∨c=1∨c=2∨c=3∨c=4∨c=5∨c=6∨c=7∨c=8∨c=9∨c=10∨c=11∨c=12∨c=13∨c=14∨c=15∨c=16) with rfl|rfl|rfl|rfl|rfl|rfl|rfl|rfl|rfl|rfl|rfl|rfl|rfl|rfl|rfl|rfl|rfl
  ·intro d hd;have hd:d∈[eT]:=hd;simp only[fl,mO,ny] at hd;subst hd;exact aiP
  ·intro d hd;have hd:d∈[dt]:=hd;simp only[fl,mO,ny] at hd;subst hd;exact K9
  ·intro d hd;have hd:d∈[dt,aH]:=hd;simp only[fl,mO,ny] at hd;rcases hd with rfl|rfl
   ·exact K9
   ·exact Yx
  ·intro d hd;have hd:d∈[dt,dP]:=hd;simp only[fl,mO,ny] at hd;rcases hd with rfl|rfl
   ·exact K9
   ·exact Yy
  ·intro d hd;have hd:d∈[dt,eU]:=hd;simp only[fl,mO,ny] at hd;rcases hd with rfl|rfl
   ·exact K9
   ·exact aiQ
  ·intro d hd;have hd:d∈[aH]:=hd;simp only[fl,mO,ny] at hd;subst hd;exact Yx
  ·intro d hd;have hd:d∈[dP]:=hd;simp only[fl,mO,ny] at hd;subst hd;exact Yy
  ·intro d hd;have hd:d∈[ep,et]:=hd;simp only[fl,mO,ny] at hd;rcases hd with rfl|rfl
   ·exact Yz
   ·exact YA
  ·intro d hd;have hd:d∈[ep]:=hd;simp only[fl,mO,ny] at hd;subst hd;exact Yz
  ·intro d hd;have hd:d∈[et]:=hd;simp only[fl,mO,ny] at hd;subst hd;exact YA
  ·intro d hd;have hd:d∈[eV]:=hd;simp only[fl,mO,ny] at hd;subst hd;exact aiR
  ·intro d hd;have hd:d∈[eu,ew]:=hd;simp only[fl,mO,ny] at hd;rcases hd with rfl|rfl
   ·exact YB
   ·exact YC
  ·intro d hd;have hd:d∈[ew]:=hd;simp only[fl,mO,ny] at hd;subst hd;exact YC
  ·intro d hd;have hd:d∈[eu]:=hd;simp only[fl,mO,ny] at hd;subst hd;exact YB
  ·intro d hd;have hd:d∈[eW]:=hd;simp only[fl,mO,ny] at hd;subst hd;exact aiS
  ·intro d hd;have hd:d∈[eX,eY]:=hd;simp only[fl,mO,ny] at hd;rcases hd with rfl|rfl
   ·exact aiT
   ·exact aiU
  ·intro d hd;have hd:d∈[eS]:=hd;simp only[fl,mO,ny] at hd;subst hd;exact aip
 il:=fun c hc=>by
  rcases (by omega:c=0∨c=1∨c=2∨c=3∨c=4∨c=5∨c=6∨c=7∨c=8∨c=9∨c=10∨c=11∨c=12∨c=13∨c=14∨c=15∨c=16) with rfl|rfl|rfl|rfl|rfl|rfl|rfl|rfl|rfl|rfl|rfl|rfl|rfl|rfl|rfl|rfl|rfl<;>decide
noncomputable def FF (C:af) (t5:Int) (QL:LV) (t6:Int) (dS:LV) {β:Type} (kn:(Int×LV)→Option β) (kr:(Int×Bool×LV)→Option β):Option β:=
 bif decide (t6<t5) then
  aM QL t6 fun x2=>
  (C jL [.str ((x2.cell 0).toStr),.bool ((x2.cell 1).toBool),V.int .i64 ((x2.cell 2).toInt),V.int .i64 ((x2.cell 3).toInt),.str ((x2.cell 4).toStr),.str ((x2.cell 5).toStr)]).bind fun r3=>
  bif Nat.ble ((dS.length+([.agg [.str ((V.nth r3 0).toStr),.bool ((V.nth (r3.drop 1) 0).toBool),.list iU ((V.nth (r3.drop 4) 0).toList),V.int .i64 ((V.nth ((r3.drop 1).drop 1) 0).toInt),V.int .i64 ((V.nth (((r3.drop 1).drop 1).drop 1) 0).toInt)]]:LV).length)*64) aY then
  kn (wrap .i64 (t6+1),dS++([.agg [.str ((V.nth r3 0).toStr),.bool ((V.nth (r3.drop 1) 0).toBool),.list iU ((V.nth (r3.drop 4) 0).toList),V.int .i64 ((V.nth ((r3.drop 1).drop 1) 0).toInt),V.int .i64 ((V.nth (((r3.drop 1).drop 1).drop 1) 0).toInt)]]:LV))
  else none
 else
  kr (t6,decide (t6<t5),dS)
noncomputable def La (C:af) (t5:Int) (QL:LV):=un fun t6 dS=>FF C t5 QL t6 dS (fun y=>some (Sum.inl y)) (fun r=>some (Sum.inr r))
noncomputable def aiV (C:af):cL:=bR 49 QM [EQ,H1,H1,EQ] [[1,0,0,0,4]] (@FF C) bH
theorem aiW (C:af):bA C (aiV C) 32 (Lp [1,1,0,1,0,0] 32):=bS QM [EQ,H1,H1,EQ] [[1,0,0,0,4]] (@FF C) (bu av)
noncomputable def YD (C:af):Option LV:=
 (C Cs []).bind fun r1=>
 (Loop (La C (((V.nth r1 0).toList).length:Int) ((V.nth r1 0).toList)) (0,([]:LV))).bind (un fun nK=>un fun (mr:Bool) (aiX:LV)=>
  some [.list FG aiX])
theorem aiY {r:Option LV} (h:YD CC=r):CC Lb []=r:=bI (bB (aiW CC) av) h
noncomputable def aiZ (C:af) (eg:Int):Option LV:=
 bif decide (eg≥1) then
  some [.bool (decide (eg≤1048576))]
 else
  some [.bool false]
theorem YE {eg:Int} {r:Option LV} (h:aiZ CC eg=r):CC FH [V.int .i64 eg]=r:=bI (L:=bH) av h
noncomputable def FI (C:af) (eg t33 iD:Int) (dx mu la mw my:LV) (t34:Int) (vX:LV) {β:Type} (kn:(Int×LV)→Option β) (kr:(Int×Bool×LV)→Option β):Option β:=
 bif decide (t34<t33) then
  (C FJ [V.int .i64 iD,.list ag dx,.list cv mu,.list ab la,.list ak mw,.list ak my,V.int .i64 t34,V.int .i64 eg]).bind fun r5=>
  bif (((V.nth (((r5.drop 1).drop 1).drop 1) 0).toInt):Int) != 0 then
  bif Nat.ble ((vX.length+([V.int .i64 (wrap .i64 (0-((V.nth (((r5.drop 1).drop 1).drop 1) 0).toInt)))]:LV).length)*8) aY then
   kn (wrap .i64 (t34+1),vX++([V.int .i64 (wrap .i64 (0-((V.nth (((r5.drop 1).drop 1).drop 1) 0).toInt)))]:LV))
  else none
  else
  bif (V.nth r5 0).toBool then
   bif Nat.ble ((vX.length+([V.int .i64 1]:LV).length)*8) aY then
   kn (wrap .i64 (t34+1),vX++([V.int .i64 1]:LV))
   else none
  else
   bif Nat.ble ((vX.length+([V.int .i64 0]:LV).length)*8) aY then
   kn (wrap .i64 (t34+1),vX++([V.int .i64 0]:LV))
   else none
 else
  kr (t34,decide (t34<t33),vX)
noncomputable def Lc (C:af) (eg t33 iD:Int) (dx mu la mw my:LV):=un fun t34 vX=>FI C eg t33 iD dx mu la mw my t34 vX (fun y=>some (Sum.inl y)) (fun r=>some (Sum.inr r))
noncomputable def ai0 (C:af):cL:=bR 177 QN [EQ,EQ,H1,EQ,EQ,EQ,EQ,EQ,EQ,H1] [[1,2,0,0,4,5,6,7,8,9,0]] (@FI C) bH
theorem ai1 (C:af):bA C (ai0 C) 18 (Lp [1,1,1,1,1,1,0,1,0,0] 18):=bS QN [EQ,EQ,H1,EQ,EQ,EQ,EQ,EQ,EQ,H1] [[1,2,0,0,4,5,6,7,8,9,0]] (@FI C) (bu av)
noncomputable def Cu (C:af) (dy dH:Int) (c6 dI:LV) (eg:Int):Option LV:=
 (C qS [V.int .i64 dy,V.int .i64 dH,.list ak c6,.list ag dI]).bind fun r1=>
 bif (((V.nth r1 0).toInt):Int) != 0 then
  some [V.int .i64 ((V.nth r1 0).toInt),.list ab ([]:LV)]
 else
  (C FH [V.int .i64 eg]).bind fun r2=>
  bif !((V.nth r2 0).toBool) then
  some [V.int .i64 1,.list ab ([]:LV)]
  else
  (C o4 [V.int .i64 dy,V.int .i64 dH,.list ak c6,.list ag dI]).bind fun r3=>
  bif (((V.nth (r3.drop 6) 0).toInt):Int) != 0 then
   some [V.int .i64 ((V.nth (r3.drop 6) 0).toInt),.list ab ([]:LV)]
  else
   (C Lb []).bind fun r4=>
   (Loop (Lc C eg (((V.nth r4 0).toList).length:Int) ((V.nth r3 0).toInt) ((V.nth (r3.drop 1) 0).toList) ((V.nth ((r3.drop 1).drop 1) 0).toList) ((V.nth (((r3.drop 1).drop 1).drop 1) 0).toList) ((V.nth ((((r3.drop 1).drop 1).drop 1).drop 1) 0).toList) ((V.nth (((((r3.drop 1).drop 1).drop 1).drop 1).drop 1) 0).toList)) (0,([]:LV))).bind (un fun j5=>un fun (oD:Bool) (ai2:LV)=>
    some [V.int .i64 0,.list ab ai2])
theorem YF {dy dH:Int} {c6 dI:LV} {eg:Int} {r:Option LV} (h:Cu CC dy dH c6 dI eg=r):CC zu [V.int .i64 dy,V.int .i64 dH,.list ak c6,.list ag dI,V.int .i64 eg]=r:=bI (bB (ai1 CC) av) h
noncomputable def Cv (C:af) (dy dH:Int) (c6 dI:LV):Option LV:=
 (C zu [V.int .i64 dy,V.int .i64 dH,.list ak c6,.list ag dI,V.int .i64 3000]).bind fun r1=>
 bif (((V.nth r1 0).toInt):Int) != 0 then
  some [.list ab ([]:LV),.bool false]
 else
  bif ((((V.nth (r1.drop 1) 0).toList).length:Int):Int) != 17 then
  some [.list ab ([]:LV),.bool false]
  else
  bif decide (16≤(((V.nth (r1.drop 1) 0).toList).length:Int)) then
   some [.list ab ((((V.nth (r1.drop 1) 0).toList).drop 0).take (16-0)),.bool true]
  else none
theorem YG {dy dH:Int} {c6 dI:LV} {r:Option LV} (h:Cv CC dy dH c6 dI=r):CC qT [V.int .i64 dy,V.int .i64 dH,.list ak c6,.list ag dI]=r:=bI (L:=bH) av h
section
variable {rows:LV} {jM:Nat→List gF} (hC:FE rows jM)
include hC
theorem ai3: ∃l:LV,l.length=17∧CC Lb []=some [.list FG l]:=by
 have hl:=hC.len;have key:=lN (step:=La CC (rows.length:Int) rows) (fun i y=> ∃l:LV,y=((i:Int),l)∧l.length=i) (fun r=> ∃l:LV,l.length=17∧r=((rows.length:Int),false,l)) 17 0 (0,([]:LV)) (fun i _ hi y hy=> ?_) (fun y hy=> ?_) ⟨[],rfl,rfl⟩
 ·obtain ⟨r,e,l,h1,rfl⟩:=key;refine ⟨l,h1,aiY ?_⟩;unfold YD;exact bs hC.xU (bs e rfl)
 ·obtain ⟨l,rfl,h1⟩:=hy;obtain ⟨x,hx,a,b,e,f,lb⟩:=hC.cls i (by omega);simp only[La,FF,un];exact ⟨_,bT (bn (by omega)) ((b7 hx).trans (bs lb (bT (cap (a:=l.length) (b:=1) (by omega) (by omega)) rfl))),_,cI (bq (by omega)) rfl,by rw[hY,h1];rfl⟩
 ·obtain ⟨l,rfl,h1⟩:=hy;simp only[La,FF,un];rw[hl];exact ⟨_,bF rfl rfl,l,by omega,rfl⟩
end
def Ld:Nat→Nat
 | 0=>1
 | n+1=>(n+1)*Ld n
theorem YH: ∀n,0<Ld n
 | 0=>Nat.one_pos
 | n+1=>Nat.mul_pos (Nat.succ_pos n) (YH n)
theorem QO {p:Nat} (h1:1≤p): ∀n,p≤n→p ∣ Ld n
 | 0,h=>by omega
 | n+1,h=>by
  by_cases c:p=n+1
  ·subst c;exact Nat.dvd_mul_right _ _
  ·exact Nat.dvd_trans (QO h1 n (by omega)) (Nat.dvd_mul_left _ _)
theorem QP: ∃N,400<N∧∀p,1≤p→p≤400→p ∣ N:=
 ⟨Ld 401,oq (Nat.lt_succ_self 400) (Nat.le_of_dvd (YH 401) (QO (by omega) 401 (aw _))),fun _ h1 h2=>QO h1 401 (by omega)⟩
noncomputable def eN:Nat:=Classical.choose QP
theorem YI:400<eN:=(EJ QP).1
theorem ai4 {p:Nat} (h1:1≤p) (h2:p≤400):p ∣ eN:=(EJ QP).2 p h1 h2
theorem ai5 {K:Nat} {f:Nat→Nat} (h: ∀i,f i<K): ∃i j,i<j∧j≤K∧f i=f j:=by
 refine Classical.byContradiction fun hn=> ?_;have bp: ∀i j,i<j→j≤K→f i≠f j:=fun i j zw hj e=>hn ⟨i,j,zw,hj,e⟩;have hd:((List.range (K+1)).map f).Nodup:=by
  refine List.pairwise_map.2 (List.nodup_range.imp_of_mem fun {a b} ha hb xQ e=> ?_);have ha:=fK.1 ha;have hb:=fK.1 hb;rcases Nat.lt_or_gt_of_ne xQ with c|c
  ·exact bp a b c (by omega) e
  ·exact bp b a c (by omega) e.symm
 have:=yV (l₂:=List.range K) hd fun x hx=>by
  obtain ⟨i,_,rfl⟩:=ia.1 hx;exact fK.2 (h i)
 simp at this;omega
section
variable {K:Nat} {mul:Nat→Nat→Nat} (h:Tb K mul) (ha: ∀i j k,i<K→j<K→k<K→mul (mul i j) k=mul i (mul j k)) {x:Nat} (hx:x<K)
include h hx ha
theorem YJ:mul (pw mul x (eN-1)) (pw mul x (eN-1))=pw mul x (eN-1):=by
 have h4:=h.k4;have hN:=YI;obtain ⟨i,j,zw,hj,e⟩:=ai5 (vY h hx);have step: ∀n,pw mul x (i+n)=pw mul x (j+n):=fun n=>by
  induction n with
  | zero=>exact e
  | succ n ih=>exact congrArg (fun y=>mul y x) ih
 have QQ: ∀c m,i≤m→pw mul x (m+(j-i)*c)=pw mul x m:=fun c=>by
  induction c with
  | zero=>intro m _;rw[Nat.mul_zero,Nat.add_zero]
  | succ c ih=>
   intro m hm;have h1:=step (m-i);rw[show i+(m-i)=m by omega,show j+(m-i)=m+(j-i) by omega] at h1;rw[h1,←ih (m+(j-i)) (by omega),Nat.mul_succ,xn,Nat.add_comm (j-i)]
 obtain ⟨c,hc⟩:=ai4 (p:=j-i) (by omega) (by omega);rw[Lf h ha hx,show eN-1+(eN-1)+1=(eN-1)+eN by omega];have:=QQ c (eN-1) (by omega);rwa [←hc] at this
theorem QR (k:Nat): ∀n,pw mul (pw mul x k) n=pw mul x ((k+1)*n+k)
 | 0=>by rw[Nat.mul_zero,dB];rfl
 | n+1=>by
  show mul (pw mul (pw mul x k) n) (pw mul x k)=_;rw[QR k n,Lf h ha hx];exact congrArg _ (by rw[Nat.mul_succ];omega)
omit h hx ha in
theorem Lg {e:Nat} (he:mul e e=e): ∀n,pw mul e n=e
 | 0=>rfl
 | n+1=>by
  show mul (pw mul e n) e=e;rw[Lg he n,he]
theorem ai6 {k:Nat} (hk:mul (pw mul x k) (pw mul x k)=pw mul x k):pw mul x k=pw mul x (eN-1):=by
 have hN:=YI;have e1:=QR h ha hx k (eN-1);have e2:=QR h ha hx (eN-1) k;rw[Lg hk] at e1;rw[Lg (YJ h ha hx)] at e2;rw[e1,e2];refine congrArg _ ?_;obtain ⟨M,hM⟩: ∃M,eN=M+1:=⟨eN-1,by omega⟩
 rw[hM,Nat.add_sub_cancel,jn,jn,Nat.one_mul,Nat.one_mul,xo k M];omega
theorem ai7 {n:Nat} (hn:n≤100):CC Lh [.list ag (tG K mul),.int .i64 (x:Int),.int .i64 (n:Int)]=some [.int .i64 ((pw mul x (eN-1+n):Nat):Int)]:=by
 have h4:=h.k4;have l1:Loop (Cw CC (tG K mul) (x:Int) (n:Int)) (x:Int)=some (((pw mul x (eN-1):Nat):Int),false):=by
  obtain ⟨k,hk⟩:=ai8 h ha hx;have stop: ∀{i:Nat},mul (pw mul x i) (pw mul x i)=pw mul x i→Loop (Cw CC (tG K mul) (x:Int) (n:Int)) ((pw mul x i:Nat):Int)=some (((pw mul x (eN-1):Nat):Int),false):=fun {i} c=>by
   have hl:=vY h hx i;rw[←ai6 h ha hx c];refine kR ?_;simp only[Cw,FK];refine bs (nL hl) (bs (p7 hl) (bF ?_ ?_))
   ·show (((mul (pw mul x i) (pw mul x i):Nat):Int) != ((pw mul x i:Nat):Int))=false;rw[c];simp
   ·show some (Sum.inr (((pw mul x i:Nat):Int),((mul (pw mul x i) (pw mul x i):Nat):Int) != ((pw mul x i:Nat):Int)))=_;rw[c];simp
  have key: ∀d i,i+d=k→Loop (Cw CC (tG K mul) (x:Int) (n:Int)) ((pw mul x i:Nat):Int)=some (((pw mul x (eN-1):Nat):Int),false):=by
   intro d
   induction d with
   | zero=>
    intro i hi;obtain rfl:i=k:=by omega
    exact stop hk
   | succ d ih=>
    intro i hi;have hl:=vY h hx i;by_cases c:mul (pw mul x i) (pw mul x i)=pw mul x i
    ·exact stop c
    ·refine (jd ?_).trans (ih (i+1) (by omega))
     simp only[Cw,FK];refine bs (nL hl) (bs (p7 hl) (bT ?_ (bs (nL hl) (bs (p7 hx) rfl))));show (((mul (pw mul x i) (pw mul x i):Nat):Int) != ((pw mul x i:Nat):Int))=true;rw[bne_iff_ne];exact fun e=>c (by exact_mod_cast e)
  exact key k 0 (dB _)
 have l3:Loop (Li CC (tG K mul) (x:Int) (n:Int)) (((pw mul x (eN-1):Nat):Int),0)=some (((pw mul x (eN-1+n):Nat):Int),(n:Int),false):=by
  refine fI n (fun i=>(((pw mul x (eN-1+i):Nat):Int),(i:Int))) _ (fun i hi=> ?_) ?_
  ·simp only[Li,FL,un];refine bT (bn hi) (bs (nL (vY h hx _)) (bs (p7 hx) ?_));rw[bq (by omega)];rfl
  ·simp only[Li,FL,un];refine bF (aX (aw _)) ?_;rw[aX (aw _)]
 refine ai9 ?_;unfold YK;refine bs l1 ?_;simp only[un];refine bF xV ?_;exact bs l3 rfl
end
noncomputable def pT (K:Nat) (mul:Nat→Nat→Nat) (n:Nat):LV:=tab K fun i=>nV (pw mul i (eN-1+n))
def PV (K:Nat) (mul:Nat→Nat→Nat) (n:Nat) (l:LV):Prop:=l=[]∨l=pT K mul n
def qU (K:Nat) (mul:Nat→Nat→Nat) (p:List (Nat×Nat)) (k:Nat) (A B:LV):Prop:= ∀j,j<k→j<p.length→(p.getD j (0,0)).1=3→((p.getD j (0,0)).2=0→A=pT K mul 0)∧((p.getD j (0,0)).2=1→B=pT K mul 1)
section
variable {K:Nat} {mul:Nat→Nat→Nat} (h:Tb K mul) (ha: ∀i j k,i<K→j<K→k<K→mul (mul i j) k=mul i (mul j k))
include h ha
theorem YL {n:Nat} (hn:n≤1) {t18 t24:LV} {t19 t20 t25 t26:Int} {m0 m2 m3 m4 m5 m6 m7 m8 m9 m10 m11 m12:LV} {m1 s0:Int}:Loop (Lj CC (tG K mul) t18 t19 t20 t24 t25 t26 (K:Int) m0 m1 m2 m3 m4 m5 m6 m7 m8 m9 m10 m11 m12 s0 (n:Int)) (0,List.replicate K (V.int .i64 0))=some ((K:Int),false,pT K mul n):=by
 have h4:=h.k4;refine ux (fun i a=>((i:Int),a)) K (fun i=>nV (pw mul i (eN-1+n))) (List.replicate K (V.int .i64 0)) (by simp) (fun a=>((K:Int),false,a)) (fun i hi a hl=> ?_) ?_
 ·simp only[Lj,FM,un,aM,bm];refine bT (bn hi) (bs (ai7 h ha hi (by omega)) ((sb (by omega)).trans ?_));rw[bq (by omega),Int.toNat_natCast];rfl
 ·simp only[Lj,FM,un];refine bF (aX (aw _)) ?_;rw[aX (aw _)]
theorem YM {p:List (Nat×Nat)} (hp: ∀s∈p,fp s) (hl:p.length≤1000) {A B:LV} (hA:PV K mul 0 A) (hB:PV K mul 1 B) {t18 m0:LV} {t19 t20 m1:Int}: ∃A' B',PV K mul 0 A'∧PV K mul 1 B'∧(A=pT K mul 0→A'=pT K mul 0)∧(B=pT K mul 1→B'=pT K mul 1)∧qU K mul p p.length A' B'∧
  Loop (FO CC (tG K mul) t18 t19 t20 (p.map cg) (p.length:Int) m0 m1) (nM 0 A B)=some ((p.length:Int),false,[],A',B',[],[],[],[],[],[],[],[]):=by
 have h1:=h.k1;have h4:=h.k4;have key:=lN (step:=FO CC (tG K mul) t18 t19 t20 (p.map cg) (p.length:Int) m0 m1) (fun i y=> ∃A' B',PV K mul 0 A'∧PV K mul 1 B'∧(A=pT K mul 0→A'=pT K mul 0)∧(B=pT K mul 1→B'=pT K mul 1)∧qU K mul p i A' B'∧y=nM (i:Int) A' B')
  (fun r=> ∃A' B',PV K mul 0 A'∧PV K mul 1 B'∧(A=pT K mul 0→A'=pT K mul 0)∧(B=pT K mul 1→B'=pT K mul 1)∧qU K mul p p.length A' B'∧r=((p.length:Int),false,[],A',B',[],[],[],[],[],[],[],[])) p.length 0 (nM 0 A B) (fun i _ hi y hy=> ?_) (fun y hy=> ?_) ⟨A,B,hA,hB,id,id,fun j hj=>(by omega),rfl⟩
 ·obtain ⟨r,e,A',B',a1,a2,a3,a4,a5,rfl⟩:=key;exact ⟨A',B',a1,a2,a3,a4,a5,e⟩
 ·obtain ⟨A',B',a1,a2,a3,a4,a5,rfl⟩:=hy;have bU:i<p.length:=by omega
  have hs:=hp _ (dc bU);have hg:p.getD i (0,0)=p[i]:=by rw[rN,bY bU,Option.getD_some]
  have j6:=YN bU;generalize Lk:p[i]=s at hs hg j6;obtain ⟨k,n⟩:=s;simp only[FO,FP,un,nM];by_cases ck:k=3
  case neg=>
   refine ⟨_,bT (bn bU) (bs j6 (bT ?_ rfl)),A',B',a1,a2,a3,a4,fun j hj dk hk=> ?_,?_⟩
   ·show (((k:Nat):Int) != 3)=true;rw[bne_iff_ne];omega
   ·by_cases cj:j=i
    ·rw[cj,hg] at hk;exact absurd hk ck
    ·exact a5 j (by omega) dk hk
   ·rw[bq (by omega)]
  subst ck;have gM: ∀{l:LV} {m:Nat},l=pT K mul m→Nat.beq l.length 0=false:=fun {l m} hl=>by
   rw[hl,pT,eG];cases hb:Nat.beq K 0 with
   | false=>rfl
   | true=>rw[aL] at hb;omega
  rcases hs.2 rfl with zx|zx
  ·have zx:n=0:=zx;subst zx;rcases a1 with rfl|QS
   ·have el:=YL h ha (n:=0) (by omega) (t18:=t18) (t24:=p.map cg) (t19:=t19) (t20:=t20) (t25:=(p.length:Int)) (t26:=(i:Int)) (m0:=m0) (m1:=m1) (m2:=[]) (m3:=[]) (m4:=B') (m5:=[]) (m6:=[]) (m7:=[]) (m8:=[]) (m9:=[]) (m10:=[]) (m11:=[]) (m12:=[]) (s0:=3);have aP:Nat.blt 0 (pT K mul 0).length=true:=by rw[pT,eG,nt];omega
    refine ⟨nM ((i+1:Nat):Int) (pT K mul 0) B',bT (bn bU) (bs j6 (bF rfl (bT rfl (bT rfl (bF rfl ?_))))),pT K mul 0,B',.inr rfl,a2,fun _=>rfl,a4,fun j hj dk hk=> ?_,rfl⟩
    ·rw[sc];refine bT (gG (by omega) (by omega)) ?_;rw[Int.toNat_natCast,yW];refine bs el ?_;simp only[un];refine bT rfl (bT rfl (bT (by rw[aP];rfl) ?_));rw[bq (by omega)];rfl
    ·by_cases cj:j=i
     ·rw[cj,hg];exact ⟨fun _=>rfl,fun e=>(by cases e)⟩
     ·exact ⟨fun _=>rfl,(a5 j (by omega) dk hk).2⟩
   ·refine ⟨nM ((i+1:Nat):Int) A' B',bT (bn bU) (bs j6 (bF rfl (bT rfl (bT rfl (bT ?_ ?_))))),A',B',.inr QS,a2,a3,a4,fun j hj dk hk=> ?_,rfl⟩
    ·show (!(Nat.beq A'.length 0))=true;rw[gM QS];rfl
    ·rw[bq (by omega)];rfl
    ·by_cases cj:j=i
     ·rw[cj,hg];exact ⟨fun _=>QS,fun e=>(by cases e)⟩
     ·exact a5 j (by omega) dk hk
  ·have zx:n=1:=zx;subst zx;rcases a2 with rfl|QT
   ·have el:=YL h ha (n:=1) (by omega) (t18:=t18) (t24:=p.map cg) (t19:=t19) (t20:=t20) (t25:=(p.length:Int)) (t26:=(i:Int)) (m0:=m0) (m1:=m1) (m2:=[]) (m3:=A') (m4:=[]) (m5:=[]) (m6:=[]) (m7:=[]) (m8:=[]) (m9:=[]) (m10:=[]) (m11:=[]) (m12:=[]) (s0:=3);have aP:Nat.blt 0 (pT K mul 1).length=true:=by rw[pT,eG,nt];omega
    refine ⟨nM ((i+1:Nat):Int) A' (pT K mul 1),bT (bn bU) (bs j6 (bF rfl (bT rfl (bT rfl (bF rfl ?_))))),A',pT K mul 1,a1,.inr rfl,a3,fun _=>rfl,fun j hj dk hk=> ?_,rfl⟩
    ·rw[sc];refine bT (gG (by omega) (by omega)) ?_;rw[Int.toNat_natCast,yW];refine bs el ?_;simp only[un];refine bT rfl (bT rfl (bT (by rw[aP];rfl) ?_));rw[bq (by omega)];rfl
    ·by_cases cj:j=i
     ·rw[cj,hg];exact ⟨fun e=>(by cases e),fun _=>rfl⟩
     ·exact ⟨(a5 j (by omega) dk hk).1,fun _=>rfl⟩
   ·refine ⟨nM ((i+1:Nat):Int) A' B',bT (bn bU) (bs j6 (bF rfl (bT rfl (bT rfl (bT ?_ ?_))))),A',B',a1,.inr QT,a3,a4,fun j hj dk hk=> ?_,rfl⟩
    ·show (!(Nat.beq B'.length 0))=true;rw[gM QT];rfl
    ·rw[bq (by omega)];rfl
    ·by_cases cj:j=i
     ·rw[cj,hg];exact ⟨fun e=>(by cases e),fun _=>QT⟩
     ·exact a5 j (by omega) dk hk
 ·obtain ⟨A',B',a1,a2,a3,a4,a5,rfl⟩:=hy;rw[dB] at*
  simp only[FO,FP,un,nM];exact ⟨_,bF (aX (aw _)) rfl,A',B',a1,a2,a3,a4,a5,cI rfl (cI (aX (aw _)) rfl)⟩
omit h ha in
theorem qU.mono {p:List (Nat×Nat)} {k:Nat} {A B A' B':LV} (hh:qU K mul p k A B) (h1:A=pT K mul 0→A'=pT K mul 0) (h2:B=pT K mul 1→B'=pT K mul 1):qU K mul p k A' B':=fun j hj hl e=>⟨fun e2=>h1 ((hh j hj hl e).1 e2),fun e2=>h2 ((hh j hj hl e).2 e2)⟩
theorem aja {p q:List (Nat×Nat)} (hp: ∀s∈p,fp s) (hq: ∀s∈q,fp s) (Ll:p.length≤1000) (Lm:q.length≤1000) {one:Int}: ∃A B,PV K mul 0 A∧PV K mul 1 B∧qU K mul p p.length A B∧qU K mul q q.length A B∧
  CC FQ [.list ag (tG K mul),.int .i64 one,.list FR [.list bG (p.map cg),.list bG (q.map cg)]]=some (Ln (tG K mul) one A B):=by
 obtain ⟨A1,B1,a1,a2,a3,a4,a5,e1⟩:=YM h ha hp Ll (A:=[]) (B:=[]) (.inl rfl) (.inl rfl) (t18:=[.list bG (p.map cg),.list bG (q.map cg)]) (m0:=tG K mul) (t19:=2) (t20:=0) (m1:=one);obtain ⟨A2,B2,b1,b2,b3,b4,b5,e2⟩:=YM h ha hq Lm a1 a2 (t18:=[.list bG (p.map cg),.list bG (q.map cg)]) (m0:=tG K mul) (t19:=2) (t20:=1) (m1:=one);refine ⟨A2,B2,b1,b2,a5.mono b3 b4,b5,ajb ?_⟩;unfold YO;have s1:zy CC (tG K mul) [.list bG (p.map cg),.list bG (q.map cg)] 2 (tG K mul) one (nM 0 [] [])=some (.inl (nM 1 A1 B1)):=by
  simp only[zy,Cx,un,nM];refine bT rfl (bs rfl ?_);rw[V.eH,dE];exact bs e1 rfl
 have s2:zy CC (tG K mul) [.list bG (p.map cg),.list bG (q.map cg)] 2 (tG K mul) one (nM 1 A1 B1)=some (.inl (nM 2 A2 B2)):=by
  simp only[zy,Cx,un,nM];refine bT rfl (bs rfl ?_);rw[V.eH,dE];exact bs e2 rfl
 have s3:zy CC (tG K mul) [.list bG (p.map cg),.list bG (q.map cg)] 2 (tG K mul) one (nM 2 A2 B2)=some (.inr (2,false,[],A2,B2,[],[],[],[],[],[],[],[])):=by
  simp only[zy,Cx,un,nM];exact bF rfl rfl
 exact bs ((jd s1).trans ((jd s2).trans (kR s3))) rfl
end
def oE {α:Type} (one:α) (mul:α→α→α) (po:Nat→α→α) (v:Nat→α) (s:Nat×Nat) (st:List α):Option (List α):=
 if s.1=0 then some (one::st) else if s.1=1 then some (v s.2::st)
 else if s.1=2 then (match st with|b::a::r=>some (mul a b::r)|_=>none)
 else (match st with|a::r=>some (po s.2 a::r)|_=>none)
def eM {α:Type} (one:α) (mul:α→α→α) (po:Nat→α→α) (v:Nat→α):List (Nat×Nat)→List α→Option (List α)
 | [],st=>some st
 | s::p,st=>(oE one mul po v s st).bind (eM one mul po v p)
def SV (st:List Nat) (l:LV):Prop:=l.length=61∧st.length≤60∧∀i,i<st.length→l[st.length-1-i]? =some (nV (st.getD i 0))
theorem SV.tail {x:Nat} {st:List Nat} {l:LV} (h:SV (x::st) l):SV st l:=by
 obtain ⟨h1,h2,h3⟩:=h;simp only[List.length_cons] at h2 h3;refine ⟨h1,by omega,fun i hi=> ?_⟩;have:=h3 (i+1) (by omega);rwa [show st.length+1-1-(i+1)=st.length-1-i by omega,List.getD_cons_succ] at this
theorem SV.push {st:List Nat} {l:LV} (h:SV st l) (h6:st.length<60) (x:Nat):SV (x::st) (l.set st.length (nV x)):=by
 obtain ⟨h1,h2,h3⟩:=h;refine ⟨by rw[pF,h1],by simp;omega,fun i hi=> ?_⟩;simp only[List.length_cons] at hi⊢;cases i with
 | zero=>
  rw[show st.length+1-1-0=st.length by omega,qI (by omega)];rfl
 | succ i=>
  rw[show st.length+1-1-(i+1)=st.length-1-i by omega,xp (by omega),h3 i (by omega),List.getD_cons_succ]
theorem SV.top {x:Nat} {st:List Nat} {l:LV} (h:SV (x::st) l):l[st.length]? =some (nV x):=by
 have:=h.2.2 0 (by simp);simpa using this
noncomputable def dQ (mul:Nat→Nat→Nat) (n x:Nat):Nat:=pw mul x (eN-1+n)
section
variable {K:Nat} {mul:Nat→Nat→Nat} (h:Tb K mul) {p:List (Nat×Nat)} (hp: ∀s∈p,fp s) (hl:p.length≤1000) {A B:LV} (hP:qU K mul p p.length A B)
  {m:Nat} {v:Nat→Nat} (hv: ∀i,i<m→v i<K) (hw:ng m p 0=some 1)
include h hp hl hP hv hw
theorem YP: ∃y,y<K∧eM 0 mul (dQ mul) v p []=some [y]∧CC FT (.list bG (p.map cg)::(Ln (tG K mul) 0 A B++[.list ab (tab m fun i=>nV (v i))]))=some (.int .i64 (y:Int)::(Ln (tG K mul) 0 A B++[.list ab (tab m fun i=>nV (v i))])):=by
 have h4:=h.k4;have h1:=h.k1;have key:=lN (step:=Lo CC (p.map cg) (p.length:Int) (tG K mul) 0 [] A B [] [] [] [] [] [] [] [] (tab m fun i=>nV (v i)))
  (fun i x=> ∃(st:List Nat) (l:LV),ng m (p.drop i) st.length=some 1∧SV st l∧(∀y∈st,y<K)∧eM 0 mul (dQ mul) v p []=eM 0 mul (dQ mul) v (p.drop i) st∧x=((st.length:Int),(i:Int),l)) (fun r=> ∃y l,y<K∧SV [y] l∧eM 0 mul (dQ mul) v p []=some [y]∧r=(1,(p.length:Int),false,l)) p.length 0 (0,0,List.replicate 61 (V.int .i64 0)) (fun i _ hi x hx=> ?_) (fun x hx=> ?_) ⟨([]:List Nat),List.replicate 61 (V.int .i64 0),hw,⟨by simp,by simp,fun i hi=>(by cases hi)⟩,fun _ h=>(by cases h),rfl,rfl⟩
 ·obtain ⟨r,e,y,l,hy,hs,tf,rfl⟩:=key;have hg:l[0]? =some (nV y):=hs.top;refine ⟨y,hy,tf,ajc ?_⟩;unfold YQ;rw[dE];refine bs e ?_;simp only[un];exact bs hg rfl
 ·obtain ⟨st,l,hr,hs,hk,tf,rfl⟩:=hx;have bU:i<p.length:=by omega
  have j6:=YN bU;have cQ:=hp _ (dc bU);have hg:p.getD i (0,0)=p[i]:=by rw[rN,bY bU,Option.getD_some]
  have QU:=hP i bU bU;rw[hg] at QU;rw[List.drop_eq_getElem_cons bU] at hr tf;generalize p[i]=s at*
  obtain ⟨k,n⟩:=s;simp only[ng] at hr;have YR:=hs.1;have ht:=hs.2.1;simp only[Lo,FU,un];have push: ∀{x:Nat},x<K→∀y∈x::st,y<K:=fun hx y hy=>by
   rcases fl.1 hy with rfl|hy
   ·exact hx
   ·exact hk y hy
  rcases (by have:=cQ.1;simp only at this;omega:k=0∨k=1∨k=2∨k=3) with rfl|rfl|rfl|rfl
  ·rw[YS] at hr;by_cases c:st.length<60
   ·rw[aB c,Option.bind_some] at hr;refine ⟨_,bT (bn bU) (bs j6 ?_),0::st,l.set st.length (nV 0),hr,hs.push c 0,push h1,tf,rfl⟩;simp only[xW];refine bT rfl (bT (kh.2 ⟨ca (by omega),ca (by omega)⟩) (bs (bY (by rw[Int.toNat_natCast,YR];omega)) ?_));rw[bq (by omega),bq (by omega)];rfl
   ·rw[ax c] at hr;cases hr
  ·rw[QV] at hr;by_cases c:st.length<60∧n<m
   ·rw[aB c,Option.bind_some] at hr;have hvg:(tab m fun i=>nV (v i))[n]? =some (nV (v n)):=mz c.2;refine ⟨_,bT (bn bU) (bs j6 ?_),v n::st,l.set st.length (nV (v n)),hr,hs.push c.1 _,push (hv n c.2),tf,rfl⟩;simp only[xW];refine bF rfl (bT rfl ((b7 (i:=n) hvg).trans (bT (kh.2 ⟨ca (by omega),ca (by omega)⟩) (bs (bY (by rw[Int.toNat_natCast,YR];omega)) ?_))));rw[bq (by omega),bq (by omega)];rfl
   ·rw[ax c] at hr;cases hr
  ·rw[YT] at hr;by_cases c:2≤st.length
   ·rw[aB c,Option.bind_some] at hr;obtain ⟨b,a,r,rfl⟩: ∃b a r,st=b::a::r:=by
     match st,c with
     | b::a::r,_=>exact ⟨b,a,r,rfl⟩
    have YU:b<K:=hk b (pG ..);have FV:a<K:=hk a (jA _ (pG ..));have hbg:l[r.length+1]? =some (nV b):=hs.top;have cA:l[r.length]? =some (nV a):=hs.tail.top;simp only[List.length_cons] at ht hr c;refine ⟨_,bT (bn bU) (bs j6 ?_),mul a b::r,l.set r.length (nV (mul a b)),hr,hs.tail.tail.push (by omega) _,fun y hy=> ?_,tf,rfl⟩
    ·simp only[xW];refine bF rfl (bF rfl (bT rfl ?_));rw[Lq (t:=(b::a::r).length) (by simp) (by simp;omega),Lq (t:=(b::a::r).length-1) (by simp) (by simp;omega),show (b::a::r).length-1-1=r.length from rfl,show (b::a::r).length-1=r.length+1 from rfl,Int.toNat_natCast,Int.toNat_natCast];refine bT (kh.2 ⟨ca (by omega),ca (by omega)⟩) (bs cA (bs (nL FV) (bT (kh.2 ⟨ca (by omega),ca (by omega)⟩) (bs hbg (bs (p7 YU) (bT (kh.2 ⟨ca (by omega),ca (by omega)⟩) (bs cA ?_)))))));rw[bq (by omega)];rfl
    ·rcases fl.1 hy with rfl|hy
     ·exact h.lt _ _ FV YU
     ·exact hk y (jA _ (jA _ hy))
   ·rw[ax c] at hr;cases hr
  ·rw[YV] at hr;by_cases c:1≤st.length
   ·rw[aB c,Option.bind_some] at hr;obtain ⟨a,r,rfl⟩: ∃a r,st=a::r:=by
     match st,c with
     | a::r,_=>exact ⟨a,r,rfl⟩
    have FV:a<K:=hk a (pG ..);have cA:l[r.length]? =some (nV a):=hs.top;simp only[List.length_cons] at ht hr c;have zz:(decide (0≤(r.length:Int))&&decide ((r.length:Int)<61))=true:=kh.2 ⟨ca (by omega),ca (by omega)⟩;have YW: ∀n,idx (pT K mul n) (a:Int)=some (nV (dQ mul n a)):=fun n=>qV FV;have aP: ∀n,dQ mul n a<K:=fun n=>vY h FV _;have sd: ∀n,∀y∈dQ mul n a::r,y<K:=fun n y hy=>by
     rcases fl.1 hy with rfl|hy
     ·exact aP n
     ·exact hk y (jA _ hy)
    rcases cQ.2 rfl with hn|hn
    ·have hn:n=0:=hn;subst hn;have hA:idx A (a:Int)=some (nV (dQ mul 0 a)):=by rw[(QU rfl).1 rfl];exact YW 0
     refine ⟨_,bT (bn bU) (bs j6 ?_),dQ mul 0 a::r,l.set r.length (nV (dQ mul 0 a)),hr,hs.tail.push (by omega) _,sd 0,tf,rfl⟩;simp only[xW];refine bF rfl (bF rfl (bF rfl (bT rfl (bT rfl (bT rfl ?_)))));rw[Lq (t:=(a::r).length) (by simp) (by simp;omega),show (a::r).length-1=r.length from rfl,Int.toNat_natCast];refine bT zz (bs cA (bs (a:=nV (dQ mul 0 a)) hA (bT zz (bs cA ?_))));rw[bq (by omega)];rfl
    ·have hn:n=1:=hn;subst hn;have hA:idx B (a:Int)=some (nV (dQ mul 1 a)):=by rw[(QU rfl).2 rfl];exact YW 1
     refine ⟨_,bT (bn bU) (bs j6 ?_),dQ mul 1 a::r,l.set r.length (nV (dQ mul 1 a)),hr,hs.tail.push (by omega) _,sd 1,tf,rfl⟩;simp only[xW];refine bF rfl (bF rfl (bF rfl (bT rfl (bT rfl (bT rfl ?_)))));rw[Lq (t:=(a::r).length) (by simp) (by simp;omega),show (a::r).length-1=r.length from rfl,Int.toNat_natCast];refine bT zz (bs cA (bs (a:=nV (dQ mul 1 a)) hA (bT zz (bs cA ?_))));rw[bq (by omega)];rfl
   ·rw[ax c] at hr;cases hr
 ·obtain ⟨st,l,hr,hs,hk,tf,rfl⟩:=hx;rw[dB,List.drop_length] at hr tf;have Fl:st.length=1:=by simpa[ng] using hr
  obtain ⟨y,rfl⟩: ∃y,st=[y]:=by
   match st,Fl with
   | [y],_=>exact ⟨y,rfl⟩
  rw[dB];simp only[Lo,FU,un];exact ⟨_,bF (aX (aw _)) rfl,y,l,hk y (pG ..),hs,tf,cI rfl (cI rfl (cI (aX (aw _)) rfl))⟩
end
theorem zA {α:Type} {one:α} {mul:α→α→α} {po:Nat→α→α} {v v':Nat→α} {m:Nat} (hv: ∀i,i<m→v i=v' i): ∀(p:List (Nat×Nat)) (st:List α) (t:Nat),ng m p t=some 1→eM one mul po v p st=eM one mul po v' p st
 | [],_,_,_=>rfl
 | (k,n)::p,st,t,hr=>by
  have e:oE one mul po v (k,n) st=oE one mul po v' (k,n) st:=by
   by_cases c:k=1
   ·subst c;simp only[ng] at hr;rw[QV] at hr;by_cases c2:t<60∧n<m
    ·show some (v n::st)=some (v' n::st);rw[hv n c2.2]
    ·rw[ax c2] at hr;cases hr
   ·unfold oE;simp only[ax c]
  simp only[ng] at hr;cases hs:xX m t (k,n) with
  | none=>rw[hs] at hr;cases hr
  | some t'=>
   rw[hs,Option.bind_some] at hr;show (oE one mul po v (k,n) st).bind _=(oE one mul po v' (k,n) st).bind _;rw[e];exact congrArg _ (funext fun st'=>zA hv p st' t' hr)
def rk (len k:Nat→Nat):Nat→Nat
 | 0=>0
 | n+1=>rk len k n*len n+k n
theorem YX {len a b:Nat→Nat}: ∀{n:Nat},(∀i,i<n→a i=b i)→rk len a n=rk len b n
 | 0,_=>rfl
 | n+1,h=>by
  show rk len a n*len n+a n=rk len b n*len n+b n;rw[YX fun i hi=>h i (by omega),h n (by omega)]
theorem YY {len a b:Nat→Nat} {i:Nat} (h1: ∀j,j<i→b j=a j) (h2:b i=a i+1): ∀{n:Nat},i<n→(∀j,i<j→j<n→a j+1=len j∧b j=0)→rk len b n=rk len a n+1
 | 0,h,_=>by omega
 | n+1,h,h3=>by
  show rk len b n*len n+b n=rk len a n*len n+a n+1;by_cases c:i=n
  ·subst c;rw[YX h1,h2];omega
  ·obtain ⟨e1,e2⟩:=h3 n (by omega) (by omega);rw[YY h1 h2 (by omega) fun j hj hn=>h3 j hj (by omega),e2,jn];omega
theorem YZ {len a b:Nat→Nat}: ∀{n:Nat},(∀i,i<n→a i+1=len i)→(∀i,i<n→b i<len i)→rk len b n≤rk len a n
 | 0,_,_=>aw _
 | n+1,h1,h2=>by
  show rk len b n*len n+b n≤rk len a n*len n+a n;have e1:=h1 n (by omega);have e2:=h2 n (by omega);have:=eI (len n) (YZ (fun i hi=>h1 i (by omega)) fun i hi=>h2 i (by omega):rk len b n≤rk len a n);omega
theorem Y0 {len a b:Nat→Nat}: ∀{n:Nat},(∀i,i<n→a i<len i)→(∀i,i<n→b i<len i)→rk len a n=rk len b n→∀i,i<n→a i=b i
 | 0,_,_,_=>fun i hi=>by omega
 | n+1,h1,h2,e=>fun i hi=>by
  have e:rk len a n*len n+a n=rk len b n*len n+b n:=e;have l1:=h1 n (by omega);have l2:=h2 n (by omega);have q:rk len a n=rk len b n:=by
   rcases Nat.lt_trichotomy (rk len a n) (rk len b n) with c|c|c
   ·have:=eI (len n) (show rk len a n+1≤rk len b n from c);rw[jn] at this;omega
   ·exact c
   ·have:=eI (len n) (show rk len b n+1≤rk len a n from c);rw[jn] at this;omega
  by_cases c:i=n
  ·subst c;rw[q] at e;omega
  ·exact Y0 (fun i hi=>h1 i (by omega)) (fun i hi=>h2 i (by omega)) q i (by omega)
def dJ (n:Nat) (k:Nat→Nat):LV:=tab n fun i=>nV (k i)
def gm (R:List (List Nat)) (i:Nat):Nat:=(R.getD i []).length
def gn (R:List (List Nat)) (k:Nat→Nat) (i:Nat):Nat:=(R.getD i []).getD (k i) 0
section
variable {K:Nat} {R:List (List Nat)} (hR:RG K R) {k:Nat→Nat} (hk: ∀i,i<R.length→k i<gm R i)
include hR hk
theorem ajd {i:Nat} (hi:i<R.length):gn R k i<K:=by
 unfold gn;rw[cE (hk i hi)];exact hR.lt i hi _ (dc _)
omit hR in
theorem Y1 {i:Nat} (hi:i<R.length):idx (nS (R.getD i [])) (k i:Int)=some (nV (gn R k i)):=by
 unfold gn;rw[cE (hk i hi)];exact iE (hk i hi)
theorem Y2 {p q:List (Nat×Nat)} {t A B:LV} {one:Int}:CC FW (p8 p q R t one A B [.list ab (dJ R.length k)])=some (p8 p q R t one A B [.list ab (dJ R.length (gn R k)),.list ab (dJ R.length k)]):=by
 have Y3:=hR.rl;have hl:(dJ R.length k).length=R.length:=eG;refine aje ?_;unfold Y4;rw[hl];refine bT (gG (by omega) (by omega)) ?_;rw[Int.toNat_natCast];refine bs (ux (fun i a=>((i:Int),a)) R.length (fun i=>nV (gn R k i)) (List.replicate R.length (V.int .i64 0)) (by simp) (fun a=>((R.length:Int),false,a)) (fun i hi a ha=> ?_) ?_) rfl
 ·have hg:(dJ R.length k)[i]? =some (nV (k i)):=mz hi;simp only[QW,FX,un,aM,bm];refine bT (bn hi) ((b7 hg).trans (bs (Cy hi) ?_));rw[V.eH];refine bs (Y1 hk hi) ((sb (by omega)).trans ?_);rw[bq (by omega),Int.toNat_natCast];rfl
 ·simp only[QW,FX,un];refine bF (aX (aw _)) ?_;rw[aX (aw _)]
theorem ajf {p q:List (Nat×Nat)} {t A B:LV} {one:Int}: ∃(b:Bool) (k':Nat→Nat),(∀i,i<R.length→k' i<gm R i)∧(b=true→rk (gm R) k' R.length=rk (gm R) k R.length+1)∧(b=false→∀i,i<R.length→k i+1=gm R i)∧
  CC FY (p8 p q R t one A B [.list ab (dJ R.length k)])=some (.bool b::p8 p q R t one A B [.list ab (dJ R.length k')]):=by
 have Y3:=hR.rl;have hl:(dJ R.length k).length=R.length:=eG;have put: ∀{f:Nat→Nat} {i v:Nat},(dJ R.length f).set i (nV v)=dJ R.length fun j=>if j=i then v else f j:=fun {f i v}=>by
  unfold dJ;rw[lO];exact c8 fun j _=>by by_cases c:j=i<;>simp[c]
 have key: ∀(d:Nat),d≤R.length→(∀i,d≤i→i<R.length→k i+1=gm R i)→∃r,Loop (FZ CC (p.map cg) (q.map cg) (RV R) t one [] A B [] [] [] [] [] [] [] []) ((d:Int)-1,dJ R.length fun i=>if i<d then k i else 0)=some r∧
   ((∃k',(∀i,i<R.length→k' i<gm R i)∧rk (gm R) k' R.length=rk (gm R) k R.length+1∧r= .inl (true,dJ R.length k'))∨∃j b,(∀i,i<R.length→k i+1=gm R i)∧r= .inr (j,b,dJ R.length fun _=>0)):=by
  intro d
  induction d with
  | zero=>
   intro _ hd;have e0:(dJ R.length fun i=>if i<0 then k i else 0)=dJ R.length fun _=>0:=c8 fun i _=>congrArg nV (ax (Nat.not_lt_zero i));rw[e0];refine ⟨_,kR (r:= .inr (((0:Nat):Int)-1,false,dJ R.length fun _=>0)) ?_,.inr ⟨((0:Nat):Int)-1,false,fun i hi=>hd i (mi _) hi,rfl⟩⟩;simp only[FZ,Cz,un];exact bF rfl rfl
  | succ i ih=>
   intro hd h2;have hi:i<R.length:=by omega
   have e1:(((i+1:Nat):Int)-1)=(i:Int):=by omega
   rw[e1];have hki:=hk i hi;have hg:(dJ R.length fun j=>if j<i+1 then k j else 0)[i]? =some (nV (k i)):=(mz hi).trans (by simp)
   have CA:gm R i≤1000:=hR.len i hi;have js:((dJ R.length fun j=>if j<i+1 then k j else 0).set i (.int .i64 ((k i+1:Nat):Int)))[i]? =some (nV (k i+1)):=qI (by rw[dJ,eG];exact hi);have w1:wrap .i64 ((nV (k i)).toInt+1)=((k i+1:Nat):Int):=bq (by omega);by_cases c:k i+1<gm R i
   ·have sd: ∀j,i<j→j<R.length→¬j=i∧¬j<i+1:=fun j h1 _=>⟨by omega,by omega⟩
    refine ⟨.inl (true,dJ R.length fun j=>if j=i then k i+1 else if j<i+1 then k j else 0),kR ?_,.inl ⟨_,fun j hj=> ?_,YY (i:=i) (fun j hj=> ?_) (by simp) hi (fun j h1 h3=>⟨h2 j (by omega) h3,?_⟩),rfl⟩⟩
    ·simp only[FZ,Cz,un,aM,bm,Int.toNat_natCast];refine bT (ca (by omega)) ((b7 hg).trans ((b7 hg).trans ?_));simp only[w1];refine (b7 js).trans (bs (Cy hi) ?_)
     rw[V.eH,dC];refine bT (ca (by show ((k i+1:Nat):Int)<_;unfold gm at c;omega)) ?_;rw[←put];rfl
    ·have dw:=hk j hj;by_cases cj:j=i
     ·subst cj;rw[aB rfl];exact c
     ·rw[ax cj];by_cases Y5:j<i+1
      ·rw[aB Y5];exact dw
      ·rw[ax Y5];omega
    ·rw[ax (by omega),aB (by omega)]
    ·rw[ax (by omega),ax (by omega)]
   ·obtain ⟨r,e,hr⟩:=ih (by omega) fun j h1 h3=>by
     by_cases cj:j=i
     ·subst cj;omega
     ·exact h2 j (by omega) h3
    refine ⟨r,(jd ?_).trans e,hr⟩;simp only[FZ,Cz,un,aM,bm,Int.toNat_natCast];refine bT (ca (by omega)) ((b7 hg).trans ((b7 hg).trans ?_));simp only[w1];refine (b7 js).trans (bs (Cy hi) ?_)
    rw[V.eH,dC];refine bF (cZ (by show¬((k i+1:Nat):Int)<_;unfold gm at c;omega)) ((b7 js).trans ?_);rw[BG];have w2:wrap .i64 ((i:Int)-1)=(i:Int)-1:=wrap64 (by omega) (by omega);have p0:(dJ R.length fun j=>if j<i+1 then k j else 0).set i (.int .i64 0)=dJ R.length fun j=>if j<i then k j else 0:=(put (v:=0)).trans (c8 fun j _=>congrArg nV (by
     show (if j=i then 0 else if j<i+1 then k j else 0)=(if j<i then k j else 0)
     by_cases c1:j=i
     ·subst c1;simp
     ·rw[ax c1];by_cases c2:j<i
      ·rw[aB c2,aB (by omega)]
      ·rw[ax c2,ax (by omega)]))
    rw[w2,p0]
 have e0:dJ R.length k=dJ R.length fun i=>if i<R.length then k i else 0:=c8 fun i hi=>congrArg nV (aB hi).symm
 obtain ⟨r,e,hr⟩:=key R.length (aw _) fun i h1 h2=>(by omega)
 rw[←e0] at e;have w3:wrap .i64 ((R.length:Int)-1)=(R.length:Int)-1:=wrap64 (by omega) (by omega);have fin: ∀z,Lr CC (p.map cg) (q.map cg) (RV R) t one [] A B [] [] [] [] [] [] [] [] (dJ R.length k)=z→CC FY (p8 p q R t one A B [.list ab (dJ R.length k)])=z:=fun z h=>ajg h;rcases hr with ⟨k',h1,h2,rfl⟩|⟨j,b,h1,rfl⟩
 ·refine ⟨true,k',h1,fun _=>h2,fun e=>(by cases e),fin _ ?_⟩;unfold Lr;rw[hl,w3];exact bs e rfl
 ·refine ⟨false,fun _=>0,fun i hi=>Nat.lt_of_le_of_lt (mi _) (hk i hi),fun e=>(by cases e),fun _=>h1,fin _ ?_⟩;unfold Lr;rw[hl,w3];exact bs e rfl
end
section
variable {K:Nat} {mul:Nat→Nat→Nat} (h:Tb K mul) {R:List (List Nat)} (hR:RG K R) {p q:List (Nat×Nat)} (hp: ∀s∈p,fp s) (hq: ∀s∈q,fp s) (Ll:p.length≤1000) (Lm:q.length≤1000) {A B:LV} (hP:qU K mul p p.length A B) (hQ:qU K mul q q.length A B)
  (hw:ng R.length p 0=some 1) (CB:ng R.length q 0=some 1)
include h hR hp hq Ll Lm hP hQ hw CB
theorem ajh (bp: ∀i,i<R.length→0<gm R i) {lim:Nat} (az1:lim≤2000000): ∃(s:Int) (b1 b2:Bool) (k':Nat→Nat),(∀i,i<R.length→k' i<gm R i)∧
  (b1=true→eM 0 mul (dQ mul) (gn R k') p []≠eM 0 mul (dQ mul) (gn R k') q [])∧
  (b1=false→b2=true→∀k,(∀i,i<R.length→k i<gm R i)→eM 0 mul (dQ mul) (gn R k) p []=eM 0 mul (dQ mul) (gn R k) q [])∧
  CC F0 (.int .i64 (lim:Int)::p8 p q R (tG K mul) 0 A B [.list ab (dJ R.length fun _=>0)])=some (.int .i64 s:: .bool b1:: .bool b2::p8 p q R (tG K mul) 0 A B [.list ab (dJ R.length k')]):=by
 have Y3:=hR.rl;have e0:=Y2 hR bp (p:=p) (q:=q) (t:=tG K mul) (A:=A) (B:=B) (one:=0);have fill: ∀{vs:LV} {k:Nat→Nat} {s:Int},vs.length=R.length→(∀i,i<R.length→k i<gm R i)→Loop (Ls CC (lim:Int) s (R.length:Int) (p.map cg) (q.map cg) (RV R) (tG K mul) 0 [] A B [] [] [] [] [] [] [] [] (dJ R.length k)) (0,vs)=some ((R.length:Int),false,dJ R.length (gn R k)):=by
  intro vs k s hv hk;refine ux (fun i a=>((i:Int),a)) R.length (fun i=>nV (gn R k i)) vs hv (fun a=>((R.length:Int),false,a)) (fun i hi a ha=> ?_) ?_
  ·have hg:(dJ R.length k)[i]? =some (nV (k i)):=mz hi;simp only[Ls,F3,un,aM,bm];refine bT (bn hi) ((b7 hg).trans (bs (Cy hi) ?_));rw[V.eH];refine bs (Y1 hk hi) ((sb (by omega)).trans ?_);rw[bq (by omega),Int.toNat_natCast];rfl
  ·simp only[Ls,F3,un];refine bF (aX (aw _)) ?_;rw[aX (aw _)]
 have key:=Lt (step:=CD CC (lim:Int)) (fun x=> ∃(s:Nat) (vs:LV) (k:Nat→Nat),x=((s:Int),p.map cg,q.map cg,RV R,tG K mul,0,[],A,B,[],[],[],[],[],[],[],[],vs,dJ R.length k)∧vs.length=R.length∧(∀i,i<R.length→k i<gm R i)∧(∀k2,(∀i,i<R.length→k2 i<gm R i)→rk (gm R) k2 R.length<rk (gm R) k R.length→eM 0 mul (dQ mul) (gn R k2) p []=eM 0 mul (dQ mul) (gn R k2) q [])∧s≤lim) (fun x=>lim-x.1.toNat)
  (fun r=>(∃(s:Int) (b1 b2:Bool) (k':Nat→Nat),(∀i,i<R.length→k' i<gm R i)∧
   (b1=true→eM 0 mul (dQ mul) (gn R k') p []≠eM 0 mul (dQ mul) (gn R k') q [])∧
   (b1=false→b2=true→∀k,(∀i,i<R.length→k i<gm R i)→eM 0 mul (dQ mul) (gn R k) p []=eM 0 mul (dQ mul) (gn R k) q [])∧r= .inl (s,b1,b2,p.map cg,q.map cg,RV R,tG K mul,0,[],A,B,[],[],[],[],[],[],[],[],dJ R.length k'))∨∃(s:Int) (b:Bool) (vs:LV) (k':Nat→Nat),(∀i,i<R.length→k' i<gm R i)∧r= .inr (s,b,p.map cg,q.map cg,RV R,tG K mul,0,[],A,B,[],[],[],[],[],[],[],[],vs,dJ R.length k'))
  (fun x hx=> ?_) ((0:Int),p.map cg,q.map cg,RV R,tG K mul,0,[],A,B,[],[],[],[],[],[],[],[],dJ R.length (gn R fun _=>0),dJ R.length fun _=>0) ⟨0,_,fun _=>0,rfl,eG,bp,fun k2 _ aP=>absurd aP (Nat.not_lt.2 ?_),mi _⟩
 ·obtain ⟨r,e,hr⟩:=key;have fin: ∀z,Lu CC (lim:Int) (p.map cg) (q.map cg) (RV R) (tG K mul) 0 [] A B [] [] [] [] [] [] [] [] (dJ R.length fun _=>0)=z→CC F0 (.int .i64 (lim:Int)::p8 p q R (tG K mul) 0 A B [.list ab (dJ R.length fun _=>0)])=z:=fun z h=>aji h;rcases hr with ⟨s,b1,b2,k',h1,h2,h3,rfl⟩|⟨s,b,vs,k',h1,rfl⟩
  ·refine ⟨s,b1,b2,k',h1,h2,h3,fin _ ?_⟩;unfold Lu;exact bs e0 (bs e rfl)
  ·refine ⟨s,false,false,k',h1,fun e=>(by cases e),fun _ e=>(by cases e),fin _ ?_⟩;unfold Lu;exact bs e0 (bs e rfl)
 ·obtain ⟨s,vs,k,rfl,hv,hk,F4,hs⟩:=hx;have kz:(dJ R.length k).length=R.length:=eG;by_cases c:s<lim
  ·have ef:=fill (s:=wrap .i64 ((s:Int)+1)) hv hk;have Y6: ∀i,i<R.length→gn R k i<K:=fun i hi=>ajd hR hk hi;obtain ⟨y1,_,g1,QX⟩:=YP h hp Ll hP Y6 hw;obtain ⟨y2,_,g2,QY⟩:=YP h hq Lm hQ Y6 CB;obtain ⟨b,k',dK,ht,hf,ea⟩:=ajf hR hk (p:=p) (q:=q) (t:=tG K mul) (A:=A) (B:=B) (one:=0);by_cases cy:((y1:Int) != (y2:Int))=true
   ·refine .inr ⟨.inl (wrap .i64 ((s:Int)+1),true,true,p.map cg,q.map cg,RV R,tG K mul,0,[],A,B,[],[],[],[],[],[],[],[],dJ R.length k),?_,.inl ⟨_,_,_,k,hk,fun _ e=> ?_,fun e=>(by cases e),rfl⟩⟩
    ·simp only[CD,zB,un];refine bT (bn c) ?_;rw[kz];exact bs ef (bs QX (bs QY (bT cy rfl)))
    ·rw[g1,g2] at e;have:y1=y2:=by simpa using e
     rw[this] at cy;simp at cy
   ·have cy:((y1:Int) != (y2:Int))=false:=by simpa using cy
    have heq:eM 0 mul (dQ mul) (gn R k) p []=eM 0 mul (dQ mul) (gn R k) q []:=by
     have:(y1:Int)=(y2:Int):=by simpa using cy
     rw[g1,g2,show y1=y2 by omega]
    have hle: ∀k2,(∀i,i<R.length→k2 i<gm R i)→rk (gm R) k2 R.length≤rk (gm R) k R.length→eM 0 mul (dQ mul) (gn R k2) p []=eM 0 mul (dQ mul) (gn R k2) q []:=fun k2 h2 hle=>by
     rcases Nat.lt_or_eq_of_le hle with c1|c1
     ·exact F4 k2 h2 c1
     ·have qW:=Y0 h2 hk c1;have F5: ∀i,i<R.length→gn R k2 i=gn R k i:=fun i hi=>by unfold gn;rw[qW i hi]
      rw[zA F5 p [] 0 hw,zA F5 q [] 0 CB,heq]
    cases b with
    | false=>
     refine .inr ⟨.inl (wrap .i64 ((s:Int)+1),false,true,p.map cg,q.map cg,RV R,tG K mul,0,[],A,B,[],[],[],[],[],[],[],[],dJ R.length k'),?_,.inl ⟨_,_,_,k',dK,fun e=>(by cases e),fun _ _ k2 h2=>hle k2 h2 (YZ (hf rfl) h2),rfl⟩⟩;simp only[CD,zB,un];refine bT (bn c) ?_;rw[kz];exact bs ef (bs QX (bs QY (bF cy (bs ea (bT rfl rfl)))))
    | true=>
     refine .inl ⟨(((s+1:Nat):Int),p.map cg,q.map cg,RV R,tG K mul,0,[],A,B,[],[],[],[],[],[],[],[],dJ R.length (gn R k),dJ R.length k'),?_,⟨s+1,_,k',rfl,eG,dK,fun k2 h2 aP=>hle k2 h2 (by rw[ht rfl] at aP;omega),c⟩,?_⟩
     ·simp only[CD,zB,un];refine bT (bn c) ?_;rw[kz];refine bs ef (bs QX (bs QY (bF cy (bs ea (bF rfl ?_)))));rw[bq (by omega)];rfl
     ·show lim-((s+1:Nat):Int).toNat<lim-(s:Int).toNat
      omega
  ·refine .inr ⟨.inr ((s:Int),false,p.map cg,q.map cg,RV R,tG K mul,0,[],A,B,[],[],[],[],[],[],[],[],vs,dJ R.length k),?_,.inr ⟨_,_,_,k,hk,rfl⟩⟩;simp only[CD,zB,un];refine bF (aX (by omega)) ?_;rw[aX (by omega)]
 ·have z: ∀n,rk (gm R) (fun _=>0) n=0:=fun n=>by
   induction n with
   | zero=>rfl
   | succ n ih=>show rk (gm R) (fun _=>0) n*_+0=0;rw[ih,EK]
  rw[z];exact mi _
end
def j7 (mul:Nat→Nat→Nat) (bC bD:Nat→Bool) (i x:Nat):Bool:= !bC i||(bD i||decide (mul x x=x))
def nO (mul:Nat→Nat→Nat) (bC bD:Nat→Bool) (Z:List Nat) (nv:Nat):List (List Nat):=(List.range nv).map fun i=>Z.filter (j7 mul bC bD i)
theorem F6 {mul:Nat→Nat→Nat} {bC bD:Nat→Bool} {Z:List Nat} {nv:Nat}:(nO mul bC bD Z nv).length=nv:=by simp[nO]
theorem QZ {mul:Nat→Nat→Nat} {bC bD:Nat→Bool} {Z:List Nat} {nv i:Nat} (hi:i<nv):(nO mul bC bD Z nv).getD i []=Z.filter (j7 mul bC bD i):=by
 rw[rN,nO,ki,BH hi];rfl
section
variable {K:Nat} {mul:Nat→Nat→Nat} {Z:List Nat} (hZ: ∀z∈Z,z<K) (th:Z.length≤400) (bC bD:Nat→Bool) {nv:Nat} (hnv:nv≤6)
include hZ th hnv
theorem ajj:Loop (Lv CC (tG K mul) (nS Z) (nv:Int) (bC 0) (bC 1) (bC 2) (bC 3) (bC 4) (bC 5) (bD 0) (bD 1) (bD 2) (bD 3) (bD 4) (bD 5)) (0,List.replicate nv (V.list ab ([]:LV)))=some ((nv:Int),false,RV (nO mul bC bD Z nv)):=by
 have hO: ∀(f:Nat→Bool) (i:Nat),i<6→([.bool (f 0),.bool (f 1),.bool (f 2),.bool (f 3),.bool (f 4),.bool (f 5)]:LV)[0+(((i:Int).toNat)*1)]? =some (.bool (f i)):=by
  intro f i hi;rcases (by omega:i=0∨i=1∨i=2∨i=3∨i=4∨i=5) with rfl|rfl|rfl|rfl|rfl|rfl<;>rfl
 have inner: ∀{i:Nat} (hi:i<nv) {R:List (List Nat)} {a b:Int},R.length=nv→R.getD i []=[]→
   Loop (Lw CC (tG K mul) (nS Z) (i:Int) a b (nS Z) (Z.length:Int) (bC 0) (bC 1) (bC 2) (bC 3) (bC 4) (bC 5) (bD 0) (bD 1) (bD 2) (bD 3) (bD 4) (bD 5)) (0,RV R)=some ((Z.length:Int),false,RV (R.set i (Z.filter (j7 mul bC bD i)))):=by
  intro i hi R a b CE Y7;have e0:RV R=RV (R.set i ((Z.take 0).filter (j7 mul bC bD i))):=by
   have:R.set i []=R:=by
    refine sK (by simp) fun k h1 h2=> ?_;by_cases c:i=k
    ·subst c;rw[List.getElem_set_self];rw[rN,bY h2,Option.getD_some] at Y7;exact Y7.symm
    ·rw[List.getElem_set_ne c]
   rw[List.take_zero,List.filter_nil,this]
  rw[e0];refine fI Z.length (fun j=>((j:Int),RV (R.set i ((Z.take j).filter (j7 mul bC bD i))))) _ (fun j hj=> ?_) ?_
  ·have hz:=hZ _ (dc hj);have CF:(Z.take (j+1)).filter (j7 mul bC bD i)=(Z.take j).filter (j7 mul bC bD i)++(if j7 mul bC bD i Z[j]=true then [Z[j]] else []):=by
    rw[Kb hj,List.filter_append];refine congrArg _ ?_;by_cases c:j7 mul bC bD i Z[j]=true<;>simp[c]
   generalize hr:(Z.take j).filter (j7 mul bC bD i)=r at CF⊢;have h2:r.length≤400:=by
    rw[←hr];exact mM (Kd _ _) (mM (List.length_take_le _ _) (by omega))
   have kY:(RV (R.set i r))[i]? =some (.list ab (nS r)):=by simp[RV,CE,hi]
   have hlen:(RV (R.set i r)).length=nv:=by rw[Lx,pF,CE]
   have js:(RV (R.set i r)).set i (.list ab (nS r++[V.int .i64 (nV Z[j]).toInt]))=RV (R.set i (r++[Z[j]])):=by
    simp only[RV,List.map_set];rw[BG];simp[nS,nV]
   have zC:(decide (0≤(i:Int))&&decide ((i:Int)<6))=true:=kh.2 ⟨ca (by omega),ca (by omega)⟩;have app:j7 mul bC bD i Z[j]=true→(bif Nat.ble (((V.list ab (nS r)).toList.length+([V.int .i64 (nV Z[j]).toInt]:LV).length)*8) aY then
     CG (RV (R.set i r)) (i:Int) <| bif (Nat.beq ((i:Int).toNat) ((i:Int).toNat))&&true then
      some (Sum.inl (β:=Int×Bool×LV) (wrap .i64 ((j:Int)+1),bm (RV (R.set i r)) (i:Int) (.list ab ((V.list ab (nS r)).toList++([V.int .i64 (nV Z[j]).toInt]:LV)))))
     else none else none)=some (Sum.inl (((j+1:Nat):Int),RV (R.set i ((Z.take (j+1)).filter (j7 mul bC bD i))))):=by
    intro hc;rw[CF,aB hc,V.eH];refine bT (cap (by rw[dC];simp;omega) (by omega)) ?_;refine bT (o5 (by rw[hlen];exact hi)) (bT (by simp) ?_);simp only[bm,Int.toNat_natCast];rw[js,bq (by omega)]
   have Q0:(RV (R.set i r))[((i:Int).toNat)]? =some (.list ab (nS r)):=kY;simp only[Lw,F7,un];cases ho:bC i with
   | false=>exact bT (bn hj) (bs (iE hj) (bT zC (bs (hO bC i (by omega)) (bT (by rw[ho];rfl) ((b7 kY).trans (bs Q0 (app (by unfold j7;rw[ho];rfl))))))))
   | true=>
    cases he:bD i with
    | true=>exact bT (bn hj) (bs (iE hj) (bT zC (bs (hO bC i (by omega)) (bF (by rw[ho];rfl) (bT zC (bs (hO bD i (by omega)) (bT (by rw[he];rfl) ((b7 kY).trans (bs Q0 (app (by unfold j7;rw[ho,he];rfl)))))))))))
    | false=>
     by_cases cm:mul Z[j] Z[j]=Z[j]
     ·refine bT (bn hj) (bs (iE hj) (bT zC (bs (hO bC i (by omega)) (bF (by rw[ho];rfl) (bT zC (bs (hO bD i (by omega)) (bF (by rw[he];rfl) (bs (nL hz) (bs (p7 hz) (bT ?_ ((b7 kY).trans (bs Q0 (app ?_)))))))))))))
      ·show (((mul Z[j] Z[j]:Nat):Int)==((Z[j]:Nat):Int))=true;rw[cm];simp
      ·unfold j7;rw[ho,he,ca cm];rfl
     ·refine bT (bn hj) (bs (iE hj) (bT zC (bs (hO bC i (by omega)) (bF (by rw[ho];rfl) (bT zC (bs (hO bD i (by omega)) (bF (by rw[he];rfl) (bs (nL hz) (bs (p7 hz) (bF ?_ ?_))))))))))
      ·show (((mul Z[j] Z[j]:Nat):Int)==((Z[j]:Nat):Int))=false;rw[qH];exact fun e=>cm (by exact_mod_cast e)
      ·rw[CF,ax (by unfold j7;rw[ho,he,cZ cm];decide),ub,bq (by omega)]
  ·simp only[Lw,F7,un];refine bF (aX (aw _)) ?_;rw[aX (aw _),vu]
 have e0:List.replicate nv (V.list ab ([]:LV))=RV ((List.range nv).map fun k=>if k<0 then Z.filter (j7 mul bC bD k) else []):=by
  rw[RV,yX];refine (List.eq_replicate_iff.2 ⟨by simp,fun b hb=> ?_⟩).symm;obtain ⟨k,_,rfl⟩:=ia.1 hb;rfl
 rw[e0];refine fI nv (fun i=>((i:Int),RV ((List.range nv).map fun k=>if k<i then Z.filter (j7 mul bC bD k) else []))) _ (fun i hi=> ?_) ?_
 ·have e:=inner hi (R:=(List.range nv).map fun k=>if k<i then Z.filter (j7 mul bC bD k) else []) (a:=(nv:Int)) (b:=(i:Int)) (by simp) (by
   rw[rN,ki,BH hi];show (if i<i then _ else _)=_;rw[ax (nu _)])
  simp only[Lv,F8,un];refine bT (bn hi) (bs (by rw[dC];exact e) ?_);rw[bq (by omega)];refine congrArg (fun t=>some (Sum.inl (((i+1:Nat):Int),RV t))) (sK (by simp) fun k h1 h2=> ?_);rw[List.getElem_set];by_cases c:i=k
  ·subst c;simp
  ·rw[ax c];simp only[BI,BJ];by_cases c2:k<i
   ·rw[aB c2,aB (by omega)]
   ·rw[ax c2,ax (by omega)]
 ·simp only[Lv,F8,un];refine bF (aX (aw _)) ?_;rw[aX (aw _)];refine congrArg (fun t=>some (Sum.inr ((nv:Int),false,RV t))) (pH fun k hk=> ?_);rw[aB (fK.1 hk)]
end
theorem ajk {R:List (List Nat)} (hl:R.length≤10) (hlen: ∀i,i<R.length→(R.getD i []).length≤1000) {p q:List (Nat×Nat)} {t A B:LV} {one:Int} {l:LV}: ∃b,CC CH (p8 p q R t one A B [.list ab l])=some (.bool b::p8 p q R t one A B [.list ab l])∧(b=false→∀i,i<R.length→0<(R.getD i []).length)∧(b=true→∃i,i<R.length∧(R.getD i []).length=0):=by
 have key: ∃r,Loop (Ly CC (RV R) (R.length:Int)) 0=some r∧((∃i:Nat,(i<R.length∧(R.getD i []).length=0)∧r= .inl (i:Int))∨(r= .inr ((R.length:Int),false)∧∀j,j<R.length→0<(R.getD j []).length)):=by
  refine xY (fun i x=>x=(i:Int)∧∀j,j<i→0<(R.getD j []).length) (fun (r:Int ⊕ (Int×Bool))=>(∃i:Nat,(i<R.length∧(R.getD i []).length=0)∧r= .inl (i:Int))∨(r= .inr ((R.length:Int),false)∧∀j,j<R.length→0<(R.getD j []).length)) R.length (fun i hi x hx=> ?_) (fun x hx=> ?_) R.length 0 0 (dB _) ⟨rfl,fun j hj=>(by omega)⟩
  ·obtain ⟨rfl,hx⟩:=hx;have e1:CC xZ [.list ab (nS (R.getD i []))]=some [.bool ((((R.getD i []).length:Nat):Int)==0)]:=by
    refine ajl ?_;unfold Y8;rw[dC]
   simp only[Ly,F9];by_cases c:0<(R.getD i []).length
   ·refine .inl ⟨_,bT (bn hi) (bs (Cy hi) (bs (by rw[V.eH];exact e1) (bF ?_ rfl))),by rw[bq (by omega)],fun j hj=> ?_⟩
    ·show ((((R.getD i []).length:Nat):Int)==0)=false;rw[qH];omega
    ·by_cases cj:j=i
     ·rw[cj];exact c
     ·exact hx j (by omega)
   ·refine .inr ⟨_,bT (bn hi) (bs (Cy hi) (bs (by rw[V.eH];exact e1) (bT ?_ rfl))),.inl ⟨i,⟨hi,by omega⟩,rfl⟩⟩;show ((((R.getD i []).length:Nat):Int)==0)=true;rw[show (R.getD i []).length=0 by omega];rfl
  ·obtain ⟨rfl,hx⟩:=hx;simp only[Ly,F9];exact ⟨_,bF (aX (aw _)) rfl,.inr ⟨by rw[aX (aw _)],hx⟩⟩
 have fin: ∀b,CC LA [.list ag (RV R)]=some [.bool b]→CC CH (p8 p q R t one A B [.list ab l])=some (.bool b::p8 p q R t one A B [.list ab l]):=fun b hb=>by
  have ajm: ∀z,Q1 CC (p.map cg) (q.map cg) (RV R) t one [] A B [] [] [] [] [] [] [] [] l=z→CC CH (p8 p q R t one A B [.list ab l])=z:=fun z h=>ajn h;refine ajm _ ?_;unfold Q1;exact bs hb rfl
 obtain ⟨r,e,hr⟩:=key;rcases hr with ⟨i,hi,rfl⟩|⟨rfl,hr⟩
 ·refine ⟨true,fin _ (Y9 ?_),fun e=>(by cases e),fun _=>⟨i,hi⟩⟩;unfold Q2;refine bs (a:=[.int .i64 (i:Int)]) (Za ?_) ?_
  ·unfold Q3;rw[Lx];exact bs e rfl
  ·show some [V.bool (decide ((i:Int)≥0))]=_;rw[ca (by omega)]
 ·refine ⟨false,fin _ (Y9 ?_),fun _=>hr,fun e=>(by cases e)⟩;unfold Q2;refine bs (a:=[.int .i64 (-1)]) (Za ?_) rfl;unfold Q3;rw[Lx];exact bs e rfl
def CI (mul:Nat→Nat→Nat) (Z:List Nat) (d:gF) (v:Nat→Nat):Prop:= ∀i,i<d.nv→v i∈Z∧j7 mul d.bC d.bD i (v i)=true
section
variable {K:Nat} {mul:Nat→Nat→Nat} (h:Tb K mul) (ha: ∀i j k,i<K→j<K→k<K→mul (mul i j) k=mul i (mul j k)) (ae: ∀j,j<K→mul 0 j=j∧mul j 0=j) {Z:List Nat} (hZ: ∀z∈Z,z<K) (th:Z.length≤400) {d:gF} (hd:nc d)
include hZ th hd
theorem ajo:RG K (nO mul d.bC d.bD Z d.nv):=by
 have hn:=hd.nv;refine ⟨fun i hi x hx=> ?_,fun i hi=> ?_,by rw[F6];omega⟩
 ·rw[F6] at hi;rw[QZ hi] at hx;exact hZ x (vw.1 hx).1
 ·rw[F6] at hi;rw[QZ hi];exact mM (Kd _ _) (by omega)
theorem ajp:CC CJ (.list ag (tG K mul):: .list ab (nS Z)::cS d)=some [.list ag (RV (nO mul d.bC d.bD Z d.nv))]:=by
 have hn:=hd.nv;have e:=ajj (mul:=mul) hZ th d.bC d.bD hd.nv;have fin: ∀z,Q4 CC (tG K mul) (nS Z) d.l0 d.l1 d.l2 d.r0 d.r1 d.r2=z→CC CJ (.list ag (tG K mul):: .list ab (nS Z)::cS d)=z:=fun z h=>ajq h;refine fin _ ?_;unfold Q4;refine bs hd.v1 (bs hd.v2 (bs hd.vars (bT (gG (by omega) (by omega)) ?_)));rw[show (V.nth [V.int IntKind.i64 (d.nv:Int)] 0).toInt=(d.nv:Int) from rfl,Int.toNat_natCast,yW];exact bs e rfl
include h ha ae
theorem ajr:(CC CK (.list ag (tG K mul):: .list ab (nS Z)::cS d)=some [.bool true,.int .i64 1])∨∃A B,qU K mul d.p d.p.length A B∧qU K mul d.q d.q.length A B∧
  CC CK (.list ag (tG K mul):: .list ab (nS Z)::cS d)=some (.bool false::p8 d.p d.q (nO mul d.bC d.bD Z d.nv) (tG K mul) 0 A B [.list ab (dJ (nO mul d.bC d.bD Z d.nv).length fun _=>0)]):=by
 have hn:=hd.nv;have fin: ∀z,LB CC (tG K mul) (nS Z) d.l0 d.l1 d.l2 d.r0 d.r1 d.r2=z→CC CK (.list ag (tG K mul):: .list ab (nS Z)::cS d)=z:=fun z h=>ajs h;obtain ⟨b,hc⟩:=ajt h hZ th;cases b with
 | false=>
  refine .inl (fin _ ?_);unfold LB;exact bs (Q5 h ha) (bF rfl (bs hc (bT rfl rfl)))
 | true=>
  have er:=ajp (mul:=mul) hZ th hd;obtain ⟨A,B,_,_,hP,hQ,em⟩:=aja h ha hd.Zb hd.Zc hd.lp hd.lq (one:=0);refine .inr ⟨A,B,hP,hQ,fin _ ?_⟩;unfold LB;refine bs (Q5 h ha) (bF rfl (bs hc (bF rfl (bs hd.val (bF rfl (bs (aju h ha ae) (bF rfl (bs hd.cl (bs hd.cr (bs er (bs em ?_)))))))))));have hl:((V.nth [V.list ag (RV (nO mul d.bC d.bD Z d.nv))] 0).toList.length:Int)=((nO mul d.bC d.bD Z d.nv).length:Int):=by show ((RV _).length:Int)=_;rw[Lx]
  simp only[hl];refine bT (gG (by rw[F6];omega) (by omega)) ?_;rw[Int.toNat_natCast,show List.replicate (nO mul d.bC d.bD Z d.nv).length (V.int .i64 0)=dJ (nO mul d.bC d.bD Z d.nv).length fun _=>0 from o6];rfl
theorem ajv (eg:Int): ∃(s e:Int) (l:LV),CC Ga (.list ag (tG K mul):: .list ab (nS Z)::(cS d++[.int .i64 eg]))=some [.int .i64 s,.int .i64 e,.list ab l]∧
  (e=0→∃v,CI mul Z d v∧eM 0 mul (dQ mul) v d.p []≠eM 0 mul (dQ mul) v d.q [])∧(e=9→∀v,CI mul Z d v→eM 0 mul (dQ mul) v d.p []=eM 0 mul (dQ mul) v d.q [])∧(e=0∨e=9∨e=1∨e=7):=by
 have hk:=h.k1;have hn:=hd.nv;have fin: ∀z,vZ CC (tG K mul) (nS Z) d.l0 d.l1 d.l2 d.r0 d.r1 d.r2 eg=z→CC Ga (.list ag (tG K mul):: .list ab (nS Z)::(cS d++[.int .i64 eg]))=z:=fun z h=>ajw h;rcases ajr h ha ae hZ th hd with e0|⟨A,B,hP,hQ,e0⟩
 ·refine ⟨0,1,[],fin _ ?_,fun e=>(by cases e),fun e=>(by cases e),.inr (.inr (.inl rfl))⟩;unfold vZ;exact bs e0 (bT rfl (bT rfl rfl))
 ·by_cases c1:eg<1
  ·refine ⟨0,1,[],fin _ ?_,fun e=>(by cases e),fun e=>(by cases e),.inr (.inr (.inl rfl))⟩;unfold vZ;exact bs e0 (bF rfl (bT (ca c1) rfl))
  by_cases c2:eg>1048576
  ·refine ⟨0,1,[],fin _ ?_,fun e=>(by cases e),fun e=>(by cases e),.inr (.inr (.inl rfl))⟩;unfold vZ;exact bs e0 (bF rfl (bF (cZ c1) (bT (ca c2) rfl)))
  have hR:RG K (nO mul d.bC d.bD Z d.nv):=ajo hZ th hd;have CE:(nO mul d.bC d.bD Z d.nv).length=d.nv:=F6;have Q6: ∀i,i<d.nv→(nO mul d.bC d.bD Z d.nv).getD i []=Z.filter (j7 mul d.bC d.bD i):=fun i hi=>QZ hi;generalize nO mul d.bC d.bD Z d.nv=R at*
  obtain ⟨b,e1,hb,eR⟩:=ajk (R:=R) (by omega) hR.len (p:=d.p) (q:=d.q) (t:=tG K mul) (A:=A) (B:=B) (one:=0) (l:=dJ R.length fun _=>0);cases b with
  | true=>
   refine ⟨0,9,[],fin _ ?_,fun e=>(by cases e),fun _ v hv=> ?_,.inr (.inl rfl)⟩
   ·unfold vZ;exact bs e0 (bF rfl (bF (cZ c1) (bF (cZ c2) (bs e1 (bT rfl rfl)))))
   ·obtain ⟨i,hi,h0⟩:=eR rfl;obtain ⟨v1,v2⟩:=hv i (by omega);rw[Q6 i (by omega)] at h0;have:=vw.2 ⟨v1,v2⟩;rw[vr.1 h0] at this;cases this
  | false=>
   have bp: ∀i,i<R.length→0<gm R i:=hb rfl;obtain ⟨lim,rfl⟩:=Ke (show 0≤eg by omega);have Zd:ng R.length d.p 0=some 1:=by rw[CE];exact hd.wp
   have Ze:ng R.length d.q 0=some 1:=by rw[CE];exact hd.wq
   obtain ⟨s,b1,b2,k',dK,ti,ml,e2⟩:=ajh h hR hd.Zb hd.Zc hd.lp hd.lq hP hQ Zd Ze bp (lim:=lim) (by omega);cases b1 with
   | true=>
    have e3:=Y2 hR dK (p:=d.p) (q:=d.q) (t:=tG K mul) (A:=A) (B:=B) (one:=0);refine ⟨s,0,dJ R.length (gn R k'),fin _ ?_,fun _=>⟨gn R k',fun i hi=> ?_,ti rfl⟩,fun e=>(by cases e),.inl rfl⟩
    ·unfold vZ;exact bs e0 (bF rfl (bF (cZ c1) (bF (cZ c2) (bs e1 (bF rfl (bs e2 (bT rfl (bs e3 rfl))))))))
    ·have aP:=dK i (by omega);unfold gm at aP;have hm:gn R k' i∈R.getD i []:=by
      unfold gn;rw[cE aP];exact dc _
     rw[Q6 i hi] at hm;exact vw.1 hm
   | false=>
    cases b2 with
    | true=>
     refine ⟨s,9,[],fin _ ?_,fun e=>(by cases e),fun _ v hv=> ?_,.inr (.inl rfl)⟩
     ·unfold vZ;exact bs e0 (bF rfl (bF (cZ c1) (bF (cZ c2) (bs e1 (bF rfl (bs e2 (bF rfl (bT rfl rfl))))))))
     ·have hex: ∀i,∃j,i<R.length→j<gm R i∧(R.getD i []).getD j 0=v i:=fun i=>by
       by_cases c:i<R.length
       ·have hm:=vw.2 (hv i (by omega));rw[←Q6 i (by omega)] at hm;obtain ⟨j,hj,e⟩:=List.mem_iff_getElem.1 hm;exact ⟨j,fun _=>⟨hj,by rw[cE hj,e]⟩⟩
       ·exact ⟨0,fun c3=>absurd c3 c⟩
      obtain ⟨k,hk⟩:=Classical.axiomOfChoice hex;have:=ml rfl rfl k fun i hi=>(hk i hi).1;have F5: ∀i,i<R.length→gn R k i=v i:=fun i hi=>(hk i hi).2;rwa [zA F5 d.p [] 0 Zd,zA F5 d.q [] 0 Ze] at this
    | false=>
     refine ⟨0,7,[],fin _ ?_,fun e=>(by cases e),fun e=>(by cases e),.inr (.inr (.inr rfl))⟩;unfold vZ;exact bs e0 (bF rfl (bF (cZ c1) (bF (cZ c2) (bs e1 (bF rfl (bs e2 (bF rfl (bF rfl rfl))))))))
end
def ik (rows:LV) (c:Nat):Bool:=((rows.getD c (.bool false)).cell 1).toBool
def p9 (m:Da) (S:List (List Nat)) (j:Nat):Bool:=if j=0 then v5 m.L m.gT S S.length else true
def CL (m:Da) (S:List (List Nat)) (mo:Bool):List Nat:=(List.range S.length).filter fun z=>p9 m S z||mo
def qa (m:Da) (S:List (List Nat)) (mo:Bool) (ids:List gF):Prop:= ∀d∈ids,∀v,CI (cw S) (CL m S mo) d v→eM 0 (cw S) (dQ (cw S)) v d.p []=eM 0 (cw S) (dQ (cw S)) v d.q []
section
variable {rows:LV} {jM:Nat→List gF} (hC:FE rows jM) {m:Da} {S:List (List Nat)} {f:Nat→List UInt8} (hm:m.Ok) (hS:qb m S) (hV:CC zD (qc m S f)=some [.int .i64 0]) {c:Nat} (hc:c<17)
include hC hS hV hc
omit hS in
theorem ajx (hle:S.length≤400):CC Gb (qc m S f++[.int .i64 (c:Int)])=some [.int .i64 0,.list ab (nS (CL m S (ik rows c)))]:=by
 obtain ⟨x,hx,_⟩:=hC.cls c hc;have hl:=hC.len;have nP:ik rows c=(x.cell 1).toBool:=by
  unfold ik;rw[rN,hx];rfl
 have pl:(j8 m.L m.gT S S.length).length=S.length:=eG;have fin: ∀z,Q7 CC (m.L:Int) (qd S) (tab S.length fun j=> .str (f j)) (mA m S) (nQ m S) (j8 m.L m.gT S S.length) (c:Int)=z→CC Gb (qc m S f++[.int .i64 (c:Int)])=z:=fun z h=>ajy h;refine fin _ ?_;unfold Q7;rw[pl];refine bs hV (bF rfl (bs hC.xU (bF xV (bF ?_ (bs (fI S.length (fun i=>((i:Int),nS ((List.range i).filter fun z=>p9 m S z||ik rows c))) ((S.length:Int),false,nS (CL m S (ik rows c))) (fun i hi=> ?_) ?_) rfl)))))
 ·show decide ((c:Int)≥(rows.length:Int))=false;rw[hl];exact cZ (by omega)
 ·have hb:idx (j8 m.L m.gT S S.length) (i:Int)=some (.bool (p9 m S i)):=qV hi;have gR:((List.range i).filter fun z=>p9 m S z||ik rows c).length≤i:=by
   have:=Kd (fun z=>p9 m S z||ik rows c) (List.range i);rwa [jC] at this
  have app:(p9 m S i||ik rows c)=true→(bif Nat.ble (((nS ((List.range i).filter fun z=>p9 m S z||ik rows c)).length+([V.int .i64 (i:Int)]:LV).length)*8) aY then some (Sum.inl (β:=Int×Bool×LV) (wrap .i64 ((i:Int)+1),nS ((List.range i).filter fun z=>p9 m S z||ik rows c)++([V.int .i64 (i:Int)]:LV))) else none)=some (.inl (((i+1:Nat):Int),nS ((List.range (i+1)).filter fun z=>p9 m S z||ik rows c))):=by
   intro hc;refine bT (cap (by rw[dC];simp;omega) (by omega)) ?_;rw[bq (by omega),BK,List.filter_append];simp[nS,nV,hc]
  simp only[Q8,Gc,un];cases Gd:p9 m S i with
  | true=>exact bT (bn hi) (bs hb (bT Gd (app (by rw[Gd];rfl))))
  | false=>
   cases j9:(x.cell 1).toBool with
   | true=>exact bT (bn hi) (bs hb (bF Gd ((b7 hx).trans (bT j9 (app (by rw[nP,j9,Bool.or_true]))))))
   | false=>
    refine bT (bn hi) (bs hb (bF Gd ((b7 hx).trans (bF j9 ?_))));rw[bq (by omega),BK,List.filter_append];simp[Gd,nP,j9]
 ·simp only[Q8,Gc,un];refine bF (aX (aw _)) ?_;rw[aX (aw _)];rfl
include hm
theorem ajz {bud:Int} (hb:1≤bud∧bud≤1048576): ∃(b:Bool) (i j e:Int) (l:LV),CC FJ (qc m S f++[.int .i64 (c:Int),.int .i64 bud])=some [.bool b,.int .i64 i,.int .i64 j,.int .i64 e,.list ab l]∧
  (e=0→b=true→qa m S (ik rows c) (jM c))∧(e=0→b=false→¬qa m S (ik rows c) (jM c))∧(e=0∨e=1∨e=7):=by
 have hle:=hS.le;have eE:=ajx hC hV hc hle;have hZ: ∀z∈CL m S (ik rows c),z<S.length:=fun z hz=>fK.1 (vw.1 hz).1;have th:(CL m S (ik rows c)).length≤S.length:=by
  have:=Kd (fun z=>p9 m S z||ik rows c) (List.range S.length);rwa [jC] at this
 unfold qa;generalize CL m S (ik rows c)=Z at*
 obtain ⟨x,hx,a,b,e,f',lb⟩:=hC.cls c hc;have se:=hC.il c hc;have aq:=hC.ok c hc;generalize jM c=ids at lb se aq⊢;have hT:Tb S.length (cw S):=⟨hS.pos,hS.le,fun _ _ hi hj=>Q9 hm hS hi hj⟩
 have hA: ∀i j k,i<S.length→j<S.length→k<S.length→cw S (cw S i j) k=cw S i (cw S j k):=fun _ _ _ hi hj hk=>Zf hm hS hi hj hk;have ae: ∀j,j<S.length→cw S 0 j=j∧cw S j 0=j:=fun j hj=>by
  obtain ⟨w,hw,rfl⟩:=uy hS hj;have e0:vl m S []=0:=LC hS;refine ⟨?_,?_⟩
  ·rw[←e0,uz hm hS WL.nil hw];rfl
  ·rw[←e0,uz hm hS hw WL.nil,ub]
 have key:=xY (step:=LD CC bud (ids.length:Int) (m.L:Int) (qd S) (tab S.length fun j=> .str (f j)) (mA m S) (nQ m S) (j8 m.L m.gT S S.length) (nS Z) (ids.map fun d=> .agg (cS d)))
  (fun i y=>(∃t:Int,y=(t,(i:Int)))∧∀j (hj:j<ids.length),j<i→∀v,CI (cw S) Z ids[j] v→eM 0 (cw S) (dQ (cw S)) v ids[j].p []=eM 0 (cw S) (dQ (cw S)) v ids[j].q [])
  (fun (r:(Bool×Int×Int×Int×LV) ⊕ (Int×Int×Bool))=>(∃i j e l,r= .inl (false,i,j,e,l)∧(e=0∨e=1∨e=7)∧(e=0→∃d∈ids,∃v,CI (cw S) Z d v∧eM 0 (cw S) (dQ (cw S)) v d.p []≠eM 0 (cw S) (dQ (cw S)) v d.q []))∨((∃t i b,r= .inr (t,i,b))∧∀d∈ids,∀v,CI (cw S) Z d v→eM 0 (cw S) (dQ (cw S)) v d.p []=eM 0 (cw S) (dQ (cw S)) v d.q [])) ids.length (fun i hi y hy=> ?_) (fun y hy=> ?_) ids.length 0 (0,0) (dB _) ⟨⟨0,rfl⟩,fun j _ hj=>(by omega)⟩
 ·obtain ⟨r,el,hr⟩:=key;have fin: ∀z,LF CC (m.L:Int) (qd S) (tab S.length fun j=> .str (f j)) (mA m S) (nQ m S) (j8 m.L m.gT S S.length) (c:Int) bud=z→CC FJ (qc m S f++[.int .i64 (c:Int),.int .i64 bud])=z:=fun z h=>ajA h;have hl:((ids.map fun d=>V.agg (cS d)).length:Int)=(ids.length:Int):=by rw[dE]
  rw[←hl] at el;rcases hr with ⟨i,j,e,l,rfl,he,hv⟩|⟨⟨t,i,b,rfl⟩,CM⟩
  ·refine ⟨false,i,j,e,l,fin _ ?_,fun _ h=>(by cases h),fun h0 _ hn=> ?_,he⟩
   ·unfold LF;refine bs eE (bF rfl (bF (cZ (by omega)) (bF (cZ (by omega)) (bs hC.xU ((b7 hx).trans (bs lb ?_))))));exact bs el rfl
   ·obtain ⟨d,hd,v,h1,h2⟩:=hv h0;exact h2 (hn d hd v h1)
  ·refine ⟨true,-1,t,0,[],fin _ ?_,fun _ _=>CM,fun _ h=>(by cases h),.inl rfl⟩;unfold LF;refine bs eE (bF rfl (bF (cZ (by omega)) (bF (cZ (by omega)) (bs hC.xU ((b7 hx).trans (bs lb ?_))))));exact bs el rfl
 ·obtain ⟨⟨t,rfl⟩,F4⟩:=hy;have j6:(ids.map fun d=>V.agg (cS d))[i]? =some (.agg (cS ids[i])):=by simp[hi]
  obtain ⟨s,e2,l,hv,Ra,hv9,hve⟩:=ajv hT hA ae hZ (by omega) (aq _ (dc hi)) (wrap .i64 (bud-t));simp only[LD,Ge,un];by_cases ct:(t==bud)=true
  ·exact .inr ⟨.inl (false,0,0,7,[]),bT (bn hi) ((b7 j6).trans (bT ct rfl)),.inl ⟨0,0,7,[],rfl,.inr (.inr rfl),fun h=>(by cases h)⟩⟩
  have ct:(t==bud)=false:=by simpa using ct
  by_cases c0:e2=0
  ·exact .inr ⟨_,bT (bn hi) ((b7 j6).trans (bF ct (bs hv (bT (by show (e2==0)=true;rw[c0];rfl) rfl)))),.inl ⟨(i:Int),wrap .i64 (t+s),0,l,rfl,.inl rfl,fun _=>⟨_,dc hi,Ra c0⟩⟩⟩
  have Zg:(e2==0)=false:=by simpa using c0
  by_cases c9:e2=9
  ·refine .inl ⟨(wrap .i64 (t+s),((i+1:Nat):Int)),bT (bn hi) ((b7 j6).trans (bF ct (bs hv (bF Zg (bT (by show (e2==9)=true;rw[c9];rfl) ?_))))),⟨_,rfl⟩,fun j hj hji=> ?_⟩
   ·rw[bq (by omega)];rfl
   ·by_cases cj:j=i
    ·subst cj;exact hv9 c9
    ·exact F4 j hj (by omega)
  ·have c9':(e2==9)=false:=by simpa using c9
   exact .inr ⟨_,bT (bn hi) ((b7 j6).trans (bF ct (bs hv (bF Zg (bF c9' rfl))))),.inl ⟨0,0,e2,[],rfl,by omega,fun h=>absurd h c0⟩⟩
 ·obtain ⟨⟨t,rfl⟩,F4⟩:=hy;simp only[LD,Ge,un];refine ⟨.inr (t,(ids.length:Int),decide ((ids.length:Int)<(ids.length:Int))),bF (aX (aw _)) rfl,.inr ⟨⟨t,(ids.length:Int),decide ((ids.length:Int)<(ids.length:Int)),rfl⟩,fun d hd=> ?_⟩⟩;obtain ⟨j,hj,rfl⟩:=List.mem_iff_getElem.1 hd;exact F4 j hj (by omega)
end
section
variable {rows:LV} {jM:Nat→List gF} (hC:FE rows jM)
include hC
theorem ajB {a:Da} (ha:a.Ok) (mB:(minD a).n≤32): ∃(z:Int) (l:LV),CC zu (iW a [.int .i64 3000])=some [.int .i64 z,.list ab l]∧(z≠0∨(z=0∧l.length=17∧∃S,qb (minD a) S∧∀c,c<17→∃n:Int,l[c]? =some (.int .i64 n)∧(n=1→qa (minD a) S (ik rows c) (jM c))∧(n=0→¬qa (minD a) S (ik rows c) (jM c)))):=by
 have A: ∀{a:Da} z,Cu CC (a.L:Int) (a.st:Int) a.cG a.cN 3000=z→CC zu (iW a [.int .i64 3000])=z:=fun z h=>YF h;have LG:CC FH [.int .i64 3000]=some [.bool true]:=YE rfl;rcases ajC ha mB with ⟨eO,_⟩|⟨S,f,eO,hS⟩
 ·refine ⟨3,[],A _ ?_,.inl (by omega)⟩;unfold Cu;exact bs (o7 ha) (bF rfl (bs LG (bF rfl (bs eO (bT rfl rfl)))))
 ·obtain ⟨cl,lb,eC⟩:=ai3 hC;have hm:=jN ha;have hV:=ajD ha hS eO;have key:=lN (step:=Lc CC 3000 (17:Int) ((minD a).L:Int) (qd S) (tab S.length fun j=> .str (f j)) (mA (minD a) S) (nQ (minD a) S) (j8 (minD a).L (minD a).gT S S.length))
   (fun i y=> ∃l:LV,l.length=i∧(∀c,c<i→∃n:Int,l[c]? =some (.int .i64 n)∧(n=1→qa (minD a) S (ik rows c) (jM c))∧(n=0→¬qa (minD a) S (ik rows c) (jM c)))∧y=((i:Int),l))
   (fun r=> ∃l:LV,l.length=17∧(∀c,c<17→∃n:Int,l[c]? =some (.int .i64 n)∧(n=1→qa (minD a) S (ik rows c) (jM c))∧(n=0→¬qa (minD a) S (ik rows c) (jM c)))∧r=(17,false,l)) 17 0 (0,([]:LV)) (fun i _ hi y hy=> ?_) (fun y hy=> ?_) ⟨[],rfl,fun c hc=>(by omega),rfl⟩
  ·obtain ⟨r,el,l,h1,h2,rfl⟩:=key;have ajE:((V.nth [V.list FG cl] 0).toList.length:Int)=17:=by show (cl.length:Int)=17;omega
   refine ⟨0,l,A _ ?_,.inr ⟨rfl,h1,S,hS,h2⟩⟩;unfold Cu;refine bs (o7 ha) (bF rfl (bs LG (bF rfl (bs eO (bF rfl (bs eC ?_))))));rw[ajE];exact bs el rfl
  ·obtain ⟨l,h1,h2,rfl⟩:=hy;obtain ⟨b',i',j',e',l',hM,ht,hf,he⟩:=ajz hC hm hS hV (c:=i) (by omega) (bud:=3000) (by omega);have bQ: ∀v:V,Nat.ble ((l.length+([v]:LV).length)*8) aY=true:=fun v=>cap (by simp;omega) (by omega);have ext: ∀n:Int,(n=1→qa (minD a) S (ik rows i) (jM i))→(n=0→¬qa (minD a) S (ik rows i) (jM i))→∀c,c<i+1→∃n':Int,(l++[V.int .i64 n])[c]? =some (.int .i64 n')∧(n'=1→qa (minD a) S (ik rows c) (jM c))∧(n'=0→¬qa (minD a) S (ik rows c) (jM c)):=fun n k1 k2 c hc=>by
    by_cases cc:c=i
    ·subst cc;exact ⟨n,by rw[←h1,oV (aw _),Nat.sub_self];rfl,k1,k2⟩
    ·obtain ⟨n',g1,g2⟩:=h2 c (by omega);exact ⟨n',by rw[nz (by omega)];exact g1,g2⟩
   simp only[Lc,FI,un];by_cases c:e'=0
   ·have c':(e' != 0)=false:=by rw[c];rfl
    cases b' with
    | true=>
     refine ⟨(((i+1:Nat):Int),l++[.int .i64 1]),bT (ca (by omega)) (bs hM (bF c' (bT rfl (bT (bQ _) ?_)))),_,by simp[h1],ext 1 (fun _=>ht c rfl) (fun h=>(by omega)),rfl⟩;rw[bq (by omega)]
    | false=>
     refine ⟨(((i+1:Nat):Int),l++[.int .i64 0]),bT (ca (by omega)) (bs hM (bF c' (bF rfl (bT (bQ _) ?_)))),_,by simp[h1],ext 0 (fun h=>(by omega)) (fun _=>hf c rfl),rfl⟩;rw[bq (by omega)]
   ·have c':(e' != 0)=true:=by rw[bne_iff_ne];exact c
    refine ⟨(((i+1:Nat):Int),l++[.int .i64 (0-e')]),bT (ca (by omega)) (bs hM (bT c' (bT (bQ _) ?_))),_,by simp[h1],ext (0-e') (fun h=>(by omega)) (fun h=>(by omega)),rfl⟩;rw[bq (by omega)];have w:wrap .i64 (0-e')=0-e':=wrap64 (by omega) (by omega);show some (Sum.inl (_,l++[V.int .i64 (wrap .i64 (0-e'))]))=_;rw[w]
  ·obtain ⟨l,h1,h2,rfl⟩:=hy;simp only[Lc,FI,un];exact ⟨_,bF rfl rfl,l,h1,h2,rfl⟩
end
end Go.AM
set_option maxRecDepth 100000
namespace Go.AM
open Go.IntKind (wrap)
open Go.Proofs
namespace Da
theorem LH.reach {d:Da} (h1:1≤d.L) (h:d.LH): ∀t,t≤d.n*d.L→∀q,q<d.mt t→∃w,WL d.L w∧d.run 0 w=q
 | 0,_,q,hq=>⟨[],WL.nil,by have:q<1:=hq;show 0=q;omega⟩
 | t+1,ht,q,hq=>by
  have ih:=h.reach h1 t (by omega);rcases jD q (d.mt t) with c|c
  ·exact ih q c
  ·have e:d.pos t=q:=by
    unfold mt at hq;split at hq
    ·rename_i h3;omega
    ·omega
   have hx:t %d.L<d.L:=yY _ (by omega);have hp:t/d.L<d.n:=by rw[Kf (by omega)];omega
   have h2:=h.row _ hp;have h3:=d.LI (Nat.div_mul_le_self t d.L);obtain ⟨w,hw,hr⟩:=ih (t/d.L) (by omega);refine ⟨w++[t %d.L],WL.app.2 ⟨hw,WL.nil.cons hx⟩,?_⟩;rw[Zh,hr];exact e
end Da
theorem Zi {a:Da} (h:a.Ok) {q:Nat} (hq:q<(minD a).n): ∃w,WL a.L w∧(minD a).run (minD a).st w=q:=by
 have hc:=v7 h;obtain ⟨w,hw,hr⟩:=hc.num.reach (jN h).l1 _ (aw _) q (by rw[hc.num.all];exact hq);exact ⟨w,by rw[tj h] at hw;exact hw,by rw[Zj h];exact hr⟩
end Go.AM
set_option maxRecDepth 100000
namespace Go.AM
open Go.IntKind (wrap)
open Go.Proofs
def CN (w:List Nat):Nat→List Nat
 | 0=>w
 | k+1=>CN w k++w
noncomputable def oF (n:Nat) (w:List Nat):List Nat:=CN w (eN-1+n)
noncomputable def uW (d:gF) (t:Nat→List Nat) (i:Nat):List Nat:=if (d.bC i&& !d.bD i)=true then oF 0 (t i) else t i
noncomputable def Rb (u:Nat→List Nat) (p:List (Nat×Nat)):Option (List (List Nat)):=eM [] (fun a b=>a++b) oF u p []
def Zk (L:Nat) (P:List Nat→Bool) (mo:Bool) (d:gF):Prop:= ∀t:Nat→List Nat,(∀i,WL L (t i)∧(mo=true∨t i≠[]))→∀l r,WL L l→WL L r→Rb (uW d t) d.p=some [l]→Rb (uW d t) d.q=some [r]→∀x y,WL L x→WL L y→P (x++(l++y))=P (x++(r++y))
theorem Gf {L:Nat} {w:List Nat} (h:WL L w): ∀k,WL L (CN w k)
 | 0=>h
 | k+1=>WL.app.2 ⟨Gf h k,h⟩
theorem Zl {w:List Nat} (h:w≠[]): ∀k,CN w k≠[]
 | 0=>h
 | k+1=>fun e=>Zl h k (List.append_eq_nil_iff.1 e).1
theorem Rc {α:Type} {one:α} {mul:α→α→α} {po:Nat→α→α} {v:Nat→α} {m:Nat}: ∀(p:List (Nat×Nat)) (st:List α),ng m p st.length=some 1→∃y,eM one mul po v p st=some [y]
 | [],st,hr=>by
  have h1:st.length=1:=by simpa[ng] using hr
  match st,h1 with
  | [y],_=>exact ⟨y,rfl⟩
 | (k,n)::p,st,hr=>by
  simp only[ng] at hr;cases hs:xX m st.length (k,n) with
  | none=>rw[hs] at hr;cases hr
  | some t'=>
   rw[hs,Option.bind_some] at hr;have pZ: ∃st',oE one mul po v (k,n) st=some st'∧st'.length=t':=by
    by_cases k0:k=0
    ·subst k0;rw[YS] at hs;by_cases c:st.length<60
     ·rw[aB c] at hs;exact ⟨one::st,rfl,by cases hs;rfl⟩
     ·rw[ax c] at hs;cases hs
    by_cases k1:k=1
    ·subst k1;rw[QV] at hs;by_cases c:st.length<60∧n<m
     ·rw[aB c] at hs;exact ⟨v n::st,rfl,by cases hs;rfl⟩
     ·rw[ax c] at hs;cases hs
    by_cases k2:k=2
    ·subst k2;rw[YT] at hs;by_cases c:2≤st.length
     ·rw[aB c] at hs
      match st,c with
      | b::a::r,_=>exact ⟨mul a b::r,rfl,by cases hs;simp⟩
     ·rw[ax c] at hs;cases hs
    ·by_cases k3:k=3
     ·subst k3;rw[YV] at hs;by_cases c:1≤st.length
      ·rw[aB c] at hs
       match st,c with
       | a::r,_=>exact ⟨po n a::r,rfl,by cases hs;rfl⟩
      ·rw[ax c] at hs;cases hs
     ·simp[xX,k0,k1,k2,k3] at hs
   obtain ⟨st',e1,e2⟩:=pZ;rw[←e2] at hr;obtain ⟨y,hy⟩:=Rc p st' hr;exact ⟨y,by show (oE one mul po v (k,n) st).bind _=_;rw[e1];exact hy⟩
section
variable {m:Da} (hm:m.Ok) {S:List (List Nat)} (hS:qb m S)
include hm hS
theorem Re {w:List Nat} (hw:WL m.L w): ∀k,vl m S (CN w k)=pw (cw S) (vl m S w) k
 | 0=>rfl
 | k+1=>by
  show vl m S (CN w k++w)=cw S (pw (cw S) (vl m S w) k) (vl m S w);rw[←Re hw k,uz hm hS (Gf hw k) hw]
theorem ajF {u:Nat→List Nat} (hu: ∀i,WL m.L (u i)) (s:Nat×Nat) (st:List (List Nat)) (cQ: ∀w∈st,WL m.L w):
  oE 0 (cw S) (dQ (cw S)) (fun i=>vl m S (u i)) s (st.map (vl m S))=(oE [] (fun a b=>a++b) oF u s st).map (List.map (vl m S))∧∀st',oE [] (fun a b=>a++b) oF u s st=some st'→∀w∈st',WL m.L w:=by
 obtain ⟨k,n⟩:=s;have cons: ∀{w:List Nat} {r:List (List Nat)},WL m.L w→(∀x∈r,WL m.L x)→∀x∈w::r,WL m.L x:=fun hw hr x hx=>by
  rcases fl.1 hx with rfl|hx
  ·exact hw
  ·exact hr x hx
 unfold oE;by_cases k0:k=0
 ·simp only[k0,pD];refine ⟨?_,fun st' e=> ?_⟩
  ·show some (0::st.map (vl m S))=some (vl m S []::st.map (vl m S));rw[LC hS]
  ·cases e;exact cons WL.nil cQ
 by_cases k1:k=1
 ·simp only[k0,k1,qG,pD];exact ⟨rfl,fun st' e=>by cases e;exact cons (hu n) cQ⟩
 by_cases k2:k=2
 ·simp only[k0,k1,k2,qG,pD]
  match st,cQ with
  | [],_=>exact ⟨rfl,fun _ e=>by cases e⟩
  | [_],_=>exact ⟨rfl,fun _ e=>by cases e⟩
  | b::a::r,cQ=>
   have hb:=cQ b (pG ..);have ha:=cQ a (jA _ (pG ..));refine ⟨?_,fun st' e=>by cases e;exact cons (WL.app.2 ⟨ha,hb⟩) fun x hx=>cQ x (jA _ (jA _ hx))⟩;show some (cw S (vl m S a) (vl m S b)::r.map (vl m S))=some (vl m S (a++b)::r.map (vl m S));rw[uz hm hS ha hb]
 ·simp only[k0,k1,k2,qG]
  match st,cQ with
  | [],_=>exact ⟨rfl,fun _ e=>by cases e⟩
  | a::r,cQ=>
   have ha:=cQ a (pG ..);refine ⟨?_,fun st' e=>by cases e;exact cons (Gf ha _) fun x hx=>cQ x (jA _ hx)⟩;show some (dQ (cw S) n (vl m S a)::r.map (vl m S))=some (vl m S (oF n a)::r.map (vl m S));unfold dQ oF;rw[Re hm hS ha]
theorem Zm {u:Nat→List Nat} (hu: ∀i,WL m.L (u i)): ∀(p:List (Nat×Nat)) (st:List (List Nat)),(∀w∈st,WL m.L w)→
  eM 0 (cw S) (dQ (cw S)) (fun i=>vl m S (u i)) p (st.map (vl m S))=(eM [] (fun a b=>a++b) oF u p st).map (List.map (vl m S))∧∀st',eM [] (fun a b=>a++b) oF u p st=some st'→∀w∈st',WL m.L w
 | [],st,cQ=>⟨rfl,fun st' e=>by cases e;exact cQ⟩
 | s::p,st,cQ=>by
  obtain ⟨e1,h1⟩:=ajF hm hS hu s st cQ;show (oE 0 (cw S) (dQ (cw S)) (fun i=>vl m S (u i)) s (st.map (vl m S))).bind _=((oE [] (fun a b=>a++b) oF u s st).bind _).map _∧∀st',(oE [] (fun a b=>a++b) oF u s st).bind _=some st'→_;rw[e1];cases hs:oE [] (fun a b=>a++b) oF u s st with
  | none=>exact ⟨rfl,fun _ e=>by cases e⟩
  | some kC=>exact Zm hu p kC (h1 kC hs)
theorem LJ {u:Nat→List Nat} (hu: ∀i,WL m.L (u i)) {p:List (Nat×Nat)} {l:List Nat} (h:Rb u p=some [l]):eM 0 (cw S) (dQ (cw S)) (fun i=>vl m S (u i)) p []=some [vl m S l]∧WL m.L l:=by
 obtain ⟨e1,h1⟩:=Zm hm hS hu p [] fun _ h=>by cases h
 refine ⟨?_,h1 [l] h l (pG ..)⟩;have h:eM [] (fun a b=>a++b) oF u p []=some [l]:=h;rw[h] at e1;exact e1
omit hm in
theorem ajG {j:Nat} (hj:j<S.length) (hp:p9 m S j=true): ∃w,WL m.L w∧vl m S w=j∧w≠[]:=by
 by_cases c:j=0
 ·subst c;have hp:v5 m.L m.gT S S.length=true:=hp;obtain ⟨a,ha,h0⟩:=EF hp;obtain ⟨w,hw,rfl⟩:=uy hS ha;rw[ya hS hw] at h0;obtain ⟨x,hx,e⟩:=List.mem_iff_getElem.1 h0;have LL:x<m.L:=by simpa[eZ] using hx
  refine ⟨w++[x],WL.app.2 ⟨hw,WL.cons LL WL.nil⟩,?_,by simp⟩;rw[←Zn (m:=m) LL,cE hx,e]
 ·obtain ⟨w,hw,e⟩:=uy hS hj;refine ⟨w,hw,e,fun h=>c ?_⟩;rw[←e,h,LC hS]
omit hm in
theorem ajH {w:List Nat} (hw:WL m.L w) (bp:w≠[]):p9 m S (vl m S w)=true:=by
 unfold p9;by_cases c:vl m S w=0
 ·rw[aB c];obtain ⟨w',x,rfl⟩: ∃w' x,w=w'++[x]:=⟨w.dropLast,w.getLast bp,(List.dropLast_concat_getLast bp).symm⟩
  obtain ⟨h1,h2⟩:=WL.app.1 hw;have hx:x<m.L:=h2.head;refine ca ⟨vl m S w',zE hS h1,?_⟩;rw[ya hS h1];have e:=Zn (m:=m) (S:=S) (w:=w') hx;rw[c] at e;have hlen:x<(eZ m.L m.gT S (ld m w')).length:=by simpa[eZ] using hx
  rw[cE hlen] at e;rw[←e];exact dc _
 ·rw[ax c]
end
section
variable {a:Da} (ha:a.Ok) {S:List (List Nat)} (hS:qb (minD a) S)
include ha hS
theorem Zo {l r:List Nat} (hl:WL a.L l) (hr:WL a.L r):vl (minD a) S l=vl (minD a) S r↔∀x y,WL a.L x→WL a.L y→a.acc a.st (x++(l++y))=a.acc a.st (x++(r++y)):=by
 have hm:=jN ha;have hL:=tj ha;have hc:=v7 ha;have e: ∀{x w y:List Nat},WL a.L x→WL a.L w→WL a.L y→a.acc a.st (x++(w++y))=(minD a).acc ((minD a).run ((minD a).run (minD a).st x) w) y:=fun hx hw hy=>by
  rw[←zF ha (WL.app.2 ⟨hx,WL.app.2 ⟨hw,hy⟩⟩),Da.CO,Da.CO]
 rw[ajI hm hS (by rw[hL];exact hl) (by rw[hL];exact hr)];constructor
 ·intro h x y hx hy;rw[e hx hl hy,e hx hr hy,h _ (hm.yb _ hm.s (by rw[hL];exact hx))]
 ·intro h q hq;obtain ⟨x,hx,rfl⟩:=Zi ha hq;refine hc.red _ _ (hm.yb _ (hm.yb _ hm.s (by rw[hL];exact hx)) (by rw[hL];exact hl)) (hm.yb _ (hm.yb _ hm.s (by rw[hL];exact hx)) (by rw[hL];exact hr)) fun y hy=> ?_;rw[hL] at hy;rw[←e hx hl hy,←e hx hr hy];exact h x y hx hy
theorem ajJ {mo:Bool} {ids:List gF} (aq: ∀d∈ids,nc d):qa (minD a) S mo ids↔∀d∈ids,Zk a.L (a.acc a.st) mo d:=by
 have hm:=jN ha;have hL:=tj ha;have hT:Tb S.length (cw S):=⟨hS.pos,hS.le,fun _ _ hi hj=>Q9 hm hS hi hj⟩
 have hA: ∀i j k,i<S.length→j<S.length→k<S.length→cw S (cw S i j) k=cw S i (cw S j k):=fun _ _ _ hi hj hk=>Zf hm hS hi hj hk;have Gg: ∀{w:List Nat},WL (minD a).L w→vl (minD a) S (oF 0 w)=pw (cw S) (vl (minD a) S w) (eN-1):=fun hw=>Re hm hS hw _;constructor
 ·intro h d hd t ht l r _ _ e1 e2 x y hx hy;have hu: ∀i,WL (minD a).L (uW d t i):=fun i=>by
   rw[hL];unfold uW;by_cases c:(d.bC i&& !d.bD i)=true
   ·rw[aB c];exact Gf (ht i).1 _
   ·rw[ax c];exact (ht i).1
  obtain ⟨g1,w1⟩:=LJ hm hS hu e1;obtain ⟨g2,w2⟩:=LJ hm hS hu e2;rw[hL] at w1 w2;have hv:=h d hd (fun i=>vl (minD a) S (uW d t i)) fun i hi=>⟨?_,?_⟩
  ·rw[g1,g2] at hv;have hv:vl (minD a) S l=vl (minD a) S r:=by simpa using hv
   exact (Zo ha hS w1 w2).1 hv x y hx hy
  ·refine vw.2 ⟨fK.2 (zE hS (hu i)),?_⟩;rcases (ht i).2 with h1|h1
   ·rw[h1,Bool.or_true]
   ·rw[ajH hS (hu i) (by
     unfold uW;by_cases c:(d.bC i&& !d.bD i)=true
     ·rw[aB c];exact Zl h1 _
     ·rw[ax c];exact h1),Bool.true_or]
  ·unfold j7;cases ho:d.bC i with
   | false=>rfl
   | true=>
    cases he:d.bD i with
    | true=>rfl
    | false=>
     have LM:WL (minD a).L (t i):=by rw[hL];exact (ht i).1
     have e3:uW d t i=oF 0 (t i):=by unfold uW;rw[ho,he];rfl
     have:=YJ hT hA (zE hS LM);have e4:cw S (vl (minD a) S (uW d t i)) (vl (minD a) S (uW d t i))=vl (minD a) S (uW d t i):=by rw[e3,Gg LM];exact this
     exact ca e4
 ·intro h d hd v hv;have hk:=aq d hd;have hex: ∀i,∃w,(WL a.L w∧(mo=true∨w≠[]))∧(i<d.nv→vl (minD a) S w=v i):=fun i=>by
   by_cases c:i<d.nv
   ·obtain ⟨hz,hb⟩:=vw.1 (hv i c).1;have aP:=fK.1 hz;cases nP:mo with
    | true=>
     obtain ⟨w,hw,e⟩:=uy hS aP;exact ⟨w,⟨by rw[←hL];exact hw,.inl rfl⟩,fun _=>e⟩
    | false=>
     rw[nP,Bool.or_false] at hb;obtain ⟨w,hw,e,bp⟩:=ajG hS aP hb;exact ⟨w,⟨by rw[←hL];exact hw,.inr bp⟩,fun _=>e⟩
   ·exact ⟨[0],⟨WL.cons ha.l1 WL.nil,.inr (by simp)⟩,fun c2=>absurd c2 c⟩
  obtain ⟨t,ht⟩:=Classical.axiomOfChoice hex;have hu: ∀i,WL (minD a).L (uW d t i):=fun i=>by
   rw[hL];unfold uW;by_cases c:(d.bC i&& !d.bD i)=true
   ·rw[aB c];exact Gf (ht i).1.1 _
   ·rw[ax c];exact (ht i).1.1
  have Zp: ∀i,i<d.nv→v i=vl (minD a) S (uW d t i):=fun i hi=>by
   have LM:WL (minD a).L (t i):=by rw[hL];exact (ht i).1.1
   unfold uW;by_cases c:(d.bC i&& !d.bD i)=true
   ·rw[aB c,Gg LM,(ht i).2 hi];obtain ⟨c1,c2⟩:=kh.1 c;have hr:=(hv i hi).2;unfold j7 at hr;rw[c1,(show d.bD i=false by simpa using c2)] at hr;exact (Lg (EF (show decide (cw S (v i) (v i)=v i)=true from hr)) _).symm
   ·rw[ax c];exact ((ht i).2 hi).symm
  rw[zA Zp d.p [] 0 hk.wp,zA Zp d.q [] 0 hk.wq];obtain ⟨l,e1⟩:=Rc (one:=[]) (mul:=fun a b=>a++b) (po:=oF) (v:=uW d t) d.p [] hk.wp;obtain ⟨r,e2⟩:=Rc (one:=[]) (mul:=fun a b=>a++b) (po:=oF) (v:=uW d t) d.q [] hk.wq;obtain ⟨g1,w1⟩:=LJ hm hS hu e1;obtain ⟨g2,w2⟩:=LJ hm hS hu e2;rw[hL] at w1 w2;rw[g1,g2,(Zo ha hS w1 w2).2 fun x y hx hy=>h d hd t (fun i=>(ht i).1) l r w1 w2 e1 e2 x y hx hy]
end
inductive yc (mul:Nat→Nat→Nat) (G:List Nat):Nat→Prop
 | one {g:Nat}:g∈G→yc mul G g
 | more {x g:Nat}:yc mul G x→g∈G→yc mul G (mul x g)
theorem yc.mono {mul:Nat→Nat→Nat} {G H:List Nat} (h: ∀g∈G,g∈H) {x:Nat} (hx:yc mul G x):yc mul H x:=by
 induction hx with
 | one hg=>exact .one (h _ hg)
 | more _ hg ih=>exact .more ih (h _ hg)
structure ClI (K:Nat) (mul:Nat→Nat→Nat) (G M:List Nat):Prop where
 gd:nR K M
 sub: ∀g∈G,g∈M
 pr: ∀x∈M,yc mul G x
 cl: ∀x∈M,∀g∈G,mul x g∈M
 gl:G.length≤M.length
end Go.AM
set_option maxRecDepth 100000
namespace Go.AM
open Go.IntKind (wrap)
open Go.Proofs Go.Sort
section
variable {α:Type} {enc:α→V}
def ajK (enc:α→V) (d:Array α):List V:=d.toList.map enc
variable [Inhabited α]
variable {lt:α→α→Bool}
end
end Go.AM
set_option maxRecDepth 100000
set_option maxHeartbeats 4000000
namespace Go.AM.SO
open Go.IntKind (wrap)
open Go.Proofs Go.Sort
def ajL (x:Int):V:= .int .i64 x
abbrev eA (d:Array Int):List V:=ajK ajL d
end Go.AM.SO
set_option maxRecDepth 100000
namespace Go.AM
open Go.IntKind (wrap)
open Go.Proofs
structure LN (K:Nat) (mul:Nat→Nat→Nat) (G Z:List Nat):Prop where
 asc:Z.Pairwise (· < ·)
 lt: ∀x∈Z,x<K
 sub: ∀g∈G,g∈Z
 pr: ∀x∈Z,yc mul G x
 cl: ∀x∈Z,∀y∈Z,mul x y∈Z
section
variable {K:Nat} {mul:Nat→Nat→Nat} (h:Tb K mul) (ha: ∀i j k,i<K→j<K→k<K→mul (mul i j) k=mul i (mul j k))
include ha
end
theorem ajM {Z:List Nat} (h:Z.Pairwise (· < ·)):Z.Nodup:=h.imp fun h=>by omega
section
variable {K:Nat} {mul:Nat→Nat→Nat} {G Z:List Nat} (h:Tb K mul) (ha: ∀i j k,i<K→j<K→k<K→mul (mul i j) k=mul i (mul j k)) (hZ:LN K mul G Z)
include hZ
theorem LN.le:Z.length≤K:=nR.le ⟨ajM hZ.asc,hZ.lt⟩
include h
end
end Go.AM
set_option maxRecDepth 100000
namespace Go.AM
open Go.IntKind (wrap)
open Go.Proofs
namespace Da
def pre (a:Da) (k:Nat) (g:Nat→List Nat):Da:=⟨k,a.st,a.F,tab a.n fun q=>tab k fun x=>a.run q (g x)⟩
theorem Ok.pre {a:Da} (h:a.Ok) {k:Nat} {g:Nat→List Nat} (h1:1≤k) (h6:k≤6) (hg: ∀x,x<k→WL a.L (g x)):(a.pre k g).Ok:=⟨h1,h6,by simp[Da.pre,n],fun r hr=>by
 obtain ⟨q,hq,rfl⟩:=LO.1 hr;refine ⟨by simp[Da.pre],fun s hs=> ?_⟩;obtain ⟨x,hx,rfl⟩:=LO.1 hs;exact h.yb _ hq (hg x hx),h.s,h.eb⟩
end Da
end Go.AM
set_option maxRecDepth 100000
namespace Go.AM
open Go.IntKind (wrap)
open Go.Proofs
theorem ajN {f:Nat→Nat} {n:Nat} (h: ∀p q,p<n→q<n→f p=f q→p=q):((List.range n).map f).Nodup:=by
 refine List.pairwise_map.2 (List.nodup_range.imp_of_mem fun {a b} ha hb bp e=>bp ?_);exact h a b (fK.1 ha) (fK.1 hb) e
theorem Zq {a:Da} (h:a.Ok):(minD a).n≤a.n:=by
 have hc:=v7 h;have hL:=tj h;have hex: ∀q:Nat,∃w,q<(minD a).n→WL a.L w∧(minD a).run (minD a).st w=q:=fun q=>by
  by_cases c:q<(minD a).n
  ·obtain ⟨w,h1,h2⟩:=Zi h c;exact ⟨w,fun _=>⟨h1,h2⟩⟩
  ·exact ⟨[],fun c2=>absurd c2 c⟩
 obtain ⟨W,hW⟩:=Classical.axiomOfChoice hex;have key:=yV (l₁:=(List.range (minD a).n).map fun q=>a.run a.st (W q)) (l₂:=List.range a.n) (ajN fun p q hp hq e=> ?_) fun x hx=> ?_
 ·simpa using key
 ·obtain ⟨p1,p2⟩:=hW p hp;obtain ⟨q1,q2⟩:=hW q hq;refine hc.red p q hp hq fun w hw=> ?_;rw[hL] at hw;rw[←p2,←q2,←Da.CO,←Da.CO,zF h (WL.app.2 ⟨p1,hw⟩),zF h (WL.app.2 ⟨q1,hw⟩),Da.CO,Da.CO,e]
 ·obtain ⟨q,hq,rfl⟩:=ia.1 hx;exact fK.2 (h.yb _ h.s (hW q (fK.1 hq)).1)
section
variable {m:Da} (hm:m.Ok) {S:List (List Nat)} (hS:qb m S) {k:Nat} (h1:1≤k) (h6:k≤6) {g:Nat→List Nat} (hg: ∀x,x<k→WL m.L (g x)) {S2:List (List Nat)} (hS2:qb (minD (m.pre k g)) S2)
def vals (m:Da) (S:List (List Nat)) (k:Nat) (g:Nat→List Nat):List Nat:=0::(List.range k).map fun x=>vl m S (g x)
section
variable {Z:List Nat} (hZ:LN S.length (cw S) (vals m S k g) Z)
include hZ
end
end
section
variable {K:Nat} {mul:Nat→Nat→Nat} {G Z:List Nat} (hZ:LN K mul G Z)
include hZ
end
def lf (L:Nat) (P:List Nat→Bool) (c:Nat):Prop:= ∀d∈QK c,Zk L P (ik K7 c) d
def CP (L:Nat) (P:List Nat→Bool) (l:LV):Prop:=l.length=16∧∀c,c<16→∃n:Int,l[c]? =some (.int .i64 n)∧(n=1→lf L P c)∧(n=0→¬lf L P c)
theorem ajO {a:Da} (ha:a.Ok) (mB:(minD a).n≤32):CC qT (eh a)=some [.list ab [],.bool false]∨∃l,CC qT (eh a)=some [.list ab l,.bool true]∧CP a.L (a.acc a.st) l:=by
 obtain ⟨z,l,e,h⟩:=ajB Yw ha mB;have A: ∀{a:Da} z,Cv CC (a.L:Int) (a.st:Int) a.cG a.cN=z→CC qT (eh a)=z:=fun z h=>YG h;rcases h with hz|⟨rfl,hl,S,hS,hv⟩
 ·refine .inl (A _ ?_);unfold Cv;exact bs e (bT (by show (z != 0)=true;rw[bne_iff_ne];exact hz) rfl)
 ·refine .inr ⟨l.take 16,A _ ?_,by rw[mP,hl];rfl,fun c hc=> ?_⟩
  ·unfold Cv;refine bs e (bF rfl (bF ?_ (bT ?_ rfl)))
   ·show ((l.length:Int) != 17)=false;rw[hl];rfl
   ·show decide ((16:Int)≤(l.length:Int))=true;exact ca (by omega)
  ·obtain ⟨n,h1,h2,h3⟩:=hv c (by omega);have hh:=ajJ ha hS (mo:=ik K7 c) (ids:=QK c) fun d hd=>Yw.ok c (by omega) d hd;exact ⟨n,by rw[List.getElem?_take,aB hc];exact h1,fun e=>hh.1 (h2 e),fun e hn=>h3 e (hh.2 hn)⟩
theorem lf.quo {L:Nat} {P Q:List Nat→Bool} {c:Nat} (h:lf L P c) {u v:List Nat} (hu:WL L u) (hv:WL L v) (e: ∀w,WL L w→Q w=P (u++(w++v))):lf L Q c:=fun d hd t ht l r hl hr e1 e2 x y hx hy=>by
 rw[e _ (WL.app.2 ⟨hx,WL.app.2 ⟨hl,hy⟩⟩),e _ (WL.app.2 ⟨hx,WL.app.2 ⟨hr,hy⟩⟩)];have:=h d hd t ht l r hl hr e1 e2 (u++x) (y++v) (WL.app.2 ⟨hu,hx⟩) (WL.app.2 ⟨hy,hv⟩);simpa only[kQ] using this
theorem ajP {a:Da} (ha:a.Ok) (h:32<(minD a).n):CC qT (eh a)=some [.list ab [],.bool false]:=by
 have hm:=jN ha;have az2:=hm.eb;have eA:CC Gh (iW (minD a) [.int .i64 0])=some [.int .i64 3,.int .i64 0,.list ag [],.list kD []]:=by
  refine Zr ?_;unfold Rf;rw[Da.Gi,show wrap .i64 (0+((minD a).n:Int))=((minD a).n:Int) from by rw[sf]<;>omega];exact bT (ca (by omega)) rfl
 have eO:CC o4 (eh a)=some (Zs 3):=by
  have fin: ∀z,v8 CC (a.L:Int) (a.st:Int) a.cG a.cN=z→CC o4 (eh a)=z:=fun z h=>LP h;refine fin _ ?_;unfold v8;exact bs (o7 ha) (bF rfl (bs (yd ha) (bs eA (bT rfl rfl))))
 have LG:CC FH [.int .i64 3000]=some [.bool true]:=YE rfl;have eC:CC zu (iW a [.int .i64 3000])=some [.int .i64 3,.list ab []]:=by
  have fin: ∀z,Cu CC (a.L:Int) (a.st:Int) a.cG a.cN 3000=z→CC zu (iW a [.int .i64 3000])=z:=fun z h=>YF h;refine fin _ ?_;unfold Cu;exact bs (o7 ha) (bF rfl (bs LG (bF rfl (bs eO (bT rfl rfl)))))
 have fin: ∀z,Cv CC (a.L:Int) (a.st:Int) a.cG a.cN=z→CC qT (eh a)=z:=fun z h=>YG h;refine fin _ ?_;unfold Cv;exact bs eC (bT rfl rfl)
theorem LQ {a:Da} (ha:a.Ok):CC qT (eh a)=some [.list ab [],.bool false]∨∃l,CC qT (eh a)=some [.list ab l,.bool true]∧CP a.L (a.acc a.st) l:=by
 by_cases h:(minD a).n≤32
 ·exact ajO ha h
 ·exact .inl (ajP ha (by omega))
theorem lf.bool {L:Nat} {P Q R:List Nat→Bool} {c:Nat} (h:lf L P c) (h2:lf L Q c) {f:Bool→Bool→Bool} (e: ∀w,WL L w→R w=f (P w) (Q w)):lf L R c:=fun d hd t ht l r hl hr e1 e2 x y hx hy=>by
 rw[e _ (WL.app.2 ⟨hx,WL.app.2 ⟨hl,hy⟩⟩),e _ (WL.app.2 ⟨hx,WL.app.2 ⟨hr,hy⟩⟩),h d hd t ht l r hl hr e1 e2 x y hx hy,h2 d hd t ht l r hl hr e1 e2 x y hx hy]
noncomputable def Zt (C:af) (uA uB x ei ej:Int) (lg kG:LV) (LR LU:Int) (LW Gj:LV):Option LV:=
 (idx kG uA).bind fun x1=>
 (idx x1.toList x).bind fun x2=>
 (idx Gj uB).bind fun x3=>
 (idx x3.toList x).bind fun x4=>
 some [V.int .i64 x2.toInt,V.int .i64 x4.toInt,V.int .i64 ei,V.int .i64 ej,.list ak lg,.list ag kG,V.int .i64 LR,V.int .i64 LU,.list ak LW,.list ag Gj]
theorem ajQ {uA uB x ei ej:Int} {lg kG:LV} {LR LU:Int} {LW Gj:LV} {r:Option LV} (h:Zt CC uA uB x ei ej lg kG LR LU LW Gj=r):CC v9 [V.int .i64 uA,V.int .i64 uB,V.int .i64 x,V.int .i64 ei,V.int .i64 ej,.list ak lg,.list ag kG,V.int .i64 LR,V.int .i64 LU,.list ak LW,.list ag Gj]=r:=bI (L:=bH) av h
noncomputable def LX (C:af) (bit:Int) (t12:Bool) (zG zH:Int) (az3 az4:LV) (ei ej:Int) (lg kG:LV) (wa az5 az6:Int) {β:Type} (kr:(Int)→Option β):Option β:=
 bif t12 then
  kr (wrap .i64 (bit+2))
 else
  kr bit
noncomputable def ajR (C:af):cL:=Gk 207 Rg [[0,3,4,5,6,7,8,9,10,11,12,13]] (@LX C) bH
theorem ajS (C:af):bA C (ajR C) 28 (Cd 12 [1,1,0,1,0] [1,1,0,1,1] 28):=Gl Rg [[0,3,4,5,6,7,8,9,10,11,12,13]] (@LX C) (bu av) (bu av)
noncomputable def Zu (C:af) (uA uB tk tm:Int) (qX tn:LV) (ei ej:Int) (lg kG:LV) (wa:Int):Option LV:=
 (idx qX uA).bind fun x1=>
 LX C 0 x1.toBool tk tm qX tn ei ej lg kG wa uA uB (fun LY=>
  (idx lg uB).bind fun x3=>
  bif x3.toBool then
   bif decide (0≤(wrap .i64 (LY+1))) then
   some [.bool (((wrap .i64 ((BitVec.ofInt (IntKind.bits .i64) (Int.fdiv wa (2^(min (wrap .i64 (LY+1)).toNat (IntKind.bits .i64))))&&&BitVec.ofInt (IntKind.bits .i64) 1).toNat)):Int)==1),V.int .i64 tk,V.int .i64 tm,.list ak qX,.list ag tn,V.int .i64 ei,V.int .i64 ej,.list ak lg,.list ag kG,V.int .i64 wa]
   else none
  else
   bif decide (0≤LY) then
   some [.bool (((wrap .i64 ((BitVec.ofInt (IntKind.bits .i64) (Int.fdiv wa (2^(min LY.toNat (IntKind.bits .i64))))&&&BitVec.ofInt (IntKind.bits .i64) 1).toNat)):Int)==1),V.int .i64 tk,V.int .i64 tm,.list ak qX,.list ag tn,V.int .i64 ei,V.int .i64 ej,.list ak lg,.list ag kG,V.int .i64 wa]
   else none)
theorem ajT {uA uB tk tm:Int} {qX tn:LV} {ei ej:Int} {lg kG:LV} {wa:Int} {r:Option LV} (h:Zu CC uA uB tk tm qX tn ei ej lg kG wa=r):CC wb [V.int .i64 uA,V.int .i64 uB,V.int .i64 tk,V.int .i64 tm,.list ak qX,.list ag tn,V.int .i64 ei,V.int .i64 ej,.list ak lg,.list ag kG,V.int .i64 wa]=r:=bI (bB (ajS CC) av) h
noncomputable def Zv (C:af) (mC mD:Int) (ba:LV):Option LV:=
 bif (eQ .i64 mC&&(eQ .i64 mD&&true))&&true then
  bif (eQ .i64 mC&&(eQ .i64 mD&&true))&&true then
  bif Nat.ble ((ba.length+([.agg [V.int .i64 mC,V.int .i64 mD]]:LV).length)*16) aY then
   some [V.int .i64 (ba.length:Int),.list kb (ba++([.agg [V.int .i64 mC,V.int .i64 mD]]:LV)),.list lQ (iQ (.agg [V.int .i64 mC,V.int .i64 mD]) (V.int .i64 (ba.length:Int)) ([]:LV))]
  else none
  else none
 else none
theorem ajU {mC mD:Int} {ba:LV} {r:Option LV} (h:Zv CC mC mD ba=r):CC Gm [V.int .i64 mC,V.int .i64 mD,.list kb ba]=r:=bI (L:=bH) av h
noncomputable def Zw (C:af) (mC mD:Int) (ba aI:LV):Option LV:=
 bif (eQ .i64 mC&&(eQ .i64 mD&&true))&&true then
  bif !(gg (.agg [V.int .i64 mC,V.int .i64 mD]) aI) then
  bif (eQ .i64 mC&&(eQ .i64 mD&&true))&&true then
   bif Nat.ble ((ba.length+([.agg [V.int .i64 mC,V.int .i64 mD]]:LV).length)*16) aY then
   some [V.int .i64 (ba.length:Int),.list lQ (iQ (.agg [V.int .i64 mC,V.int .i64 mD]) (V.int .i64 (ba.length:Int)) aI),.list kb (ba++([.agg [V.int .i64 mC,V.int .i64 mD]]:LV))]
   else none
  else none
  else
  some [V.int .i64 ((jX (.agg [V.int .i64 mC,V.int .i64 mD]) aI (V.int .i64 0)).toInt),.list lQ aI,.list kb ba]
 else none
theorem ajV {mC mD:Int} {ba aI:LV} {r:Option LV} (h:Zw CC mC mD ba aI=r):CC Rh [V.int .i64 mC,V.int .i64 mD,.list kb ba,.list lQ aI]=r:=bI (L:=bH) av h
noncomputable def Gn (C:af) (aR i t36 qe qY qZ bw bE Ri Rj:Int) (bj bN iX gp:LV) (t37 im iq:Int) (iu iv:LV) (qf qg:Int) (qh qi rows bK ec:LV) {β:Type} (kn:(Int×Int×Int×LV×LV×Int×Int×LV×LV×LV×LV×LV)→Option β) (kr:(Int×Bool×Int×Int×LV×LV×Int×Int×LV×LV×LV×LV×LV)→Option β):Option β:=
 bif decide (t37<t36) then
  (C v9 [V.int .i64 Ri,V.int .i64 Rj,V.int .i64 t37,V.int .i64 im,V.int .i64 iq,.list ak iu,.list ag iv,V.int .i64 qf,V.int .i64 qg,.list ak qh,.list ag qi]).bind fun r3=>
  (C Rh [V.int .i64 ((V.nth r3 0).toInt),V.int .i64 ((V.nth (r3.drop 1) 0).toInt),.list kb bK,.list lQ ec]).bind fun r4=>
  aM rows t37 fun x5=>
  kn (wrap .i64 (t37+1),(V.nth (r3.drop 2) 0).toInt,(V.nth ((r3.drop 2).drop 1) 0).toInt,(V.nth (((r3.drop 2).drop 1).drop 1) 0).toList,(V.nth ((((r3.drop 2).drop 1).drop 1).drop 1) 0).toList,(V.nth ((r3.drop 2).drop 4) 0).toInt,(V.nth (((r3.drop 2).drop 4).drop 1) 0).toInt,(V.nth ((((r3.drop 2).drop 4).drop 1).drop 1) 0).toList,(V.nth (((((r3.drop 2).drop 4).drop 1).drop 1).drop 1) 0).toList,bm rows t37 (V.int .i64 ((V.nth r4 0).toInt)),(V.nth ((r4.drop 1).drop 1) 0).toList,(V.nth (r4.drop 1) 0).toList)
 else
  kr (t37,decide (t37<t36),im,iq,iu,iv,qf,qg,qh,qi,rows,bK,ec)
noncomputable def LZ (C:af) (aR i t36 qe qY qZ bw bE Ri Rj:Int) (bj bN iX gp:LV):=un fun t37=>un fun im=>un fun iq=>un fun iu=>un fun iv=>un fun qf=>un fun qg=>un fun qh=>un fun qi=>un fun rows=>un fun bK ec=>Gn C aR i t36 qe qY qZ bw bE Ri Rj bj bN iX gp t37 im iq iu iv qf qg qh qi rows bK ec (fun y=>some (Sum.inl y)) (fun r=>some (Sum.inr r))
noncomputable def Gp (C:af) (aR qY qZ bw bE:Int) (aF aO:LV) (i im iq:Int) (iu iv:LV) (qf qg:Int) (qh qi:LV) (qe:Int) (bj bN bK ec:LV) {β:Type} (kn:(Int×Int×Int×LV×LV×Int×Int×LV×LV×Int×LV×LV×LV×LV)→Option β) (kr:((Int×Int×Int×LV×LV×Int×Int×LV×LV×Int×Int×Int×LV×LV×LV) ⊕ (Int×Bool×Int×Int×LV×LV×Int×Int×LV×LV×Int×LV×LV×LV×LV))→Option β):Option β:=
 bif decide (i<(bj.length:Int)) then
  aM bj i fun x2=>
  bif (decide (0≤aR))&&((decide (aR≤aR))&&(Nat.ble ((aR.toNat)*8) aY)) then
  (Loop (LZ C aR i ((List.replicate (aR.toNat) (V.int .i64 0)).length:Int) qe qY qZ bw bE ((x2.cell 0).toInt) ((x2.cell 1).toInt) aF aO bK ec) (0,im,iq,iu,iv,qf,qg,qh,qi,List.replicate (aR.toNat) (V.int .i64 0),bj,bN)).bind (un fun j5=>un fun (oD:Bool)=>un fun Gq=>un fun Gr=>un fun (Gs:LV)=>un fun (Gt:LV)=>un fun Zx=>un fun Zy=>un fun (Zz:LV)=>un fun (ZA:LV)=>un fun (ZB:LV)=>un fun (qj:LV) (tp:LV)=>
   bif decide ((qj.length:Int)>512) then
    kr (.inl (3,Gq,Gr,Gs,Gt,Zx,Zy,Zz,ZA,qe,0,0,([]:LV),([]:LV),([]:LV)))
   else
    bif Nat.ble ((ec.length+([.list ab ZB]:LV).length)*24) aY then
    (C wb [V.int .i64 ((x2.cell 0).toInt),V.int .i64 ((x2.cell 1).toInt),V.int .i64 Gq,V.int .i64 Gr,.list ak Gs,.list ag Gt,V.int .i64 Zx,V.int .i64 Zy,.list ak Zz,.list ag ZA,V.int .i64 qe]).bind fun tq=>
    bif Nat.ble ((bK.length+([.bool ((V.nth tq 0).toBool)]:LV).length)*1) aY then
     kn (wrap .i64 (i+1),(V.nth (tq.drop 1) 0).toInt,(V.nth ((tq.drop 1).drop 1) 0).toInt,(V.nth (((tq.drop 1).drop 1).drop 1) 0).toList,(V.nth ((((tq.drop 1).drop 1).drop 1).drop 1) 0).toList,(V.nth ((tq.drop 1).drop 4) 0).toInt,(V.nth (((tq.drop 1).drop 4).drop 1) 0).toInt,(V.nth ((((tq.drop 1).drop 4).drop 1).drop 1) 0).toList,(V.nth (((((tq.drop 1).drop 4).drop 1).drop 1).drop 1) 0).toList,(V.nth (((tq.drop 1).drop 4).drop 4) 0).toInt,qj,tp,bK++([.bool ((V.nth tq 0).toBool)]:LV),ec++([.list ab ZB]:LV))
    else none
    else none)
  else none
 else
  kr (.inr (i,decide (i<(bj.length:Int)),im,iq,iu,iv,qf,qg,qh,qi,qe,bj,bN,bK,ec))
noncomputable def Gu (C:af) (aR qY qZ bw bE:Int) (aF aO:LV):=un fun i=>un fun im=>un fun iq=>un fun iu=>un fun iv=>un fun qf=>un fun qg=>un fun qh=>un fun qi=>un fun qe=>un fun bj=>un fun bN=>un fun bK ec=>Gp C aR qY qZ bw bE aF aO i im iq iu iv qf qg qh qi qe bj bN bK ec (fun y=>some (Sum.inl y)) (fun r=>some (Sum.inr r))
noncomputable def ZC (C:af):cL:=bR 161 Rk [EQ,EQ,EQ,H1,H1,H1,H1,H1,H1,H1,H1,H1,EQ,EQ,EQ,EQ,EQ,EQ,EQ,H1,EQ,EQ,H1,H1,EQ,EQ] [[1,2,3,0,0,0,0,0,0,0,0,0,0,13,14,15,16,17,18,19,0,21,22,0,0,25,26]] (@Gn C) (bR 81 Rl [EQ,H1,H1,H1,H1,H1,H1,H1,H1,H1,H1,EQ,EQ,EQ,EQ,EQ,EQ,H1,H1,H1,H1] [[0,0,0,0,0,0,0,0,0,0,0,0,0,0,0],[1,0,0,0,0,0,0,0,0,0,0,0,12,13,14,15,16,17,0,0,0,0]] (@Gp C) bH)
theorem ajW (C:af):bA C (ZC C) 26 (Lp [1,1,1,1,0,1,0,0,1,0,0,1,1,0,1,0,0] 26):=bS Rk [EQ,EQ,EQ,H1,H1,H1,H1,H1,H1,H1,H1,H1,EQ,EQ,EQ,EQ,EQ,EQ,EQ,H1,EQ,EQ,H1,H1,EQ,EQ] [[1,2,3,0,0,0,0,0,0,0,0,0,0,13,14,15,16,17,18,19,0,21,22,0,0,25,26]] (@Gn C) (bu av)
theorem ajX (C:af):bA C (ZC C) 26 (Lp [1,1,1,1,0,1,0,0] 26):=bS Rl [EQ,H1,H1,H1,H1,H1,H1,H1,H1,H1,H1,EQ,EQ,EQ,EQ,EQ,EQ,H1,H1,H1,H1] [[0,0,0,0,0,0,0,0,0,0,0,0,0,0,0],[1,0,0,0,0,0,0,0,0,0,0,0,12,13,14,15,16,17,0,0,0,0]] (@Gp C) (bu (bB (ajW C) av))
noncomputable def ZD (C:af) (aR L0 L3 im iq:Int) (iu iv:LV) (qf qg:Int) (qh qi:LV) (qe:Int):Option LV:=
 (C Gm [V.int .i64 L0,V.int .i64 L3,.list kb ([]:LV)]).bind fun r1=>
 (Loop (Gu C aR 0 0 aR 0 ([]:LV) ([]:LV)) (0,im,iq,iu,iv,qf,qg,qh,qi,qe,(V.nth (r1.drop 1) 0).toList,(V.nth ((r1.drop 1).drop 1) 0).toList,([]:LV),([]:LV))).bind (fX (un fun L4=>un fun wc=>un fun we=>un fun (sg:LV)=>un fun (tt:LV)=>un fun CQ=>un fun CR=>un fun (L5:LV)=>un fun (Rm:LV)=>un fun Gv=>un fun ajY=>un fun ajZ=>un fun (Gw:LV)=>un fun (L6:LV) (aj0:LV)=>
  some [V.int .i64 ajY,V.int .i64 ajZ,V.int .i64 L4,V.int .i64 wc,V.int .i64 we,.list ak sg,.list ag tt,V.int .i64 CQ,V.int .i64 CR,.list ak L5,.list ag Rm,V.int .i64 Gv,.list ak Gw,.list ag L6,.list kb aj0]) (un fun az7=>un fun (az8:Bool)=>un fun aj1=>un fun aj2=>un fun (aj3:LV)=>un fun (aj4:LV)=>un fun aj5=>un fun aj6=>un fun (aj7:LV)=>un fun (aj8:LV)=>un fun aj9=>un fun (Gx:LV)=>un fun (zI:LV)=>un fun (uC:LV) (zJ:LV)=>
  some [V.int .i64 aR,V.int .i64 0,V.int .i64 0,V.int .i64 aj1,V.int .i64 aj2,.list ak aj3,.list ag aj4,V.int .i64 aj5,V.int .i64 aj6,.list ak aj7,.list ag aj8,V.int .i64 aj9,.list ak uC,.list ag zJ,.list kb Gx]))
theorem aka {aR L0 L3 im iq:Int} {iu iv:LV} {qf qg:Int} {qh qi:LV} {qe:Int} {r:Option LV} (h:ZD CC aR L0 L3 im iq iu iv qf qg qh qi qe=r):CC L7 [V.int .i64 aR,V.int .i64 L0,V.int .i64 L3,V.int .i64 im,V.int .i64 iq,.list ak iu,.list ag iv,V.int .i64 qf,V.int .i64 qg,.list ak qh,.list ag qi,V.int .i64 qe]=r:=bI (bB (ajX CC) av) h
noncomputable def ZE (C:af) (mE nT:Int) (oG oH:LV) (nh nU:Int) (oI oJ:LV) (op:Int):Option LV:=
 (C qS [V.int .i64 mE,V.int .i64 nT,.list ak oG,.list ag oH]).bind fun r1=>
 bif (((V.nth r1 0).toInt):Int) != 0 then
  some [V.int .i64 0,V.int .i64 0,V.int .i64 ((V.nth r1 0).toInt),.list ak ([]:LV),.list ag ([]:LV)]
 else
  (C qS [V.int .i64 nh,V.int .i64 nU,.list ak oI,.list ag oJ]).bind fun r2=>
  bif (((V.nth r2 0).toInt):Int) != 0 then
  some [V.int .i64 0,V.int .i64 0,V.int .i64 ((V.nth r2 0).toInt),.list ak ([]:LV),.list ag ([]:LV)]
  else
  bif mE != nh then
   some [V.int .i64 0,V.int .i64 0,V.int .i64 1,.list ak ([]:LV),.list ag ([]:LV)]
  else
   bif decide (op<0) then
   some [V.int .i64 0,V.int .i64 0,V.int .i64 1,.list ak ([]:LV),.list ag ([]:LV)]
   else
   bif decide (op>15) then
    some [V.int .i64 0,V.int .i64 0,V.int .i64 1,.list ak ([]:LV),.list ag ([]:LV)]
   else
    (C L7 [V.int .i64 mE,V.int .i64 nT,V.int .i64 nU,V.int .i64 mE,V.int .i64 nT,.list ak oG,.list ag oH,V.int .i64 nh,V.int .i64 nU,.list ak oI,.list ag oJ,V.int .i64 op]).bind fun r3=>
    some [V.int .i64 ((V.nth r3 0).toInt),V.int .i64 ((V.nth (r3.drop 1) 0).toInt),V.int .i64 ((V.nth (r3.drop 2) 0).toInt),.list ak ((V.nth ((((r3.drop 3).drop 4).drop 4).drop 1) 0).toList),.list ag ((V.nth (((((r3.drop 3).drop 4).drop 4).drop 1).drop 1) 0).toList)]
theorem akb {mE nT:Int} {oG oH:LV} {nh nU:Int} {oI oJ:LV} {op:Int} {r:Option LV} (h:ZE CC mE nT oG oH nh nU oI oJ op=r):CC L8 [V.int .i64 mE,V.int .i64 nT,.list ak oG,.list ag oH,V.int .i64 nh,V.int .i64 nU,.list ak oI,.list ag oJ,V.int .i64 op]=r:=bI (L:=bH) av h
structure NP where
 p:Nat
 q:Nat
deriving DecidableEq
def pV (p:NP):V:= .agg [.int .i64 (p.p:Int),.int .i64 (p.q:Int)]
def pS (S:List (NP)):List V:=S.map pV
def pM (S:List (NP)):List V:=fP pV 0 S
theorem Rn (a b:NP):iP (pV a) (pV b)=decide (a=b):=by
 have:=akc (a.p,a.q) (b.p,b.q);refine this.trans ?_;rw[decide_eq_decide];cases a;cases b;simp
theorem akd (p:NP):((pV p).cell 0).toInt=(p.p:Int):=by simp[pV]
theorem ake (p:NP):((pV p).cell 1).toInt=(p.q:Int):=by simp[pV]
theorem CS {S:List (NP)}:(pS S).length=S.length:=by simp[pS]
theorem akf {S:List (NP)} {i:Nat} (h:i<S.length):(pS S)[i]? =some (pV S[i]):=by simp[pS,h]
theorem akg {x:NP} (h1:x.p≤1000000) (h2:x.q≤1000000):CC Gm [nV x.p,nV x.q,.list kb []]=some [nV 0,.list kb (pS [x]),.list lQ (pM [x])]:=by
 refine ajU ?_;unfold Zv;rw[zK (show x.p≤_ by omega),zK (show x.q≤_ by omega)];exact bT rfl (bT rfl (bT (cap (by simp) (by omega)) rfl))
theorem akh {S:List (NP)} {x:NP} (h1:x.p≤1000000) (h2:x.q≤1000000) (hl:S.length≤1000000):CC Rh [nV x.p,nV x.q,.list kb (pS S),.list lQ (pM S)]=some [nV ((cO S x).idxOf x),.list lQ (pM (cO S x)),.list kb (pS (cO S x))]:=by
 refine ajV ?_;unfold Zw;have e1:=L9 Rn x S 0;rw[zK (show x.p≤_ by omega),zK (show x.q≤_ by omega)];refine bT rfl ?_;rw[show (V.agg [V.int .i64 (x.p:Int),V.int .i64 (x.q:Int)])=pV x from rfl];rw[ZF];by_cases h:x∈S
 ·refine bF (by rw[show gg (pV x) (pM S)=_ from e1];simpa using h) ?_;have e2:=Ma Rn x (.int .i64 0) S 0 h;rw[show jX (pV x) (pM S) (.int .i64 0)=_ from e2,aB h,dB,show cO S x=S by unfold cO;rw[aB h]];rfl
 ·refine bT (by rw[show gg (pV x) (pM S)=_ from e1];simpa using h) ?_;refine bT rfl ?_;refine bT (cap (by rw[CS];simp;omega) (by omega)) ?_;have e2:=Mb Rn x S 0 h;rw[dB] at e2;rw[CS,show iQ (pV x) (.int .i64 (S.length:Int)) (pM S)=_ from e2,ax h,show cO S x=S++[x] by unfold cO;rw[ax h]];simp[pS,nV,pM]
def CT (op:Nat) (x y:Bool):Bool:=op.testBit ((if x=true then 2 else 0)+(if y=true then 1 else 0))
theorem aki: ∀op:Fin 16,∀k:Fin 4,((wrap .i64 ((BitVec.ofInt (IntKind.bits .i64) (Int.fdiv (op.val:Int) (2^(min ((k.val:Int)).toNat (IntKind.bits .i64))))&&&BitVec.ofInt (IntKind.bits .i64) 1).toNat))==1)=op.val.testBit k.val:=by decide+kernel
theorem Mc {op k:Nat} (ho:op≤15) (hk:k≤3):((wrap .i64 ((BitVec.ofInt (IntKind.bits .i64) (Int.fdiv (op:Int) (2^(min ((k:Int)).toNat (IntKind.bits .i64))))&&&BitVec.ofInt (IntKind.bits .i64) 1).toNat))==1)=op.testBit k:=aki ⟨op,by omega⟩ ⟨k,by omega⟩
def pn (a b:Da) (p:NP) (x:Nat):NP:=⟨a.nx p.p x,b.nx p.q x⟩
def pf (a b:Da) (op:Nat) (p:NP):Bool:=CT op (a.fin p.p) (b.fin p.q)
def PI (a b:Da) (p:NP):Prop:=p.p<a.n∧p.q<b.n
theorem akj {a b:Da} (hL:a.L=b.L) {p:NP} {x:Nat} (hp:PI a b p) (hx:x<a.L):CC v9 (nV p.p::nV p.q::nV x::iW a (eh b))=some (nV (pn a b p x).p::nV (pn a b p x).q::iW a (eh b)):=by
 refine ajQ ?_;unfold Zt;refine bs (Da.Gy hp.1) ?_;rw[CU];refine bs (CV hx) ?_;refine bs (Da.Gy hp.2) ?_;rw[CU];exact bs (CV (hL▸hx)) rfl
theorem akk {a b:Da} {op:Nat} (ho:op≤15) {p:NP} (hp:PI a b p):CC wb (nV p.p::nV p.q::iW a (iW b [.int .i64 (op:Int)]))=some (.bool (pf a b op p)::iW a (iW b [.int .i64 (op:Int)])):=by
 refine ajT ?_;unfold Zu;refine bs (Da.CW hp.1) ?_;unfold LX pf CT;rw[V.Gz];cases ha:a.fin p.p with
 | true=>
  refine bT rfl ?_;refine bs (Da.CW hp.2) ?_;rw[V.Gz,show wrap .i64 (0+2)=((2:Nat):Int) from by decide];cases hb:b.fin p.q with
  | true=>
   refine bT rfl ?_;rw[show wrap .i64 (((2:Nat):Int)+1)=((3:Nat):Int) from by decide];refine bT (by decide) ?_;rw[Mc ho (by omega)];rfl
  | false=>
   refine bF rfl ?_;refine bT (by decide) ?_;rw[Mc ho (by omega)];rfl
 | false=>
  refine bF rfl ?_;refine bs (Da.CW hp.2) ?_;rw[V.Gz];cases hb:b.fin p.q with
  | true=>
   refine bT rfl ?_;rw[show wrap .i64 (0+1)=((1:Nat):Int) from by decide];refine bT (by decide) ?_;rw[Mc ho (by omega)];rfl
  | false=>
   refine bF rfl ?_;refine bT (by decide) ?_;have:=Mc (k:=0) ho (by omega);rw[show ((0:Nat):Int)=0 from rfl] at this;rw[this];rfl
def mF (a b:Da):List NP:=aC a.L (pn a b) ⟨a.st,b.st⟩ (a.n*b.n)
def nW (a b:Da) (op:Nat):Da:=iF a.L (pn a b) (pf a b op) (mF a b)
def tu (a b:Da):Prop:=512<(mF a b).length
def Md (m n:Nat):List NP:=(List.range m).flatMap fun p=>(List.range n).map fun q=>⟨p,q⟩
theorem akl (m n:Nat):(Md m n).length=m*n:=by
 unfold Md
 induction m with
 | zero=>simp
 | succ m ih=>rw[BK,List.flatMap_append,hY,ih];simp[EG]
theorem Ro {m n:Nat} {x:NP}:x∈Md m n↔x.p<m∧x.q<n:=by
 unfold Md;simp only[List.mem_flatMap,ia,fK];constructor
 ·rintro ⟨p,hp,q,hq,rfl⟩;exact ⟨hp,hq⟩
 ·rintro ⟨h1,h2⟩;exact ⟨x.p,h1,x.q,h2,rfl⟩
section
variable {a b:Da} (ha:a.Ok) (hb:b.Ok) (hL:a.L=b.L) {op:Nat}
include ha hb hL
theorem Rp {p:NP} (hp:PI a b p) {x:Nat} (hx:x<a.L):PI a b (pn a b p x):=⟨ha.lh hp.1 hx,hb.lh hp.2 (hL▸hx)⟩
theorem akm {S U:List (NP)} {p:NP} (hp0:PI a b p) (hSn:S.length≤1000) (hp:cd (pn a b) S p a.L <+: U) {i c1 c2 c3:Int} {l1 l2 l3 l4:List V}:
  Loop (LZ CC (a.L:Int) i ((List.replicate (((a.L:Nat):Int).toNat) (V.int .i64 0)).length:Int) c1 c2 c3 (a.L:Int) 0 (p.p:Int) (p.q:Int) l1 l2 l3 l4) (0,(a.L:Int),(a.st:Int),a.cG,a.cN,(b.L:Int),(b.st:Int),b.cG,b.cN,List.replicate (((a.L:Nat):Int).toNat) (V.int .i64 0),pS S,pM S)=
   some ((a.L:Int),false,(a.L:Int),(a.st:Int),a.cG,a.cN,(b.L:Int),(b.st:Int),b.cG,b.cN,(tab a.L fun x=>nV (U.idxOf (pn a b p x))),pS (cd (pn a b) S p a.L),pM (cd (pn a b) S p a.L)):=by
 have h6:=ha.l6;have hma:=ha.eb;have Rq:=hb.eb;rw[Int.toNat_natCast,o6,eG];refine (fI a.L (fun x=>((x:Int),(a.L:Int),(a.st:Int),a.cG,a.cN,(b.L:Int),(b.st:Int),b.cG,b.cN,(tab a.L fun j=>if j<x then nV (U.idxOf (pn a b p j)) else nV 0),pS (cd (pn a b) S p x),pM (cd (pn a b) S p x))) _ (fun x hx=> ?_) ?_)
 ·simp only[LZ,Gn,un,aM,bm];refine bT (bn hx) ?_;refine bs (akj hL hp0 hx) ?_;have hT:=Rr (next:=pn a b) S p x;have hn:=Rp ha hb hL hp0 hx;unfold PI at hn;refine bs (akh (S:=cd (pn a b) S p x) (x:=pn a b p x) (by omega) (by omega) (by omega)) ?_;refine (ni hx).trans ?_;rw[bq (by omega),Int.toNat_natCast,lO];have e:(cO (cd (pn a b) S p x) (pn a b p x)).idxOf (pn a b p x)=U.idxOf (pn a b p x):=(zL ((zM S p (show x+1≤a.L by omega)).trans hp) zN).symm;show some (Sum.inl _)=some (Sum.inl _);refine congrArg (fun x=>some (Sum.inl x)) ?_;refine cI rfl (cI rfl (cI rfl (cI rfl (cI rfl (cI rfl (cI rfl (cI rfl (cI rfl (cI ?_ (cI rfl rfl))))))))));refine c8 fun j _=> ?_;by_cases hj:j=x
  ·rw[aB hj,dp,hj,←e];rfl
  ·rw[ax hj];by_cases dw:j<x
   ·rw[aB dw,dp]
   ·rw[ax dw,dq]
 ·simp only[LZ,Gn,un,aM,bm];refine bF (aX (aw _)) ?_;rw[aX (aw _)];have:(tab a.L fun j=>if j<a.L then nV (U.idxOf (pn a b p j)) else nV 0)=tab a.L fun j=>nV (U.idxOf (pn a b p j)):=c8 fun j hj=>aB hj;rw[this]
theorem Me (i:Nat):(aC a.L (pn a b) ⟨a.st,b.st⟩ i).length≤a.n*b.n:=by
 rw[←akl];exact ZG (Ro.2 ⟨ha.s,hb.s⟩) (fun p hp x hx=>Ro.2 (Rp ha hb hL (Ro.1 hp) hx)) i
theorem akn (i:Nat): ∀p∈aC a.L (pn a b) ⟨a.st,b.st⟩ i,PI a b p:=ako (P:=PI a b) ⟨ha.s,hb.s⟩ (fun _ hp _ hx=>Rp ha hb hL hp hx) i
theorem akp (ho:op≤15) {i:Nat} (ra:i<(aC a.L (pn a b) ⟨a.st,b.st⟩ i).length) (hlen:(aC a.L (pn a b) ⟨a.st,b.st⟩ i).length≤512) {U:List (NP)} (hp:aC a.L (pn a b) ⟨a.st,b.st⟩ (i+1) <+: U) {l1 l2 l3 l4:List V} (hl3:l3.length≤1000) (hl4:l4.length≤1000):
  Gu CC (a.L:Int) 0 0 (a.L:Int) 0 l1 l2 ((i:Int),(a.L:Int),(a.st:Int),a.cG,a.cN,(b.L:Int),(b.st:Int),b.cG,b.cN,(op:Int),pS (aC a.L (pn a b) ⟨a.st,b.st⟩ i),pM (aC a.L (pn a b) ⟨a.st,b.st⟩ i),l3,l4)=
   if 512<(aC a.L (pn a b) ⟨a.st,b.st⟩ (i+1)).length then some (.inr (.inl (3,(a.L:Int),(a.st:Int),a.cG,a.cN,(b.L:Int),(b.st:Int),b.cG,b.cN,(op:Int),0,0,[],[],[])))
   else some (.inl (((i+1:Nat):Int),(a.L:Int),(a.st:Int),a.cG,a.cN,(b.L:Int),(b.st:Int),b.cG,b.cN,(op:Int),pS (aC a.L (pn a b) ⟨a.st,b.st⟩ (i+1)),pM (aC a.L (pn a b) ⟨a.st,b.st⟩ (i+1)),l3++[V.bool (pf a b op (aC a.L (pn a b) ⟨a.st,b.st⟩ i)[i])],l4++[V.list ab (tab a.L fun x=>nV (U.idxOf (pn a b (aC a.L (pn a b) ⟨a.st,b.st⟩ i)[i] x)))])):=by
 have h6:=ha.l6;have hq:=akn ha hb hL i _ (dc ra);have pZ:aC a.L (pn a b) ⟨a.st,b.st⟩ (i+1)=cd (pn a b) (aC a.L (pn a b) ⟨a.st,b.st⟩ i) (aC a.L (pn a b) ⟨a.st,b.st⟩ i)[i] a.L:=ZH (bY ra);simp only[Gu,Gp,un,aM];refine bT (ca (by rw[CS];omega)) ?_;refine (b7 (akf ra)).trans ?_;rw[akd,ake];refine bT (gG (by omega) (by omega)) ?_;refine bs (akm ha hb hL hq (by omega) (U:=U) (by rw[←pZ];exact hp)) ?_;rw[←pZ];by_cases zO:512<(aC a.L (pn a b) ⟨a.st,b.st⟩ (i+1)).length
 ·rw[aB zO];refine bT (ca (by rw[CS];omega)) ?_;rfl
 ·rw[ax zO];refine bF (cZ (by rw[CS];omega)) ?_;refine bT (cap (by simp;omega) (by omega)) ?_;refine bs (akk ho hq) ?_;refine bT (cap (by simp;omega) (by omega)) ?_;rw[bq (by omega)];rfl
theorem akq (ho:op≤15) (hn: ¬tu a b): ∃X,CC L7 ([nV a.L,nV a.st,nV b.st]++iW a (iW b [.int .i64 (op:Int)]))=some ([nV a.L,nV 0,.int .i64 0]++(iW a (iW b [.int .i64 (op:Int)])++[.list ak (nW a b op).cG,.list ag (nW a b op).cN,X])):=by
 have h6:=ha.l6;have hma:=ha.eb;have Rq:=hb.eb;have hsa:=ha.s;have ZI:=hb.s;have hd:(aC a.L (pn a b) ⟨a.st,b.st⟩ (a.n*b.n)).length≤a.n*b.n:=Me ha hb hL _;have hle: ∀i,(aC a.L (pn a b) ⟨a.st,b.st⟩ i).length≤(mF a b).length:=akr hd;have az9:(mF a b).length≤512:=by unfold tu at hn;omega
 refine ⟨.list kb (pS (mF a b)),aka ?_⟩;unfold ZD;refine bs (akg (x:=⟨a.st,b.st⟩) (by simp only;omega) (by simp only;omega)) ?_;have key:Loop (Gu CC (a.L:Int) 0 0 (a.L:Int) 0 ([]:List V) ([]:List V)) (0,(a.L:Int),(a.st:Int),a.cG,a.cN,(b.L:Int),(b.st:Int),b.cG,b.cN,(op:Int),pS [⟨a.st,b.st⟩],pM [⟨a.st,b.st⟩],([]:List V),([]:List V))=
   some (.inr (((mF a b).length:Int),false,(a.L:Int),(a.st:Int),a.cG,a.cN,(b.L:Int),(b.st:Int),b.cG,b.cN,(op:Int),pS (mF a b),pM (mF a b),(nW a b op).cG,(nW a b op).cN)):=by
  refine (fI (mF a b).length (fun i=>((i:Int),(a.L:Int),(a.st:Int),a.cG,a.cN,(b.L:Int),(b.st:Int),b.cG,b.cN,(op:Int),pS (aC a.L (pn a b) ⟨a.st,b.st⟩ i),pM (aC a.L (pn a b) ⟨a.st,b.st⟩ i),(tab i fun j=>V.bool ((nW a b op).fin j)),(tab i fun j=>nX a.L ((nW a b op).nx j)))) _ (fun i hi=> ?_) ?_)
  ·have ra:=Mf hd hi;have ye:i<a.n*b.n:=oq hi hd;have Rs:(aC a.L (pn a b) ⟨a.st,b.st⟩ i)[i]=(mF a b)[i]:=(sh (show i≤a.n*b.n by omega)).getElem ra;have aAa:=hle (i+1);have aAb:=hle i;have:=akp ha hb hL ho ra (by omega) (U:=mF a b) (sh (by omega)) (l1:=[]) (l2:=[]) (l3:=(tab i fun j=>V.bool ((nW a b op).fin j))) (l4:=(tab i fun j=>nX a.L ((nW a b op).nx j))) (by rw[eG];omega) (by rw[eG];omega);rw[dq,Rs] at this;rw[this,CX,CX];have e1:(nW a b op).fin i=pf a b op (mF a b)[i]:=Rt hi;have e2:nX a.L ((nW a b op).nx i)= .list ab (tab a.L fun x=>nV ((mF a b).idxOf (pn a b (mF a b)[i] x))):=by
    unfold nX;refine congrArg _ (c8 fun x hx=> ?_);rw[show (nW a b op).nx i x=_ from GA hi hx];rfl
   rw[e1,e2]
  ·simp only[Gu,Gp,un,aM];rw[show aC a.L (pn a b) ⟨a.st,b.st⟩ (mF a b).length=mF a b from Ru hd,CS];refine bF (aX (aw _)) ?_;rw[aX (aw _)];have e3:(nW a b op).n=(mF a b).length:=tv;unfold Da.cG Da.cN;rw[e3];rfl
 refine bs key ?_;rfl
end
section
variable {a b:Da} (ha:a.Ok) (hb:b.Ok) (hL:a.L=b.L) {op:Nat}
include ha hb hL
theorem aks (ho:op≤15) (hn: ¬tu a b):CC L8 (iW a (iW b [.int .i64 (op:Int)]))=some (ZJ (nW a b op) 0):=by
 obtain ⟨X,hX⟩:=akq ha hb hL ho hn;refine akb ?_;unfold ZE;refine bs (o7 ha) (bF rfl ?_);refine bs (o7 hb) (bF rfl ?_);refine bF (by rw[hL];simp) ?_;refine bF (cZ (by omega)) ?_;refine bF (cZ (by omega)) ?_;refine bs hX ?_;rfl
end
theorem ZK {a b:Da}: ∀(w:List Nat) (p:NP),w.foldl (pn a b) p=⟨a.run p.p w,b.run p.q w⟩
 | [],_=>rfl
 | x::w,p=>ZK w (pn a b p x)
section
variable {a b:Da} (ha:a.Ok) (hb:b.Ok) (hL:a.L=b.L) {op:Nat}
include ha hb hL
theorem Mg (hn: ¬tu a b):(nW a b op).Ok:=by
 unfold tu at hn;exact ZL (Me ha hb hL _) ha.l1 ha.l6 (show (mF a b).length≤512 by omega)
theorem akt {w:List Nat} (hw:WL a.L w):(nW a b op).acc 0 w=CT op (a.acc a.st w) (b.acc b.st w):=by
 have hd:(aC a.L (pn a b) ⟨a.st,b.st⟩ (a.n*b.n)).length≤a.n*b.n:=Me ha hb hL _;have h1:=ZM (fin:=pf a b op) hd (GB _) hw;have h2:=ZN (L:=a.L) (next:=pn a b) (a0:=(⟨a.st,b.st⟩:NP)) (a.n*b.n);rw[bY (GB _)] at h2;rw[dN h2,ZK] at h1;exact h1
end
noncomputable def ZO (C:af) (mE nT:Int) (oG oH:LV) (nh nU:Int) (oI oJ:LV):Option LV:=
 (C qS [V.int .i64 mE,V.int .i64 nT,.list ak oG,.list ag oH]).bind fun r1=>
 bif (((V.nth r1 0).toInt):Int) != 0 then
  some [V.int .i64 0,V.int .i64 0,V.int .i64 0,V.int .i64 0,V.int .i64 ((V.nth r1 0).toInt),.list ak ([]:LV),.list ag ([]:LV),.list ak ([]:LV),.list ag ([]:LV)]
 else
  (C qS [V.int .i64 nh,V.int .i64 nU,.list ak oI,.list ag oJ]).bind fun r2=>
  bif (((V.nth r2 0).toInt):Int) != 0 then
  some [V.int .i64 0,V.int .i64 0,V.int .i64 0,V.int .i64 0,V.int .i64 ((V.nth r2 0).toInt),.list ak ([]:LV),.list ag ([]:LV),.list ak ([]:LV),.list ag ([]:LV)]
  else
  bif mE != nh then
   some [V.int .i64 0,V.int .i64 0,V.int .i64 0,V.int .i64 0,V.int .i64 1,.list ak ([]:LV),.list ag ([]:LV),.list ak ([]:LV),.list ag ([]:LV)]
  else
   (C uD [V.int .i64 mE,V.int .i64 nT,.list ak oG,.list ag oH]).bind fun r3=>
   (C uD [V.int .i64 nh,V.int .i64 nU,.list ak oI,.list ag oJ]).bind fun r4=>
   some [V.int .i64 ((V.nth r3 0).toInt),V.int .i64 ((V.nth (r3.drop 1) 0).toInt),V.int .i64 ((V.nth r4 0).toInt),V.int .i64 ((V.nth (r4.drop 1) 0).toInt),V.int .i64 0,.list ak ((V.nth (r3.drop 2) 0).toList),.list ag ((V.nth ((r3.drop 2).drop 1) 0).toList),.list ak ((V.nth (r4.drop 2) 0).toList),.list ag ((V.nth ((r4.drop 2).drop 1) 0).toList)]
theorem aku {mE nT:Int} {oG oH:LV} {nh nU:Int} {oI oJ:LV} {r:Option LV} (h:ZO CC mE nT oG oH nh nU oI oJ=r):CC Mh [V.int .i64 mE,V.int .i64 nT,.list ak oG,.list ag oH,V.int .i64 nh,V.int .i64 nU,.list ak oI,.list ag oJ]=r:=bI (L:=bH) av h
def akv (a b:Da) (e:Int):List V:=[.int .i64 (a.L:Int),.int .i64 (a.st:Int),.int .i64 (b.L:Int),.int .i64 (b.st:Int),.int .i64 e,.list ak a.cG,.list ag a.cN,.list ak b.cG,.list ag b.cN]
theorem akw {a b:Da} (ha:a.Ok) (hb:b.Ok) (hL:a.L=b.L):CC Mh (iW a (eh b))=some (akv (minD a) (minD b) 0):=by
 refine aku ?_;unfold ZO;refine bs (o7 ha) (bF rfl ?_);refine bs (o7 hb) (bF rfl ?_);refine bF (by rw[hL];simp) ?_;refine bs (yd ha) ?_;refine bs (yd hb) ?_;rfl
noncomputable def ZP (C:af) (mE nT:Int) (oG oH:LV) (nh nU:Int) (oI oJ:LV) (op:Int):Option LV:=
 (C Mh [V.int .i64 mE,V.int .i64 nT,.list ak oG,.list ag oH,V.int .i64 nh,V.int .i64 nU,.list ak oI,.list ag oJ]).bind fun r1=>
 bif (((V.nth ((r1.drop 2).drop 2) 0).toInt):Int) != 0 then
  some [V.int .i64 0,V.int .i64 0,V.int .i64 ((V.nth ((r1.drop 2).drop 2) 0).toInt),.list ak ([]:LV),.list ag ([]:LV)]
 else
  (C L8 [V.int .i64 ((V.nth r1 0).toInt),V.int .i64 ((V.nth (r1.drop 1) 0).toInt),.list ak ((V.nth (r1.drop 5) 0).toList),.list ag ((V.nth ((r1.drop 5).drop 1) 0).toList),V.int .i64 ((V.nth (r1.drop 2) 0).toInt),V.int .i64 ((V.nth ((r1.drop 2).drop 1) 0).toInt),.list ak ((V.nth (((r1.drop 5).drop 1).drop 1) 0).toList),.list ag ((V.nth ((((r1.drop 5).drop 1).drop 1).drop 1) 0).toList),V.int .i64 op]).bind fun r2=>
  bif (((V.nth (r2.drop 2) 0).toInt):Int) != 0 then
  some [V.int .i64 0,V.int .i64 0,V.int .i64 ((V.nth (r2.drop 2) 0).toInt),.list ak ([]:LV),.list ag ([]:LV)]
  else
  (C uD [V.int .i64 ((V.nth r2 0).toInt),V.int .i64 ((V.nth (r2.drop 1) 0).toInt),.list ak ((V.nth (r2.drop 3) 0).toList),.list ag ((V.nth ((r2.drop 3).drop 1) 0).toList)]).bind fun r3=>
  some [V.int .i64 ((V.nth r3 0).toInt),V.int .i64 ((V.nth (r3.drop 1) 0).toInt),V.int .i64 0,.list ak ((V.nth (r3.drop 2) 0).toList),.list ag ((V.nth ((r3.drop 2).drop 1) 0).toList)]
theorem akx {mE nT:Int} {oG oH:LV} {nh nU:Int} {oI oJ:LV} {op:Int} {r:Option LV} (h:ZP CC mE nT oG oH nh nU oI oJ op=r):CC GC [V.int .i64 mE,V.int .i64 nT,.list ak oG,.list ag oH,V.int .i64 nh,V.int .i64 nU,.list ak oI,.list ag oJ,V.int .i64 op]=r:=bI (L:=bH) av h
noncomputable def uE (a b:Da) (op:Nat):Da:=minD (nW (minD a) (minD b) op)
section
variable {a b:Da} (ha:a.Ok) (hb:b.Ok) (hL:a.L=b.L) {op:Nat}
include ha hb hL
theorem zP:(minD a).L=(minD b).L:=by rw[tj ha,tj hb,hL]
theorem ZQ (ho:op≤15) (hn: ¬tu (minD a) (minD b)):CC GC (iW a (iW b [.int .i64 (op:Int)]))=some (ZJ (uE a b op) 0):=by
 refine akx ?_;unfold ZP;refine bs (akw ha hb hL) (bF rfl ?_);have hp:=aks (jN ha) (jN hb) (zP ha hb hL) ho hn;refine bs hp (bF rfl ?_);refine bs (yd (Mg (op:=op) (jN ha) (jN hb) (zP ha hb hL) hn)) ?_;rfl
theorem ZR (hn: ¬tu (minD a) (minD b)):(uE a b op).Ok:=jN (Mg (jN ha) (jN hb) (zP ha hb hL) hn)
theorem aky (hn: ¬tu (minD a) (minD b)):(uE a b op).L=a.L:=(tj (Mg (op:=op) (jN ha) (jN hb) (zP ha hb hL) hn)).trans (tj ha)
theorem ZS (hn: ¬tu (minD a) (minD b)) {w:List Nat} (hw:WL a.L w):(uE a b op).acc (uE a b op).st w=CT op (a.acc a.st w) (b.acc b.st w):=by
 have aq:=Mg (op:=op) (jN ha) (jN hb) (zP ha hb hL) hn;have ZT:WL (minD a).L w:=by rw[tj ha];exact hw
 have h1:=zF aq (w:=w) ZT;have h2:=akt (jN ha) (jN hb) (zP ha hb hL) (op:=op) ZT;have h3:(nW (minD a) (minD b) op).st=0:=rfl;rw[h3] at h1;unfold uE;rw[h1,h2,zF ha hw,zF hb (hL▸hw)]
end
noncomputable def ZU (C:af) (x n:Int):Option LV:=
 bif decide (n<1) then
  some [V.int .i64 0]
 else
  bif !decide (n=0) then
  bif decide (((Int.tmod x n):Int)<0) then
   some [V.int .i64 (wrap .i64 ((Int.tmod x n)+n))]
  else
   some [V.int .i64 (Int.tmod x n)]
  else none
theorem akz {x n:Int} {r:Option LV} (h:ZU CC x n=r):CC Mi [V.int .i64 x,V.int .i64 n]=r:=bI (L:=bH) av h
noncomputable def Rv (C:af) (l:LV):Option LV:=
 bif decide ((l.length:Int)>80) then
  bif decide (80≤(l.length:Int)) then
  some [.list ab ((l.drop 0).take (80-0)),V.int .i64 0]
  else none
 else
  some [.list ab l,V.int .i64 0]
theorem ZV {l:LV} {r:Option LV} (h:Rv CC l=r):CC Mj [.list ab l]=r:=bI (L:=bH) av h
noncomputable def Rw (C:af) (n:Int) (bO:LV) (bP:Int):Option LV:=
 bif decide (bP≥(bO.length:Int)) then
  some [V.int .i64 0,.list ab bO,V.int .i64 bP]
 else
  (idx bO (wrap .i64 ((wrap .i64 (bP+1))-1))).bind fun x1=>
  (C Mi [V.int .i64 x1.toInt,V.int .i64 n]).bind fun r2=>
  some [V.int .i64 ((V.nth r2 0).toInt),.list ab bO,V.int .i64 (wrap .i64 (bP+1))]
theorem ZW {n:Int} {bO:LV} {bP:Int} {r:Option LV} (h:Rw CC n bO bP=r):CC o9 [V.int .i64 n,.list ab bO,V.int .i64 bP]=r:=bI (L:=bH) av h
theorem akA {x:Int} {n:Nat} (hn:1≤n) (hm:n≤1000000): ∃v:Nat,v<n∧CC Mi [.int .i64 x,.int .i64 (n:Int)]=some [.int .i64 (v:Int)]:=by
 have h1:x %n<n:=Int.emod_lt_of_pos _ (by omega);have h2:0≤x %n:=Int.emod_nonneg _ (by omega);have e:((x %n).toNat:Int)=x %n:=Int.toNat_of_nonneg h2;have h0:Int.tmod x n=x %n∨Int.tmod x n=x %n-n:=by
  rw[Int.tmod_eq_emod];split<;>simp
 refine ⟨(x %n).toNat,by omega,akz ?_⟩;unfold ZU;refine bF (by simp;omega) (bT (by simp;omega) ?_);rw[e];by_cases h:Int.tmod x n<0
 ·refine bT (ca h) ?_;have h3:Int.tmod x n+n=x %n:=by omega
  rw[h3,sf (by omega) (by omega)]
 ·refine bF (cZ h) ?_;have h3:Int.tmod x n=x %n:=by omega
  rw[h3]
structure Tp where
 l:List Int
 k:Nat
 h:l.length≤80
 hk:k≤80
def Tp.L (t:Tp):V:= .list ab (t.l.map iV)
def Tp.K (t:Tp):V:= .int .i64 (t.k:Int)
theorem akB (l:List Int): ∃t:Tp,CC Mj [.list ab (l.map iV)]=some [t.L,t.K]:=by
 by_cases h:80<l.length
 ·refine ⟨⟨l.take 80,0,by simp;omega,by omega⟩,ZV ?_⟩;unfold Rv;refine bT (by simp;omega) (bT (by simp;omega) ?_);simp[Tp.L,Tp.K,List.map_take]
 ·refine ⟨⟨l,0,by omega,by omega⟩,ZV ?_⟩;unfold Rv;exact bF (by simp;omega) rfl
theorem si (t:Tp) {n:Nat} (hn:1≤n) (hm:n≤1000000): ∃(v:Nat) (u:Tp),v<n∧CC o9 [.int .i64 (n:Int),t.L,t.K]=some [.int .i64 (v:Int),u.L,u.K]:=by
 have hh:=t.h;have hk:=t.hk;by_cases h:t.l.length≤t.k
 ·refine ⟨0,t,by omega,ZW ?_⟩;unfold Rw;exact bT (by simp;omega) rfl
 ·obtain ⟨v,hv,e⟩:=akA (x:=t.l.getD t.k 0) hn hm;refine ⟨v,⟨t.l,t.k+1,t.h,by omega⟩,hv,ZW ?_⟩;unfold Rw;refine bF (by simp;omega) ?_;rw[bq (by omega),sf (by omega) (by omega),show ((t.k+1:Nat):Int)-1=(t.k:Int) by omega];refine bs (Rx (z:=0) (by omega)) ?_;refine bs (by rw[V.toInt_int];exact e) ?_;rfl
structure Nd where
 op:Nat
 x:Nat
 a:Nat
 b:Nat
deriving DecidableEq
def Nd.v (d:Nd):V:= .agg [.int .i64 (d.op:Int),.int .i64 (d.x:Int),.int .i64 (d.a:Int),.int .i64 (d.b:Int)]
structure Nd.Ok (d:Nd) (L i:Nat):Prop where
 o1:1≤d.op
 o8:d.op≤8
 x1:d.op=3→d.x<L
 x0:d.op≠3→d.x=0
 a1:5≤d.op→d.a<i
 a0:d.op<5→d.a=0
 b1:5≤d.op→d.op≠8→d.b<i
 b0:d.op<5∨d.op=8→d.b=0
structure ZX (g:List Nd) (L:Nat):Prop where
 l1:1≤L
 l2:L≤6
 n1:1≤g.length
 n2:g.length≤100
 nd: ∀i (h:i<g.length),g[i].Ok L i
theorem ZX.get {g:List Nd} {L i:Nat} (h:ZX g L) (hi:i<g.length):idx (g.map Nd.v) (i:Int)=some g[i].v:=by
 rw[ZY rfl hi]
noncomputable def GD (C:af) (aR n q iY iZ bw bE:Int) (aW aV aF aO:LV) (a:Int) (bO:LV) (bP:Int) (rows:LV) {β:Type} (kn:(Int×LV×Int×LV)→Option β) (kr:(Int×Bool×LV×Int×LV)→Option β):Option β:=
 bif decide (a<aR) then
  (C o9 [V.int .i64 n,.list ab bO,V.int .i64 bP]).bind fun r4=>
  bif Nat.ble ((rows.length+([V.int .i64 ((V.nth r4 0).toInt)]:LV).length)*8) aY then
  kn (wrap .i64 (a+1),(V.nth (r4.drop 1) 0).toList,(V.nth ((r4.drop 1).drop 1) 0).toInt,rows++([V.int .i64 ((V.nth r4 0).toInt)]:LV))
  else none
 else
  kr (a,decide (a<aR),bO,bP,rows)
noncomputable def GF (C:af) (aR n q iY iZ bw bE:Int) (aW aV aF aO:LV):=un fun a=>un fun bO=>un fun bP rows=>GD C aR n q iY iZ bw bE aW aV aF aO a bO bP rows (fun y=>some (Sum.inl y)) (fun r=>some (Sum.inr r))
noncomputable def GG (C:af) (aR n iY iZ bw bE:Int) (aQ aW:LV) (q:Int) (bO:LV) (bP:Int) (aV aF:LV) {β:Type} (kn:(Int×LV×Int×LV×LV)→Option β) (kr:(Int×Bool×LV×Int×LV×LV)→Option β):Option β:=
 bif decide (q<n) then
  (C o9 [V.int .i64 2,.list ab bO,V.int .i64 bP]).bind fun r3=>
  bif Nat.ble ((aV.length+([.bool ((((V.nth r3 0).toInt):Int)==1)]:LV).length)*1) aY then
  (Loop (GF C aR n q iY iZ bw bE aQ aW (aV++([.bool ((((V.nth r3 0).toInt):Int)==1)]:LV)) aF) (0,(V.nth (r3.drop 1) 0).toList,(V.nth ((r3.drop 1).drop 1) 0).toInt,([]:LV))).bind (un fun a_5=>un fun (j5:Bool)=>un fun (Ry:LV)=>un fun (akC:Int) (akD:LV)=>
   bif Nat.ble ((aF.length+1)*24) aY then
    kn (wrap .i64 (q+1),Ry,akC,aV++([.bool ((((V.nth r3 0).toInt):Int)==1)]:LV),aF++([.list ab akD]:LV))
   else none)
  else none
 else
  kr (q,decide (q<n),bO,bP,aV,aF)
noncomputable def Mk (C:af) (aR n iY iZ bw bE:Int) (aQ aW:LV):=un fun q=>un fun bO=>un fun bP=>un fun aV aF=>GG C aR n iY iZ bw bE aQ aW q bO bP aV aF (fun y=>some (Sum.inl y)) (fun r=>some (Sum.inr r))
noncomputable def ZZ (C:af):cL:=bR 161 Rz [EQ,EQ,EQ,H1,H1,H1,EQ,EQ,EQ,EQ,H1,EQ,EQ,EQ,EQ] [[1,2,3,0,0,0,0,7,8,9,10,0,12,13,14,15]] (@GD C) (bR 81 RA [EQ,EQ,H1,H1,H1,EQ,EQ,EQ,EQ,EQ,EQ,H1,H1] [[1,2,0,0,0,0,6,7,8,9,10,11,0,0]] (@GG C) bH)
theorem akE (C:af):bA C (ZZ C) 14 (Lp [1,1,1,1,0,1,0,0,1,0,0,1,1,0,1,0,0] 14):=bS Rz [EQ,EQ,EQ,H1,H1,H1,EQ,EQ,EQ,EQ,H1,EQ,EQ,EQ,EQ] [[1,2,3,0,0,0,0,7,8,9,10,0,12,13,14,15]] (@GD C) (bu av)
theorem akF (C:af):bA C (ZZ C) 14 (Lp [1,1,1,1,0,1,0,0] 14):=bS RA [EQ,EQ,H1,H1,H1,EQ,EQ,EQ,EQ,EQ,EQ,H1,H1] [[1,2,0,0,0,0,6,7,8,9,10,11,0,0]] (@GG C) (bu (bB (akE C) av))
noncomputable def Z0 (C:af) (aR eb:Int) (bO:LV) (bP:Int):Option LV:=
 (C o9 [V.int .i64 eb,.list ab bO,V.int .i64 bP]).bind fun r1=>
 (C o9 [V.int .i64 (wrap .i64 (1+((V.nth r1 0).toInt))),.list ab ((V.nth (r1.drop 1) 0).toList),V.int .i64 ((V.nth ((r1.drop 1).drop 1) 0).toInt)]).bind fun r2=>
 (Loop (Mk C aR (wrap .i64 (1+((V.nth r1 0).toInt))) 0 0 aR ((V.nth r2 0).toInt) ([]:LV) ([]:LV)) (0,(V.nth (r2.drop 1) 0).toList,(V.nth ((r2.drop 1).drop 1) 0).toInt,([]:LV),([]:LV))).bind (un fun akG=>un fun (zQ:Bool)=>un fun (akH:LV)=>un fun akI=>un fun (qk:LV) (wg:LV)=>
  some [V.int .i64 aR,V.int .i64 ((V.nth r2 0).toInt),.list ab akH,V.int .i64 akI,.list ak qk,.list ag wg])
theorem akJ {aR eb:Int} {bO:LV} {bP:Int} {r:Option LV} (h:Z0 CC aR eb bO bP=r):CC GH [V.int .i64 aR,V.int .i64 eb,.list ab bO,V.int .i64 bP]=r:=bI (bB (akF CC) av) h
def cT (N:List (List Nat)):LV:=N.map fun r=> .list ab (nS r)
structure FN (L:Nat) (F:List Bool) (N:List (List Nat)):Prop where
 len:F.length=N.length
 pos:1≤N.length
 row: ∀r∈N,r.length=L∧∀q∈r,q<N.length
theorem FN.ok {L st:Nat} {F:List Bool} {N:List (List Nat)} (h:FN L F N) (h1:1≤L) (h6:L≤6) (hs:st<N.length) (hn:N.length≤512):(⟨L,st,F,N⟩:Da).Ok:=by
 have e:(⟨L,st,F,N⟩:Da).n=N.length:=h.len;exact ⟨h1,h6,by rw[e],fun r hr=>by rw[e];exact h.row r hr,by rw[e];exact hs,by rw[e];exact hn⟩
theorem FN.leaves {L st:Nat} {F:List Bool} {N:List (List Nat)} (h:(⟨L,st,F,N⟩:Da).Ok):eh ⟨L,st,F,N⟩=[.int .i64 (L:Int),.int .i64 (st:Int),.list ak (F.map V.bool),.list ag (cT N)]:=by
 have:=h.leaves [];show iW _ []=_;rw[←this];simp only[Ml,Da.df,cT,yX];refine congrArg (fun x=>[V.int .i64 (L:Int),V.int .i64 (st:Int),V.list ak (F.map V.bool),V.list ag x]) (pH fun r _=> ?_);simp only[Function.comp,uF,tw,nS,yX];rfl
theorem Z1 (t:Tp) {L m:Nat} (h1:1≤L) (h6:L≤6) (hm:1≤m) (uu:m≤50): ∃(F:List Bool) (N:List (List Nat)) (st:Nat) (u:Tp),FN L F N∧N.length≤m∧st<N.length∧
  CC GH [.int .i64 (L:Int),.int .i64 (m:Int),t.L,t.K]=some [.int .i64 (L:Int),.int .i64 (st:Int),u.L,u.K,.list ak (F.map V.bool),.list ag (cT N)]:=by
 obtain ⟨v,t1,hv,e1⟩:=si t (n:=m) hm (by omega);obtain ⟨st,t2,cQ,e2⟩:=si t1 (n:=v+1) (by omega) (by omega);have inner: ∀(w:Tp) {x1 x2 x3 x4 x5:Int} {y1 y2 y3 y4:LV},∃(r:List Nat) (u:Tp),r.length=L∧(∀q∈r,q<v+1)∧
   Loop (GF CC (L:Int) ((v+1:Nat):Int) x1 x2 x3 x4 x5 y1 y2 y3 y4) (0,w.l.map iV,(w.k:Int),([]:LV))=some ((L:Int),false,u.l.map iV,(u.k:Int),nS r):=by
  intro w x1 x2 x3 x4 x5 y1 y2 y3 y4;have key:=lN (step:=GF CC (L:Int) ((v+1:Nat):Int) x1 x2 x3 x4 x5 y1 y2 y3 y4) (fun i x=> ∃(r:List Nat) (u:Tp),r.length=i∧(∀q∈r,q<v+1)∧x=((i:Int),u.l.map iV,(u.k:Int),nS r))
   (fun o=> ∃(r:List Nat) (u:Tp),r.length=L∧(∀q∈r,q<v+1)∧o=((L:Int),false,u.l.map iV,(u.k:Int),nS r)) L 0 (0,w.l.map iV,(w.k:Int),nS []) (fun i _ hi x hx=> ?_) (fun x hx=> ?_) ⟨[],w,rfl,fun _ h=>(by cases h),rfl⟩
  ·obtain ⟨o,e,r,u,a1,a2,rfl⟩:=key;exact ⟨r,u,a1,a2,e⟩
  ·obtain ⟨r,u,a1,a2,rfl⟩:=hx;obtain ⟨k,u2,hk,e⟩:=si u (n:=v+1) (by omega) (by omega);simp only[GF,GD,un];refine ⟨_,bT (bn (by omega)) (bs e (bT (cap (a:=(nS r).length) (b:=1) (by rw[dC];omega) (by omega)) rfl)),r++[k],u2,by simp;omega,fun q hq=> ?_,?_⟩
   ·rcases fj.1 hq with hq|hq
    ·exact a2 q hq
    ·rw[fS.1 hq];exact hk
   ·rw[bq (by omega)];refine cI rfl (cI rfl (cI rfl ?_));simp[nS,nV]
  ·obtain ⟨r,u,a1,a2,rfl⟩:=hx;rw[dB] at*
   simp only[GF,GD,un];exact ⟨_,bF (aX (aw _)) rfl,r,u,a1,a2,cI rfl (cI (aX (aw _)) rfl)⟩
 have key:=lN (step:=Mk CC (L:Int) ((v+1:Nat):Int) 0 0 (L:Int) (st:Int) [] []) (fun i x=> ∃(F:List Bool) (N:List (List Nat)) (u:Tp),F.length=i∧N.length=i∧(∀r∈N,r.length=L∧∀q∈r,q<v+1)∧x=((i:Int),u.l.map iV,(u.k:Int),F.map V.bool,cT N))
  (fun o=> ∃(F:List Bool) (N:List (List Nat)) (u:Tp),F.length=v+1∧N.length=v+1∧(∀r∈N,r.length=L∧∀q∈r,q<v+1)∧o=(((v+1:Nat):Int),false,u.l.map iV,(u.k:Int),F.map V.bool,cT N)) (v+1) 0 (0,t2.l.map iV,(t2.k:Int),([]:LV),([]:LV)) (fun i _ hi x hx=> ?_) (fun x hx=> ?_) ⟨[],[],t2,rfl,rfl,fun _ h=>(by cases h),rfl⟩
 ·obtain ⟨o,e,F,N,u,a1,a2,a3,rfl⟩:=key;refine ⟨F,N,st,u,⟨by omega,by omega,fun r hr=>by rw[a2];exact a3 r hr⟩,by omega,by omega,akJ ?_⟩;unfold Z0;have hw:wrap .i64 (1+(V.nth [V.int .i64 (v:Int),t1.L,t1.K] 0).toInt)=((v+1:Nat):Int):=by
   show wrap .i64 (1+(v:Int))=_;rw[show (1+(v:Int))=((v+1:Nat):Int) by omega];exact wrap64 (by omega) (by omega)
  refine bs e1 ?_;rw[hw];exact bs e2 (bs e rfl)
 ·obtain ⟨F,N,u,a1,a2,a3,rfl⟩:=hx;obtain ⟨k,u2,hk,e⟩:=si u (n:=2) (by omega) (by omega);obtain ⟨r,u3,b1,b2,e3⟩:=inner u2 (x1:=(i:Int)) (x2:=0) (x3:=0) (x4:=(L:Int)) (x5:=(st:Int)) (y1:=[]) (y2:=[]) (y3:=F.map V.bool++[.bool ((k:Int)==1)]) (y4:=cT N);simp only[Mk,GG,un];refine ⟨(((i+1:Nat):Int),u3.l.map iV,(u3.k:Int),F.map V.bool++[.bool ((k:Int)==1)],cT N++[.list ab (nS r)]),bT (bn (by omega)) (bs e (bT (cap (a:=(F.map V.bool).length) (b:=1) (by rw[dE];omega) (by omega)) (bs e3 ?_))),F++[(k:Int)==1],N++[r],u3,by simp;omega,by simp;omega,fun s hs=> ?_,?_⟩
  ·simp only[un];refine bT (cap (a:=(cT N).length) (b:=1) (by rw[cT,dE];omega) (by omega)) ?_;rw[bq (by omega)];rfl
  ·rcases fj.1 hs with hs|hs
   ·exact a3 s hs
   ·rw[fS.1 hs];exact ⟨b1,b2⟩
  ·simp[cT]
 ·obtain ⟨F,N,u,a1,a2,a3,rfl⟩:=hx;rw[dB] at*
  simp only[Mk,GG,un];exact ⟨_,bF (aX (aw _)) rfl,F,N,u,a1,a2,a3,cI rfl (cI (aX (aw _)) rfl)⟩
noncomputable def GI (C:af) (q t17 t18:Int) (t25:Nat) (t26:Int) (zG:LV) (zH iY iZ bw bE:Int) (aW aV aF:LV) (t27:Int) (wh:LV) {β:Type} (kn:(Int×LV)→Option β) (kr:(Int×Bool×LV)→Option β):Option β:=
 bif decide (t27<t26) then
  (fm Tryz.prog ag wh [(t25,0)]).bind fun x4=>
  bif (decide (0≤t27))&&(decide (t27<(x4.toList.length:Int))) then
  (fm Tryz.prog ag wh [(t25,0)]).bind fun x5=>
  (x5.toList[t27.toNat]?).bind fun x6=>
  aM wh q fun x7=>
  (fm Tryz.prog ag wh [(q.toNat,0)]).bind fun x8=>
  bif (decide (0≤t27))&&(decide (t27<(x8.toList.length:Int))) then
   (fm Tryz.prog ag wh [(q.toNat,0)]).bind fun x9=>
   (x9.toList[t27.toNat]?).bind fun oK=>
   kn (wrap .i64 (t27+1),setRow Tryz.prog (bm x9.toList t27 (V.int .i64 (if x6.toInt>q then x6.toInt else q))) ag wh [(q.toNat,0)])
  else none
  else none
 else
  kr (t27,decide (t27<t26),wh)
noncomputable def GJ (C:af) (q t17 t18:Int) (t25:Nat) (t26:Int) (zG:LV) (zH iY iZ bw bE:Int) (aW aV aF:LV):=un fun t27 wh=>GI C q t17 t18 t25 t26 zG zH iY iZ bw bE aW aV aF t27 wh (fun y=>some (Sum.inl y)) (fun r=>some (Sum.inr r))
noncomputable def GK (C:af) (t17:Int) (zG:LV) (zH iY iZ bw bE:Int) (aQ aW aV:LV) (t18:Int) (aF:LV) {β:Type} (kn:(Int×LV)→Option β) (kr:(Int×Bool×LV)→Option β):Option β:=
 bif decide (t18<t17) then
  aM aF t18 fun x2=>
  (fm Tryz.prog ag aF [(t18.toNat,0)]).bind fun x3=>
  (Loop (GJ C t18 t17 t18 (t18.toNat) (x3.toList.length:Int) zG zH iY iZ bw bE aQ aW aV) (0,aF)).bind (un fun zQ=>un fun (Mm:Bool) (akK:LV)=>
   kn (wrap .i64 (t18+1),akK))
 else
  kr (t18,decide (t18<t17),aF)
noncomputable def Mn (C:af) (t17:Int) (zG:LV) (zH iY iZ bw bE:Int) (aQ aW aV:LV):=un fun t18 aF=>GK C t17 zG zH iY iZ bw bE aQ aW aV t18 aF (fun y=>some (Sum.inl y)) (fun r=>some (Sum.inr r))
noncomputable def Z2 (C:af):cL:=bR 97 RB [EQ,EQ,EQ,EQ,EQ,H1,EQ,EQ,EQ,EQ,EQ,EQ,H1,EQ,EQ,EQ] [[1,2,3,4,5,0,0,7,8,9,10,11,12,0,14,15,16]] (@GI C) (bR 49 RC [EQ,H1,EQ,EQ,EQ,EQ,EQ,EQ,EQ,EQ,EQ,H1] [[1,0,0,3,4,5,6,7,8,9,10,11,0]] (@GK C) bH)
theorem akL (C:af):bA C (Z2 C) 11 (Lp [1,1,0,1,0,0,1,1,0,0,1,1,0,0] 11):=bS RB [EQ,EQ,EQ,EQ,EQ,H1,EQ,EQ,EQ,EQ,EQ,EQ,H1,EQ,EQ,EQ] [[1,2,3,4,5,0,0,7,8,9,10,11,12,0,14,15,16]] (@GI C) (bu av)
theorem akM (C:af):bA C (Z2 C) 11 (Lp [1,1,0,1,0,0] 11):=bS RC [EQ,H1,EQ,EQ,EQ,EQ,EQ,EQ,EQ,EQ,EQ,H1] [[1,0,0,3,4,5,6,7,8,9,10,11,0]] (@GK C) (bu (bB (akL C) av))
noncomputable def Z3 (C:af) (aR eb:Int) (bO:LV) (bP:Int):Option LV:=
 (C GH [V.int .i64 aR,V.int .i64 eb,.list ab bO,V.int .i64 bP]).bind fun r1=>
 (Loop (Mn C (((V.nth (((r1.drop 2).drop 2).drop 1) 0).toList).length:Int) ((V.nth (r1.drop 2) 0).toList) ((V.nth ((r1.drop 2).drop 1) 0).toInt) 0 0 ((V.nth r1 0).toInt) ((V.nth (r1.drop 1) 0).toInt) ([]:LV) ([]:LV) ((V.nth ((r1.drop 2).drop 2) 0).toList)) (0,(V.nth (((r1.drop 2).drop 2).drop 1) 0).toList)).bind (un fun wi=>un fun (Mo:Bool) (zR:LV)=>
  some [V.int .i64 ((V.nth r1 0).toInt),V.int .i64 0,.list ab ((V.nth (r1.drop 2) 0).toList),V.int .i64 ((V.nth ((r1.drop 2).drop 1) 0).toInt),.list ak ((V.nth ((r1.drop 2).drop 2) 0).toList),.list ag zR])
theorem akN {aR eb:Int} {bO:LV} {bP:Int} {r:Option LV} (h:Z3 CC aR eb bO bP=r):CC Mp [V.int .i64 aR,V.int .i64 eb,.list ab bO,V.int .i64 bP]=r:=bI (bB (akM CC) av) h
theorem RD {N:List (List Nat)}:(cT N).length=N.length:=by simp[cT]
theorem akO {N:List (List Nat)} {q:Nat} {r:List Nat} (hq:q<N.length):(cT (N.set q r))[q]? =some (.list ab (nS r)):=by simp[cT,hq]
theorem akP (t:Tp) {L m:Nat} (h1:1≤L) (h6:L≤6) (hm:1≤m) (uu:m≤50): ∃(F:List Bool) (N:List (List Nat)) (u:Tp),FN L F N∧N.length≤m∧
  CC Mp [.int .i64 (L:Int),.int .i64 (m:Int),t.L,t.K]=some [.int .i64 (L:Int),.int .i64 0,u.L,u.K,.list ak (F.map V.bool),.list ag (cT N)]:=by
 obtain ⟨F,N0,st,u,hF,hNm,cQ,e0⟩:=Z1 t h1 h6 hm uu;obtain ⟨n,hn⟩: ∃n,n=N0.length:=⟨_,rfl⟩
 have Z4:=hF.row;rw[←hn] at Z4;have inner: ∀{N:List (List Nat)} {q:Nat},N.length=n→q<n→(∀r∈N,r.length=L∧∀y∈r,y<n)→∃r:List Nat,r.length=L∧(∀y∈r,y<n)∧
   Loop (GJ CC (q:Int) (n:Int) (q:Int) q (L:Int) (u.l.map iV) (u.k:Int) 0 0 (L:Int) (st:Int) [] [] (F.map V.bool)) (0,cT N)=some ((L:Int),false,cT (N.set q r)):=by
  intro N q hN hq cW;have Z5:=cW N[q] (dc (by omega));have key:=lN (step:=GJ CC (q:Int) (n:Int) (q:Int) q (L:Int) (u.l.map iV) (u.k:Int) 0 0 (L:Int) (st:Int) [] [] (F.map V.bool)) (fun j x=> ∃r:List Nat,r.length=L∧(∀y∈r,y<n)∧x=((j:Int),cT (N.set q r)))
   (fun o=> ∃r:List Nat,r.length=L∧(∀y∈r,y<n)∧o=((L:Int),false,cT (N.set q r))) L 0 (0,cT N) (fun j _ hj x hx=> ?_) (fun x hx=> ?_) ⟨N[q],Z5.1,Z5.2,by rw[List.set_getElem_self];rfl⟩
  ·obtain ⟨o,e,r,a1,a2,rfl⟩:=key;exact ⟨r,a1,a2,e⟩
  ·obtain ⟨r,a1,a2,rfl⟩:=hx;have fY:j<r.length:=by omega
   have hg:=akO (N:=N) (q:=q) (r:=r) (by omega);have zS:=rb hg;have Mq:=a2 _ (dc fY);have Mr:(V.list ab (nS r)).toList[((j:Int)).toNat]? =some (nV r[j]):=by rw[V.eH,Int.toNat_natCast];exact yf fY
   have hb:(decide (0≤(j:Int))&&decide ((j:Int)<((V.list ab (nS r)).toList.length:Int)))=true:=by rw[V.eH];exact o5 (by rw[dC];exact fY)
   have js:setRow Tryz.prog (bm (V.list ab (nS r)).toList (j:Int) (V.int .i64 (if (nV r[j]).toInt>(q:Int) then (nV r[j]).toInt else (q:Int)))) ag (cT (N.set q r)) [((q:Int).toNat,0)]=cT (N.set q (r.set j (if r[j]>q then r[j] else q))):=by
    rw[Int.toNat_natCast,GL hg,V.eH];have hv:(V.int .i64 (if (nV r[j]).toInt>(q:Int) then (nV r[j]).toInt else (q:Int)))=nV (if r[j]>q then r[j] else q):=by
     show V.int .i64 (if ((r[j]:Nat):Int)>(q:Int) then ((r[j]:Nat):Int) else (q:Int))=V.int .i64 ((if r[j]>q then r[j] else q:Nat):Int);by_cases c:r[j]>q
     ·rw[aB c,aB (by omega)]
     ·rw[ax c,ax (by omega)]
    rw[hv];simp only[bm,Int.toNat_natCast,cT,List.map_set];rw[BG];simp[nS]
   simp only[GJ,GI,un];refine ⟨_,bT (bn (by omega)) (bs zS (bT hb (bs zS (bs (a:=nV r[j]) Mr ((b7 hg).trans (bs (by rw[Int.toNat_natCast];exact zS) (bT hb (bs (by rw[Int.toNat_natCast];exact zS) (bs (a:=nV r[j]) Mr rfl))))))))),r.set j (if r[j]>q then r[j] else q),by rw[pF,a1],fun y hy=> ?_,?_⟩
   ·rcases EL hy with hy|rfl
    ·exact a2 y hy
    ·split
     ·exact Mq
     ·exact hq
   ·rw[bq (by omega)];exact cI rfl js
  ·obtain ⟨r,a1,a2,rfl⟩:=hx;rw[dB] at*
   simp only[GJ,GI,un];exact ⟨_,bF (aX (aw _)) rfl,r,a1,a2,cI rfl (cI (aX (aw _)) rfl)⟩
 have key:=lN (step:=Mn CC (n:Int) (u.l.map iV) (u.k:Int) 0 0 (L:Int) (st:Int) [] [] (F.map V.bool)) (fun q x=> ∃N:List (List Nat),N.length=n∧(∀r∈N,r.length=L∧∀y∈r,y<n)∧x=((q:Int),cT N))
  (fun o=> ∃N:List (List Nat),N.length=n∧(∀r∈N,r.length=L∧∀y∈r,y<n)∧o=((n:Int),false,cT N)) n 0 (0,cT N0) (fun q _ hq x hx=> ?_) (fun x hx=> ?_) ⟨N0,hn.symm,Z4,rfl⟩
 ·obtain ⟨o,e,N,a1,a2,rfl⟩:=key;refine ⟨F,N,u,⟨by rw[hF.len,←hn,a1],by rw[a1,hn];exact hF.pos,fun r hr=>by rw[a1];exact a2 r hr⟩,by omega,akN ?_⟩;unfold Z3;refine bs e0 ?_;have hl:((V.nth ((([V.int .i64 (L:Int),.int .i64 (st:Int),u.L,u.K,.list ak (F.map V.bool),.list ag (cT N0)].drop 2).drop 2).drop 1) 0).toList.length:Int)=(n:Int):=by show ((cT N0).length:Int)=_;rw[RD,hn]
  rw[hl];exact bs e rfl
 ·obtain ⟨N,a1,a2,rfl⟩:=hx;have dz:q<n:=by omega
  obtain ⟨r,b1,b2,e⟩:=inner a1 dz a2;have hg:(cT N)[q]? =some (.list ab (nS N[q])):=by simp[cT,a1,dz]
  have RE:=(a2 N[q] (dc (by omega))).1;simp only[Mn,GK,un];have hlen:((V.list ab (nS N[q])).toList.length:Int)=(L:Int):=by rw[V.eH,dC,RE]
  refine ⟨(((q+1:Nat):Int),cT (N.set q r)),bT (bn dz) ((b7 hg).trans (bs (by rw[Int.toNat_natCast];exact rb hg) ?_)),N.set q r,by rw[pF,a1],fun s hs=> ?_,rfl⟩
  ·rw[hlen,Int.toNat_natCast];refine bs e ?_;rw[bq (by omega)];rfl
  ·rcases EL hs with hs|rfl
   ·exact a2 s hs
   ·exact ⟨b1,b2⟩
 ·obtain ⟨N,a1,a2,rfl⟩:=hx;rw[dB] at*
  simp only[Mn,GK,un];exact ⟨_,bF (aX (aw _)) rfl,N,a1,a2,cI rfl (cI (aX (aw _)) rfl)⟩
noncomputable def GM (C:af) (aR n iY iZ bw bE:Int) (aQ aW:LV) (q:Int) (bO:LV) (bP:Int) (aV aF:LV) {β:Type} (kn:(Int×LV×Int×LV×LV)→Option β) (kr:(Int×Bool×LV×Int×LV×LV)→Option β):Option β:=
 bif decide (q<n) then
  (C o9 [V.int .i64 2,.list ab bO,V.int .i64 bP]).bind fun r3=>
  bif Nat.ble ((aV.length+([.bool ((((V.nth r3 0).toInt):Int)==1)]:LV).length)*1) aY then
  bif (decide (0≤aR))&&((decide (aR≤aR))&&(Nat.ble ((aR.toNat)*8) aY)) then
   bif Nat.ble ((aF.length+1)*24) aY then
   kn (wrap .i64 (q+1),(V.nth (r3.drop 1) 0).toList,(V.nth ((r3.drop 1).drop 1) 0).toInt,aV++([.bool ((((V.nth r3 0).toInt):Int)==1)]:LV),aF++([.list ab (List.replicate (aR.toNat) (V.int .i64 0))]:LV))
   else none
  else none
  else none
 else
  kr (q,decide (q<n),bO,bP,aV,aF)
noncomputable def GN (C:af) (aR n iY iZ bw bE:Int) (aQ aW:LV):=un fun q=>un fun bO=>un fun bP=>un fun aV aF=>GM C aR n iY iZ bw bE aQ aW q bO bP aV aF (fun y=>some (Sum.inl y)) (fun r=>some (Sum.inr r))
noncomputable def GO (C:af) (aR n a:Int) (bO:LV) (bP iY iZ bw bE:Int) (aW aV aF aO:LV) (q:Int) (lR:LV) {β:Type} (kn:(Int×LV)→Option β) (kr:(Int×Bool×LV)→Option β):Option β:=
 bif decide (q<n) then
  bif Nat.ble ((lR.length+([V.int .i64 q]:LV).length)*8) aY then
  kn (wrap .i64 (q+1),lR++([V.int .i64 q]:LV))
  else none
 else
  kr (q,decide (q<n),lR)
noncomputable def Ms (C:af) (aR n a:Int) (bO:LV) (bP iY iZ bw bE:Int) (aW aV aF aO:LV):=un fun q lR=>GO C aR n a bO bP iY iZ bw bE aW aV aF aO q lR (fun y=>some (Sum.inl y)) (fun r=>some (Sum.inr r))
noncomputable def GP (C:af) (aR n a iY iZ bw bE:Int) (aW aV aF:LV) (q:Int) (bO:LV) (bP:Int) (lR aO:LV) {β:Type} (kn:(Int×LV×Int×LV×LV)→Option β) (kr:(Int×Bool×LV×Int×LV×LV)→Option β):Option β:=
 bif decide (q<n) then
  (C o9 [V.int .i64 (lR.length:Int),.list ab bO,V.int .i64 bP]).bind fun gH=>
  aM aO q fun Mt=>
  aM lR ((V.nth gH 0).toInt) fun CY=>
  (fm Tryz.prog ag aO [(q.toNat,0)]).bind fun CZ=>
  bif (decide (0≤a))&&(decide (a<(CZ.toList.length:Int))) then
  (fm Tryz.prog ag aO [(q.toNat,0)]).bind fun tx=>
  (tx.toList[a.toNat]?).bind fun C3=>
  bif (decide (0≤((V.nth gH 0).toInt)))&&(decide (((V.nth gH 0).toInt)≤(lR.length:Int))) then
   bif Nat.ble ((([]:LV).length+((lR.drop 0).take ((((V.nth gH 0).toInt:Int).toNat)-0)).length)*8) aY then
   bif (decide (0≤(wrap .i64 (((V.nth gH 0).toInt)+1))))&&(decide ((wrap .i64 (((V.nth gH 0).toInt)+1))≤(lR.length:Int))) then
    bif Nat.ble (((([]:LV)++((lR.drop 0).take ((((V.nth gH 0).toInt:Int).toNat)-0))).length+((lR.drop ((wrap .i64 (((V.nth gH 0).toInt)+1):Int).toNat)).take (lR.length-((wrap .i64 (((V.nth gH 0).toInt)+1):Int).toNat))).length)*8) aY then
    kn (wrap .i64 (q+1),(V.nth (gH.drop 1) 0).toList,(V.nth ((gH.drop 1).drop 1) 0).toInt,(([]:LV)++((lR.drop 0).take ((((V.nth gH 0).toInt:Int).toNat)-0)))++((lR.drop ((wrap .i64 (((V.nth gH 0).toInt)+1):Int).toNat)).take (lR.length-((wrap .i64 (((V.nth gH 0).toInt)+1):Int).toNat))),setRow Tryz.prog (bm tx.toList a (V.int .i64 CY.toInt)) ag aO [(q.toNat,0)])
    else none
   else none
   else none
  else none
  else none
 else
  kr (q,decide (q<n),bO,bP,lR,aO)
noncomputable def GQ (C:af) (aR n a iY iZ bw bE:Int) (aW aV aF:LV):=un fun q=>un fun bO=>un fun bP=>un fun lR aO=>GP C aR n a iY iZ bw bE aW aV aF q bO bP lR aO (fun y=>some (Sum.inl y)) (fun r=>some (Sum.inr r))
noncomputable def GR (C:af) (aR n iY iZ bw bE:Int) (aQ aW aV:LV) (a:Int) (bO:LV) (bP:Int) (aF:LV) {β:Type} (kn:(Int×LV×Int×LV)→Option β) (kr:(Int×Bool×LV×Int×LV)→Option β):Option β:=
 bif decide (a<aR) then
  (Loop (Ms C aR n a bO bP iY iZ bw bE aQ aW aV aF) (0,([]:LV))).bind (un fun akG=>un fun (zQ:Bool) (akQ:LV)=>
   (Loop (GQ C aR n a iY iZ bw bE aQ aW aV) (0,bO,bP,akQ,aF)).bind (un fun aAc=>un fun (L4:Bool)=>un fun (akR:LV)=>un fun akS=>un fun (aAd:LV) (tt:LV)=>
    kn (wrap .i64 (a+1),akR,akS,tt)))
 else
  kr (a,decide (a<aR),bO,bP,aF)
noncomputable def Mu (C:af) (aR n iY iZ bw bE:Int) (aQ aW aV:LV):=un fun a=>un fun bO=>un fun bP aF=>GR C aR n iY iZ bw bE aQ aW aV a bO bP aF (fun y=>some (Sum.inl y)) (fun r=>some (Sum.inr r))
noncomputable def Mv (C:af):cL:=bR 81 RF [EQ,EQ,H1,H1,H1,EQ,EQ,EQ,EQ,EQ,EQ,H1,H1] [[1,2,0,0,0,0,6,7,8,9,10,11,0,0]] (@GM C) (bR 209 RH [EQ,EQ,EQ,H1,EQ,EQ,EQ,EQ,EQ,EQ,H1,EQ,EQ,EQ,EQ] [[1,2,3,0,0,5,6,7,8,9,10,0,12,13,14,15]] (@GO C) (bR 273 RI [EQ,EQ,EQ,H1,H1,H1,EQ,EQ,EQ,EQ,H1,EQ,EQ,EQ,H1] [[1,2,3,0,0,0,0,7,8,9,10,0,12,13,14,0]] (@GP C) (bR 145 RJ [EQ,EQ,H1,H1,H1,EQ,EQ,EQ,EQ,EQ,EQ,EQ,H1] [[1,2,0,0,0,0,6,7,8,9,10,11,12,0]] (@GR C) bH)))
theorem akT (C:af):bA C (Mv C) 12 (Lp [1,1,1,1,0,1,0,0] 12):=bS RF [EQ,EQ,H1,H1,H1,EQ,EQ,EQ,EQ,EQ,EQ,H1,H1] [[1,2,0,0,0,0,6,7,8,9,10,11,0,0]] (@GM C) (bu av)
theorem akU (C:af):bA C (Mv C) 12 (Lp [1,1,1,1,1,0,1,0,0,1,0,0,1,0,1,0,0] 12):=bS RH [EQ,EQ,EQ,H1,EQ,EQ,EQ,EQ,EQ,EQ,H1,EQ,EQ,EQ,EQ] [[1,2,3,0,0,5,6,7,8,9,10,0,12,13,14,15]] (@GO C) (bu av)
theorem akV (C:af):bA C (Mv C) 12 (Lp [1,1,1,1,1,0,1,0,0,1,0,0,1,1,1,0,0] 12):=bS RI [EQ,EQ,EQ,H1,H1,H1,EQ,EQ,EQ,EQ,H1,EQ,EQ,EQ,H1] [[1,2,3,0,0,0,0,7,8,9,10,0,12,13,14,0]] (@GP C) (bu av)
theorem akW (C:af):bA C (Mv C) 12 (Lp [1,1,1,1,1,0,1,0,0] 12):=bS RJ [EQ,EQ,H1,H1,H1,EQ,EQ,EQ,EQ,EQ,EQ,EQ,H1] [[1,2,0,0,0,0,6,7,8,9,10,11,12,0]] (@GR C) (bu (bB (akU C) (bB (akV C) av)))
noncomputable def Z6 (C:af) (aR eb:Int) (bO:LV) (bP:Int):Option LV:=
 (C o9 [V.int .i64 eb,.list ab bO,V.int .i64 bP]).bind fun r1=>
 (C o9 [V.int .i64 (wrap .i64 (1+((V.nth r1 0).toInt))),.list ab ((V.nth (r1.drop 1) 0).toList),V.int .i64 ((V.nth ((r1.drop 1).drop 1) 0).toInt)]).bind fun r2=>
 (Loop (GN C aR (wrap .i64 (1+((V.nth r1 0).toInt))) 0 0 aR ((V.nth r2 0).toInt) ([]:LV) ([]:LV)) (0,(V.nth (r2.drop 1) 0).toList,(V.nth ((r2.drop 1).drop 1) 0).toInt,([]:LV),([]:LV))).bind (un fun q_4=>un fun (mr:Bool)=>un fun (akX:LV)=>un fun Ry=>un fun (C4:LV) (zT:LV)=>
  (Loop (Mu C aR (wrap .i64 (1+((V.nth r1 0).toInt))) 0 0 aR ((V.nth r2 0).toInt) ([]:LV) ([]:LV) C4) (0,akX,Ry,zT)).bind (un fun aAe=>un fun (aAf:Bool)=>un fun (akY:LV)=>un fun (akZ:Int) (Gv:LV)=>
   some [V.int .i64 aR,V.int .i64 ((V.nth r2 0).toInt),.list ab akY,V.int .i64 akZ,.list ak C4,.list ag Gv]))
theorem ak0 {aR eb:Int} {bO:LV} {bP:Int} {r:Option LV} (h:Z6 CC aR eb bO bP=r):CC Mw [V.int .i64 aR,V.int .i64 eb,.list ab bO,V.int .i64 bP]=r:=bI (bB (akT CC) (bB (akW CC) av)) h
theorem ak1 (l:List Nat) (k:Nat):((([]:LV)++((nS l).drop 0).take (k-0))++((nS l).drop (k+1)).take ((nS l).length-(k+1)))=nS (l.take k++l.drop (k+1)):=by
 have h:((nS l).drop (k+1)).take ((nS l).length-(k+1))=(nS l).drop (k+1):=List.take_of_length_le (by rw[BL];exact aw _);rw[xm,Nat.sub_zero,List.nil_append,h];simp[nS,List.map_take,List.map_drop]
theorem ak2 (t:Tp) {L m:Nat} (h1:1≤L) (h6:L≤6) (hm:1≤m) (uu:m≤50): ∃(F:List Bool) (N:List (List Nat)) (st:Nat) (u:Tp),FN L F N∧N.length≤m∧st<N.length∧
  CC Mw [.int .i64 (L:Int),.int .i64 (m:Int),t.L,t.K]=some [.int .i64 (L:Int),.int .i64 (st:Int),u.L,u.K,.list ak (F.map V.bool),.list ag (cT N)]:=by
 obtain ⟨v,t1,hv,e1⟩:=si t (n:=m) hm (by omega);obtain ⟨st,t2,cQ,e2⟩:=si t1 (n:=v+1) (by omega) (by omega);obtain ⟨n,hn⟩: ∃n,n=v+1:=⟨_,rfl⟩
 rw[←hn] at cQ e2;have l1: ∃(F:List Bool) (N:List (List Nat)) (u:Tp),F.length=n∧N.length=n∧(∀r∈N,r.length=L∧∀y∈r,y<n)∧
   Loop (GN CC (L:Int) (n:Int) 0 0 (L:Int) (st:Int) [] []) (0,t2.l.map iV,(t2.k:Int),([]:LV),([]:LV))=some ((n:Int),false,u.l.map iV,(u.k:Int),F.map V.bool,cT N):=by
  have key:=lN (step:=GN CC (L:Int) (n:Int) 0 0 (L:Int) (st:Int) [] []) (fun i x=> ∃(F:List Bool) (N:List (List Nat)) (u:Tp),F.length=i∧N.length=i∧(∀r∈N,r.length=L∧∀y∈r,y<n)∧x=((i:Int),u.l.map iV,(u.k:Int),F.map V.bool,cT N))
   (fun o=> ∃(F:List Bool) (N:List (List Nat)) (u:Tp),F.length=n∧N.length=n∧(∀r∈N,r.length=L∧∀y∈r,y<n)∧o=((n:Int),false,u.l.map iV,(u.k:Int),F.map V.bool,cT N)) n 0 (0,t2.l.map iV,(t2.k:Int),([]:LV),([]:LV)) (fun i _ hi x hx=> ?_) (fun x hx=> ?_) ⟨[],[],t2,rfl,rfl,fun _ h=>(by cases h),rfl⟩
  ·obtain ⟨o,e,F,N,u,a1,a2,a3,rfl⟩:=key;exact ⟨F,N,u,a1,a2,a3,e⟩
  ·obtain ⟨F,N,u,a1,a2,a3,rfl⟩:=hx;obtain ⟨k,u2,hk,e⟩:=si u (n:=2) (by omega) (by omega);simp only[GN,GM,un];refine ⟨(((i+1:Nat):Int),u2.l.map iV,(u2.k:Int),F.map V.bool++[.bool ((k:Int)==1)],cT N++[.list ab (List.replicate L (V.int .i64 0))]),bT (bn (by omega)) (bs e (bT (cap (a:=(F.map V.bool).length) (b:=1) (by rw[dE];omega) (by omega)) (bT (gG (by omega) (by omega)) (bT (cap (a:=(cT N).length) (b:=1) (by rw[RD];omega) (by omega)) ?_)))),F++[(k:Int)==1],N++[List.replicate L 0],u2,by simp;omega,by simp;omega,fun s hs=> ?_,?_⟩
   ·rw[bq (by omega),Int.toNat_natCast];rfl
   ·rcases fj.1 hs with hs|hs
    ·exact a3 s hs
    ·rw[fS.1 hs];exact ⟨by simp,fun y hy=>by rw[(List.mem_replicate.1 hy).2];omega⟩
   ·simp[cT,nS,nV]
  ·obtain ⟨F,N,u,a1,a2,a3,rfl⟩:=hx;rw[dB] at*
   simp only[GN,GM,un];exact ⟨_,bF (aX (aw _)) rfl,F,N,u,a1,a2,a3,cI rfl (cI (aX (aw _)) rfl)⟩
 obtain ⟨F,N0,u0,f1,f2,f3,eL1⟩:=l1;have l2: ∀{x1 x2 x3 x4 x5 x6:Int} {y0 y1 y2 y3 y4:LV},Loop (Ms CC (L:Int) (n:Int) x1 y0 x2 x3 x4 x5 x6 y1 y2 y3 y4) (0,([]:LV))=some ((n:Int),false,nS (List.range n)):=by
  intro x1 x2 x3 x4 x5 x6 y0 y1 y2 y3 y4;refine fI n (fun i=>((i:Int),nS (List.range i))) _ (fun i hi=> ?_) ?_
  ·simp only[Ms,GO,un];refine bT (bn hi) (bT (cap (a:=(nS (List.range i)).length) (b:=1) (by rw[dC,jC];omega) (by omega)) ?_);rw[bq (by omega),BK];simp[nS,nV]
  ·simp only[Ms,GO,un];refine bF (aX (aw _)) ?_;rw[aX (aw _)]
 have l3: ∀{a:Nat} (ha:a<L) {N:List (List Nat)} {w:Tp},N.length=n→(∀r∈N,r.length=L∧∀y∈r,y<n)→∃(N':List (List Nat)) (u:Tp) (l:LV),N'.length=n∧(∀r∈N',r.length=L∧∀y∈r,y<n)∧
   Loop (GQ CC (L:Int) (n:Int) (a:Int) 0 0 (L:Int) (st:Int) [] [] (F.map V.bool)) (0,w.l.map iV,(w.k:Int),nS (List.range n),cT N)=some ((n:Int),false,u.l.map iV,(u.k:Int),l,cT N'):=by
  intro a ha N w hN cW;have key:=lN (step:=GQ CC (L:Int) (n:Int) (a:Int) 0 0 (L:Int) (st:Int) [] [] (F.map V.bool)) (fun q x=> ∃(N':List (List Nat)) (u:Tp) (l:List Nat),N'.length=n∧(∀r∈N',r.length=L∧∀y∈r,y<n)∧l.length=n-q∧(∀y∈l,y<n)∧x=((q:Int),u.l.map iV,(u.k:Int),nS l,cT N'))
   (fun o=> ∃(N':List (List Nat)) (u:Tp) (l:LV),N'.length=n∧(∀r∈N',r.length=L∧∀y∈r,y<n)∧o=((n:Int),false,u.l.map iV,(u.k:Int),l,cT N')) n 0 (0,w.l.map iV,(w.k:Int),nS (List.range n),cT N) (fun q _ hq x hx=> ?_) (fun x hx=> ?_) ⟨N,w,List.range n,hN,cW,by simp,fun y hy=>fK.1 hy,rfl⟩
  ·obtain ⟨o,e,N',u,l,a1,a2,rfl⟩:=key;exact ⟨N',u,l,a1,a2,e⟩
  ·obtain ⟨N',u,l,a1,a2,a3,a4,rfl⟩:=hx;have dz:q<n:=by omega
   obtain ⟨k,u2,hk,e⟩:=si u (n:=l.length) (by omega) (by omega);have hg:(cT N')[q]? =some (.list ab (nS N'[q])):=by simp[cT,a1,dz]
   have hr:=a2 N'[q] (dc (by omega));have zS:=rb hg;have GS:=a4 _ (dc hk);have Z7:a<(N'[q]).length:=by rw[hr.1];exact ha
   have Mr:(V.list ab (nS N'[q])).toList[((a:Int)).toNat]? =some (nV (N'[q])[a]):=by rw[V.eH,Int.toNat_natCast];exact yf Z7
   have hb:(decide (0≤(a:Int))&&decide ((a:Int)<((V.list ab (nS N'[q])).toList.length:Int)))=true:=by rw[V.eH];exact o5 (by rw[dC];exact Z7)
   have hw1:wrap .i64 ((k:Int)+1)=((k+1:Nat):Int):=bq (by omega);have js:setRow Tryz.prog (bm (V.list ab (nS N'[q])).toList (a:Int) (V.int .i64 (nV l[k]).toInt)) ag (cT N') [((q:Int).toNat,0)]=cT (N'.set q ((N'[q]).set a l[k])):=by
    rw[Int.toNat_natCast,GL hg,V.eH];simp[bm,cT,List.map_set,nS,nV]
   simp only[GQ,GP,un];refine ⟨(((q+1:Nat):Int),u2.l.map iV,(u2.k:Int),nS (l.take k++l.drop (k+1)),cT (N'.set q ((N'[q]).set a l[k]))),bT (bn dz) ?_,N'.set q ((N'[q]).set a l[k]),u2,l.take k++l.drop (k+1),by rw[pF,a1],fun s hs=> ?_,by rw[hY,mP,BL];omega,fun y hy=> ?_,rfl⟩
   ·rw[dC];refine bs e ((b7 hg).trans ((b7 (i:=k) (yf hk)).trans (bs (by rw[Int.toNat_natCast];exact zS) (bT hb (bs (by rw[Int.toNat_natCast];exact zS) (bs (a:=nV (N'[q])[a]) Mr ?_))))));have qW:(V.nth [V.int .i64 (k:Int),u2.L,u2.K] 0).toInt=(k:Int):=rfl;simp only[qW,hw1,Int.toNat_natCast];refine bT (kh.2 ⟨ca (by omega),ca (by omega)⟩) (bT (cap (a:=0) (by rw[mP];simp;omega) (by omega)) (bT (kh.2 ⟨ca (by omega),ca (by omega)⟩) (bT (cap (by rw[hY,mP,mP,BL,BL,dC];simp;omega) (by omega)) ?_)));rw[bq (by omega)];have Z8:=js;rw[Int.toNat_natCast] at Z8;refine congrArg (fun z=>some (Sum.inl z)) (cI rfl (cI rfl (cI rfl (cI ?_ Z8))));have:=ak1 l k;rw[dC] at this;exact this
   ·rcases EL hs with hs|rfl
    ·exact a2 s hs
    ·refine ⟨by rw[pF,hr.1],fun y hy=> ?_⟩;rcases EL hy with hy|rfl
     ·exact hr.2 y hy
     ·exact GS
   ·rcases fj.1 hy with hy|hy
    ·exact a4 y (List.mem_of_mem_take hy)
    ·exact a4 y (List.mem_of_mem_drop hy)
  ·obtain ⟨N',u,l,a1,a2,a3,a4,rfl⟩:=hx;rw[dB] at*
   simp only[GQ,GP,un];exact ⟨_,bF (aX (aw _)) rfl,N',u,nS l,a1,a2,cI rfl (cI (aX (aw _)) rfl)⟩
 have key:=lN (step:=Mu CC (L:Int) (n:Int) 0 0 (L:Int) (st:Int) [] [] (F.map V.bool)) (fun a x=> ∃(N':List (List Nat)) (u:Tp),N'.length=n∧(∀r∈N',r.length=L∧∀y∈r,y<n)∧x=((a:Int),u.l.map iV,(u.k:Int),cT N'))
  (fun o=> ∃(N':List (List Nat)) (u:Tp),N'.length=n∧(∀r∈N',r.length=L∧∀y∈r,y<n)∧o=((L:Int),false,u.l.map iV,(u.k:Int),cT N')) L 0 (0,u0.l.map iV,(u0.k:Int),cT N0) (fun a _ ha x hx=> ?_) (fun x hx=> ?_) ⟨N0,u0,f2,f3,rfl⟩
 ·obtain ⟨o,e,N,u,a1,a2,rfl⟩:=key;refine ⟨F,N,st,u,⟨by omega,by omega,fun r hr=>by rw[a1];exact a2 r hr⟩,by omega,by omega,ak0 ?_⟩;unfold Z6;have hw:wrap .i64 (1+(V.nth [V.int .i64 (v:Int),t1.L,t1.K] 0).toInt)=(n:Int):=by
   show wrap .i64 (1+(v:Int))=_;rw[show (1+(v:Int))=(n:Int) by omega];exact wrap64 (by omega) (by omega)
  refine bs e1 ?_;rw[hw];exact bs e2 (bs eL1 (bs e rfl))
 ·obtain ⟨N',u,a1,a2,rfl⟩:=hx;obtain ⟨N2,u2,l,b1,b2,e⟩:=l3 (a:=a) (by omega) (w:=u) a1 a2;simp only[Mu,GR,un];refine ⟨_,bT (bn (by omega)) (bs l2 (bs e rfl)),N2,u2,b1,b2,?_⟩;exact cI (bq (by omega)) rfl
 ·obtain ⟨N',u,a1,a2,rfl⟩:=hx;rw[dB] at*
  simp only[Mu,GR,un];exact ⟨_,bF (aX (aw _)) rfl,N',u,a1,a2,cI rfl (cI (aX (aw _)) rfl)⟩
noncomputable def GU (C:af) (aR:Int) (w:List UInt8) (a:Int) (v:List UInt8) (t23 t24 t51:Int) (bO:LV) (bP lS lT bw bE:Int) (ls rows aV aF aO bj:LV) (to t52:Int) {β:Type} (kn:(Int×Int)→Option β) (kr:(Int×Int×Bool)→Option β):Option β:=
 bif decide (t52<t51) then
  aM ls t52 fun x5=>
  bif x5.toStr==v then
  kn (t52,wrap .i64 (t52+1))
  else
  kn (to,wrap .i64 (t52+1))
 else
  kr (to,t52,decide (t52<t51))
noncomputable def GV (C:af) (aR:Int) (w:List UInt8) (a:Int) (v:List UInt8) (t23 t24 t51:Int) (bO:LV) (bP lS lT bw bE:Int) (ls rows aV aF aO bj:LV):=un fun to t52=>GU C aR w a v t23 t24 t51 bO bP lS lT bw bE ls rows aV aF aO bj to t52 (fun y=>some (Sum.inl y)) (fun r=>some (Sum.inr r))
noncomputable def zU (C:af) (aR:Int) (w:List UInt8) (a t23 t24:Int) (bO:LV) (bP lS lT bw bE:Int) (ls rows aV aF aO bj:LV) (v:List UInt8) (to:Int) {β:Type} (kn:((List UInt8)×Int)→Option β) (kr:((List UInt8)×Int×Bool)→Option β):Option β:=
 bif to==(-1) then
  (Loop (GV C aR w a v t23 t24 (ls.length:Int) bO bP lS lT bw bE ls rows aV aF aO bj) (to,0)).bind (un fun ak3=>un fun (oD:Int) (yg:Bool)=>
   bif decide (1≤(v.length:Int)) then
   kn ((v.drop 1).take (v.length-1),ak3)
   else none)
 else
  kr (v,to,to==(-1))
noncomputable def zV (C:af) (aR:Int) (w:List UInt8) (a t23 t24:Int) (bO:LV) (bP lS lT bw bE:Int) (ls rows aV aF aO bj:LV):=un fun v to=>zU C aR w a t23 t24 bO bP lS lT bw bE ls rows aV aF aO bj v to (fun y=>some (Sum.inl y)) (fun r=>some (Sum.inr r))
noncomputable def GW (C:af) (aR:Int) (w:List UInt8) (t23 t24:Int) (bO:LV) (bP lS lT bw bE:Int) (ls aV aF aO bj:LV) (a:Int) (rows:LV) {β:Type} (kn:(Int×LV)→Option β) (kr:(Int×Bool×LV)→Option β):Option β:=
 bif decide (a<aR) then
  bif Nat.ble (w.length+(lE ([.int .u8 (wrap .u8 (wrap .i64 (97+a)))]:LV)).length) pN then
  (Loop (zV C aR w a t23 t24 bO bP lS lT bw bE ls rows aV aF aO bj) (w++(lE ([.int .u8 (wrap .u8 (wrap .i64 (97+a)))]:LV)),(-1))).bind (un fun (v_9:List UInt8)=>un fun (Z9:Int) (zQ:Bool)=>
   bif Nat.ble ((rows.length+([V.int .i64 Z9]:LV).length)*8) aY then
    kn (wrap .i64 (a+1),rows++([V.int .i64 Z9]:LV))
   else none)
  else none
 else
  kr (a,decide (a<aR),rows)
noncomputable def GX (C:af) (aR:Int) (w:List UInt8) (t23 t24:Int) (bO:LV) (bP lS lT bw bE:Int) (ls aV aF aO bj:LV):=un fun a rows=>GW C aR w t23 t24 bO bP lS lT bw bE ls aV aF aO bj a rows (fun y=>some (Sum.inl y)) (fun r=>some (Sum.inr r))
noncomputable def GY (C:af) (aR t23 lS lT bw bE:Int) (ls aW aV:LV) (t24:Int) (bO:LV) (bP:Int) (aF aO:LV) {β:Type} (kn:(Int×LV×Int×LV×LV)→Option β) (kr:(Int×Bool×LV×Int×LV×LV)→Option β):Option β:=
 bif decide (t24<t23) then
  aM ls t24 fun x3=>
  (C o9 [V.int .i64 2,.list ab bO,V.int .i64 bP]).bind fun r4=>
  bif Nat.ble ((aF.length+([.bool ((((V.nth r4 0).toInt):Int)==1)]:LV).length)*1) aY then
  (Loop (GX C aR x3.toStr t23 t24 ((V.nth (r4.drop 1) 0).toList) ((V.nth ((r4.drop 1).drop 1) 0).toInt) lS lT bw bE ls aW aV (aF++([.bool ((((V.nth r4 0).toInt):Int)==1)]:LV)) aO) (0,([]:LV))).bind (un fun aAg=>un fun (C6:Bool) (ak4:LV)=>
   bif Nat.ble ((aO.length+1)*24) aY then
    kn (wrap .i64 (t24+1),(V.nth (r4.drop 1) 0).toList,(V.nth ((r4.drop 1).drop 1) 0).toInt,aF++([.bool ((((V.nth r4 0).toInt):Int)==1)]:LV),aO++([.list ab ak4]:LV))
   else none)
  else none
 else
  kr (t24,decide (t24<t23),bO,bP,aF,aO)
noncomputable def GZ (C:af) (aR t23 lS lT bw bE:Int) (ls aW aV:LV):=un fun t24=>un fun bO=>un fun bP=>un fun aF aO=>GY C aR t23 lS lT bw bE ls aW aV t24 bO bP aF aO (fun y=>some (Sum.inl y)) (fun r=>some (Sum.inr r))
noncomputable def Mx (C:af):cL:=bR 241 RK [EQ,EQ,EQ,EQ,H1,EQ,EQ,EQ,H1,EQ,EQ,EQ,EQ,EQ,EQ,EQ,EQ,EQ,EQ,EQ,EQ] [[1,2,3,4,0,6,7,8,0,0,10,11,12,13,14,15,16,17,18,19,20,21]] (@GU C) (bR 209 RL [EQ,EQ,EQ,H1,H1,EQ,EQ,EQ,EQ,EQ,EQ,EQ,EQ,EQ,EQ,EQ,EQ,EQ,EQ] [[1,2,3,0,0,6,7,0,8,9,10,11,12,13,14,15,16,17,18,19]] (@zU C) (bR 145 RM [EQ,EQ,H1,EQ,EQ,EQ,EQ,EQ,EQ,EQ,EQ,EQ,H1,EQ,EQ,EQ,EQ] [[1,2,0,4,5,0,6,7,8,9,10,11,12,0,14,15,16,17]] (@GW C) (bR 65 RN [EQ,EQ,H1,H1,H1,EQ,EQ,EQ,EQ,EQ,EQ,EQ,H1,H1] [[1,2,0,0,0,0,6,7,8,9,10,11,12,0,0]] (@GY C) bH)))
theorem ak5 (C:af):bA C (Mx C) 13 (Lp [1,1,1,0,1,0,0,1,1,0,0,1,1,1,0,1,0,0,1,0,0,1,1,0,0,0,1,0,0,1,0,0] 13):=bS RK [EQ,EQ,EQ,EQ,H1,EQ,EQ,EQ,H1,EQ,EQ,EQ,EQ,EQ,EQ,EQ,EQ,EQ,EQ,EQ,EQ] [[1,2,3,4,0,6,7,8,0,0,10,11,12,13,14,15,16,17,18,19,20,21]] (@GU C) (bu av)
theorem ak6 (C:af):bA C (Mx C) 13 (Lp [1,1,1,0,1,0,0,1,1,0,0,1,1,1,0,1,0,0,1,0,0,1,1,0,0,0] 13):=bS RL [EQ,EQ,EQ,H1,H1,EQ,EQ,EQ,EQ,EQ,EQ,EQ,EQ,EQ,EQ,EQ,EQ,EQ,EQ] [[1,2,3,0,0,6,7,0,8,9,10,11,12,13,14,15,16,17,18,19]] (@zU C) (bu (bB (ak5 C) av))
theorem ak7 (C:af):bA C (Mx C) 13 (Lp [1,1,1,0,1,0,0,1,1,0,0,1,1,1,0,1,0,0] 13):=bS RM [EQ,EQ,H1,EQ,EQ,EQ,EQ,EQ,EQ,EQ,EQ,EQ,H1,EQ,EQ,EQ,EQ] [[1,2,0,4,5,0,6,7,8,9,10,11,12,0,14,15,16,17]] (@GW C) (bu (bB (ak6 C) av))
theorem ak8 (C:af):bA C (Mx C) 13 (Lp [1,1,1,0,1,0,0] 13):=bS RN [EQ,EQ,H1,H1,H1,EQ,EQ,EQ,EQ,EQ,EQ,EQ,H1,H1] [[1,2,0,0,0,0,6,7,8,9,10,11,12,0,0]] (@GY C) (bu (bB (ak7 C) av))
noncomputable def aaa (C:af) (aR:Int) (bO:LV) (bP:Int):Option LV:=
 (C o9 [V.int .i64 2,.list ab bO,V.int .i64 bP]).bind fun r1=>
 (C zW [V.int .i64 aR,V.int .i64 (wrap .i64 (1+((V.nth r1 0).toInt)))]).bind fun r2=>
 (Loop (GZ C aR (((V.nth r2 0).toList).length:Int) 0 0 aR 0 ((V.nth r2 0).toList) ([]:LV) ([]:LV)) (0,(V.nth (r1.drop 1) 0).toList,(V.nth ((r1.drop 1).drop 1) 0).toInt,([]:LV),([]:LV))).bind (un fun Mo=>un fun (zX:Bool)=>un fun (ak9:LV)=>un fun ala=>un fun (rf:LV) (ql:LV)=>
  some [V.int .i64 aR,V.int .i64 0,.list ab ak9,V.int .i64 ala,.list ak rf,.list ag ql])
theorem alb {aR:Int} {bO:LV} {bP:Int} {r:Option LV} (h:aaa CC aR bO bP=r):CC My [V.int .i64 aR,.list ab bO,V.int .i64 bP]=r:=bI (bB (ak8 CC) av) h
section
variable {ws:List (List UInt8)} (hw:ws.length≤100)
include hw
theorem aab {L a t23 t24 k x1 x2 x3 x4:Int} {w v:List UInt8} {y0 y1 y2 y3 y4 y5:LV} {to:Int} (wj:to= -1): ∃lU:Int,(lU= -1∧v∉ws∨∃i:Nat,i<ws.length∧lU=(i:Int))∧
  Loop (GV CC L w a v t23 t24 (ws.length:Int) y0 k x1 x2 x3 x4 (ws.map V.str) y1 y2 y3 y4 y5) (to,0)=some (lU,(ws.length:Int),false):=by
 subst wj;have key:=lN (step:=GV CC L w a v t23 t24 (ws.length:Int) y0 k x1 x2 x3 x4 (ws.map V.str) y1 y2 y3 y4 y5) (fun j x=> ∃lU:Int,(lU= -1∧v∉ws.take j∨∃i:Nat,i<ws.length∧lU=(i:Int))∧x=(lU,(j:Int)))
  (fun o=> ∃lU:Int,(lU= -1∧v∉ws∨∃i:Nat,i<ws.length∧lU=(i:Int))∧o=(lU,(ws.length:Int),false)) ws.length 0 ((-1:Int),0) (fun j _ hj x hx=> ?_) (fun x hx=> ?_) ⟨-1,.inl ⟨rfl,by simp⟩,rfl⟩
 ·obtain ⟨o,e,lU,h1,rfl⟩:=key;exact ⟨lU,h1,e⟩
 ·obtain ⟨lU,h1,rfl⟩:=hx;have fY:j<ws.length:=by omega
  have hg:(ws.map V.str)[j]? =some (.str ws[j]):=by simp[fY]
  simp only[GV,GU,un];by_cases c:(ws[j]==v)=true
  ·exact ⟨((j:Int),((j+1:Nat):Int)),bT (bn fY) ((b7 hg).trans (bT c (by rw[bq (by omega)]))),(j:Int),.inr ⟨j,fY,rfl⟩,rfl⟩
  ·have c:(ws[j]==v)=false:=by simpa using c
   refine ⟨(lU,((j+1:Nat):Int)),bT (bn fY) ((b7 hg).trans (bF c (by rw[bq (by omega)]))),lU,?_,rfl⟩;rcases h1 with ⟨h1,h2⟩|h1
   ·refine .inl ⟨h1,fun hm=> ?_⟩;rw[Kb fY] at hm;rcases fj.1 hm with hm|hm
    ·exact h2 hm
    ·rw[fS.1 hm] at c;simp at c
   ·exact .inr h1
 ·obtain ⟨lU,h1,rfl⟩:=hx;rw[dB] at*
  rw[vu] at h1;simp only[GV,GU,un];exact ⟨_,bF (aX (aw _)) rfl,lU,h1,cI rfl (cI rfl (aX (aw _)))⟩
theorem alc {L a t23 t24 k x1 x2 x3 x4:Int} {w:List UInt8} {y0 y1 y2 y3 y4 y5:LV} {b:UInt8} (hb:[b]∈ws): ∀(p:List UInt8),∃(v:List UInt8) (i:Nat),i<ws.length∧
  Loop (zV CC L w a t23 t24 y0 k x1 x2 x3 x4 (ws.map V.str) y1 y2 y3 y4 y5) (p++[b],-1)=some (v,(i:Int),false):=by
 have fin: ∀{v:List UInt8} {i:Nat},Loop (zV CC L w a t23 t24 y0 k x1 x2 x3 x4 (ws.map V.str) y1 y2 y3 y4 y5) (v,(i:Int))=some (v,(i:Int),false):=fun {v i}=>by
  refine kR ?_;simp only[zV,zU,un];have hf:((i:Int)==(-1))=false:=by rw[qH];omega
  exact bF hf (by rw[hf])
 intro p
 induction p with
 | nil=>
  obtain ⟨lU,h1,e⟩:=aab hw (L:=L) (a:=a) (t23:=t23) (t24:=t24) (k:=k) (x1:=x1) (x2:=x2) (x3:=x3) (x4:=x4) (w:=w) (v:=[b]) (y0:=y0) (y1:=y1) (y2:=y2) (y3:=y3) (y4:=y4) (y5:=y5) rfl;rcases h1 with ⟨_,h1⟩|⟨i,hi,rfl⟩
  ·exact absurd hb h1
  ·refine ⟨[],i,hi,(jd (y:=([],(i:Int))) ?_).trans fin⟩;simp only[zV,zU,un];rw[dE];refine bT rfl (bs e ?_);simp only[un];exact bT rfl rfl
 | cons c p ih=>
  obtain ⟨lU,h1,e⟩:=aab hw (L:=L) (a:=a) (t23:=t23) (t24:=t24) (k:=k) (x1:=x1) (x2:=x2) (x3:=x3) (x4:=x4) (w:=w) (v:=c::(p++[b])) (y0:=y0) (y1:=y1) (y2:=y2) (y3:=y3) (y4:=y4) (y5:=y5) rfl;have hlen:decide (1≤(((c::(p++[b])).length:Nat):Int))=true:=ca (by simp;omega);have aac:((c::(p++[b])).drop 1).take ((c::(p++[b])).length-1)=p++[b]:=by
   show (p++[b]).take _=_;exact List.take_of_length_le (by simp)
  rcases h1 with ⟨rfl,_⟩|⟨i,hi,rfl⟩
  ·obtain ⟨v,i,hi,e2⟩:=ih;refine ⟨v,i,hi,(jd ?_).trans e2⟩;simp only[zV,zU,un,List.cons_append];rw[dE];refine bT rfl (bs e (bT hlen ?_));rw[aac]
  ·refine ⟨p++[b],i,hi,(jd ?_).trans fin⟩;simp only[zV,zU,un,List.cons_append];rw[dE];refine bT rfl (bs e (bT hlen ?_));rw[aac]
end
theorem ald {ws:List (List UInt8)} (hw:ws.length≤100) (hwl: ∀w∈ws,w.length≤100) {L:Nat} (hL:L≤2) (ale: ∀a,a<L→[UInt8.ofNat (97+a)]∈ws) (t:Tp): ∃(F:List Bool) (N:List (List Nat)) (u:Tp),F.length=ws.length∧N.length=ws.length∧(∀r∈N,r.length=L∧∀y∈r,y<ws.length)∧
  Loop (GZ CC (L:Int) (ws.length:Int) 0 0 (L:Int) 0 (ws.map V.str) [] []) (0,t.l.map iV,(t.k:Int),([]:LV),([]:LV))=some ((ws.length:Int),false,u.l.map iV,(u.k:Int),F.map V.bool,cT N):=by
 have alf: ∀a:Nat,a<L→lE ([.int .u8 (wrap .u8 (wrap .i64 (97+(a:Int))))]:LV)=[UInt8.ofNat (97+a)]:=fun a ha=>by
  rcases (by omega:a=0∨a=1) with rfl|rfl<;>rfl
 have row: ∀{w:List UInt8} (hwi:w.length≤100) {x1 x2 x3 x4 x5 x6 x7:Int} {y0 y1 y2 y3 y4:LV},∃r:List Nat,r.length=L∧(∀y∈r,y<ws.length)∧
   Loop (GX CC (L:Int) w x1 x2 y0 x3 x4 x5 x6 x7 (ws.map V.str) y1 y2 y3 y4) (0,([]:LV))=some ((L:Int),false,nS r):=by
  intro w hwi x1 x2 x3 x4 x5 x6 x7 y0 y1 y2 y3 y4;have key:=lN (step:=GX CC (L:Int) w x1 x2 y0 x3 x4 x5 x6 x7 (ws.map V.str) y1 y2 y3 y4) (fun a x=> ∃r:List Nat,r.length=a∧(∀y∈r,y<ws.length)∧x=((a:Int),nS r))
   (fun o=> ∃r:List Nat,r.length=L∧(∀y∈r,y<ws.length)∧o=((L:Int),false,nS r)) L 0 (0,nS []) (fun a _ ha x hx=> ?_) (fun x hx=> ?_) ⟨[],rfl,fun _ h=>(by cases h),rfl⟩
  ·obtain ⟨o,e,r,a1,a2,rfl⟩:=key;exact ⟨r,a1,a2,e⟩
  ·obtain ⟨r,a1,a2,rfl⟩:=hx;have RO:a<L:=by omega
   obtain ⟨v,i,hi,e⟩:=alc hw (ale a RO) (L:=(L:Int)) (a:=(a:Int)) (t23:=x1) (t24:=x2) (k:=x3) (x1:=x4) (x2:=x5) (x3:=x6) (x4:=x7) (w:=w) (y0:=y0) (y1:=nS r) (y2:=y1) (y3:=y2) (y4:=y3) (y5:=y4) w;simp only[GX,GW,un];rw[alf a RO];refine ⟨(((a+1:Nat):Int),nS (r++[i])),bT (bn RO) (bT (yZ (by unfold pN;simp;omega)) (bs e ?_)),r++[i],by simp;omega,fun y hy=> ?_,rfl⟩
   ·simp only[un];refine bT (cap (a:=(nS r).length) (b:=1) (by rw[dC];omega) (by omega)) ?_;rw[bq (by omega)];simp[nS,nV]
   ·rcases fj.1 hy with hy|hy
    ·exact a2 y hy
    ·rw[fS.1 hy];exact hi
  ·obtain ⟨r,a1,a2,rfl⟩:=hx;rw[dB] at*
   simp only[GX,GW,un];exact ⟨_,bF (aX (aw _)) rfl,r,a1,a2,cI rfl (cI (aX (aw _)) rfl)⟩
 have key:=lN (step:=GZ CC (L:Int) (ws.length:Int) 0 0 (L:Int) 0 (ws.map V.str) [] []) (fun i x=> ∃(F:List Bool) (N:List (List Nat)) (u:Tp),F.length=i∧N.length=i∧(∀r∈N,r.length=L∧∀y∈r,y<ws.length)∧x=((i:Int),u.l.map iV,(u.k:Int),F.map V.bool,cT N))
  (fun o=> ∃(F:List Bool) (N:List (List Nat)) (u:Tp),F.length=ws.length∧N.length=ws.length∧(∀r∈N,r.length=L∧∀y∈r,y<ws.length)∧o=((ws.length:Int),false,u.l.map iV,(u.k:Int),F.map V.bool,cT N)) ws.length 0 (0,t.l.map iV,(t.k:Int),([]:LV),([]:LV)) (fun i _ hi x hx=> ?_) (fun x hx=> ?_) ⟨[],[],t,rfl,rfl,fun _ h=>(by cases h),rfl⟩
 ·obtain ⟨o,e,F,N,u,a1,a2,a3,rfl⟩:=key;exact ⟨F,N,u,a1,a2,a3,e⟩
 ·obtain ⟨F,N,u,a1,a2,a3,rfl⟩:=hx;have bU:i<ws.length:=by omega
  obtain ⟨k,u2,hk,e⟩:=si u (n:=2) (by omega) (by omega);have hg:(ws.map V.str)[i]? =some (.str ws[i]):=by simp[bU]
  obtain ⟨r,b1,b2,er⟩:=row (hwl _ (dc bU)) (x1:=(ws.length:Int)) (x2:=(i:Int)) (x3:=(u2.k:Int)) (x4:=0) (x5:=0) (x6:=(L:Int)) (x7:=0) (y0:=u2.l.map iV) (y1:=[]) (y2:=[]) (y3:=F.map V.bool++[.bool ((k:Int)==1)]) (y4:=cT N);simp only[GZ,GY,un];refine ⟨(((i+1:Nat):Int),u2.l.map iV,(u2.k:Int),F.map V.bool++[.bool ((k:Int)==1)],cT N++[.list ab (nS r)]),bT (bn bU) ((b7 hg).trans (bs e (bT (cap (a:=(F.map V.bool).length) (b:=1) (by rw[dE];omega) (by omega)) (bs er ?_)))),F++[(k:Int)==1],N++[r],u2,by simp;omega,by simp;omega,fun s hs=> ?_,?_⟩
  ·simp only[un];refine bT (cap (a:=(cT N).length) (b:=1) (by rw[RD];omega) (by omega)) ?_;rw[bq (by omega)];rfl
  ·rcases fj.1 hs with hs|hs
   ·exact a3 s hs
   ·rw[fS.1 hs];exact ⟨b1,b2⟩
  ·simp[cT]
 ·obtain ⟨F,N,u,a1,a2,a3,rfl⟩:=hx;rw[dB] at*
  simp only[GZ,GY,un];exact ⟨_,bF (aX (aw _)) rfl,F,N,u,a1,a2,a3,cI rfl (cI (aX (aw _)) rfl)⟩
noncomputable def C7 (C:af) (aR eb:Int) (bO:LV) (bP:Int):Option LV:=
 (C o9 [V.int .i64 6,.list ab bO,V.int .i64 bP]).bind fun r1=>
 bif (((V.nth r1 0).toInt):Int)==1 then
  (C Mp [V.int .i64 aR,V.int .i64 eb,.list ab ((V.nth (r1.drop 1) 0).toList),V.int .i64 ((V.nth ((r1.drop 1).drop 1) 0).toInt)]).bind fun r2=>
  some [V.int .i64 ((V.nth r2 0).toInt),V.int .i64 ((V.nth (r2.drop 1) 0).toInt),.list ab ((V.nth (r2.drop 2) 0).toList),V.int .i64 ((V.nth ((r2.drop 2).drop 1) 0).toInt),.list ak ((V.nth ((r2.drop 2).drop 2) 0).toList),.list ag ((V.nth (((r2.drop 2).drop 2).drop 1) 0).toList)]
 else
  bif (((V.nth r1 0).toInt):Int)==2 then
  (C Mw [V.int .i64 aR,V.int .i64 (if 4<eb then 4 else eb),.list ab ((V.nth (r1.drop 1) 0).toList),V.int .i64 ((V.nth ((r1.drop 1).drop 1) 0).toInt)]).bind fun r3=>
  some [V.int .i64 ((V.nth r3 0).toInt),V.int .i64 ((V.nth (r3.drop 1) 0).toInt),.list ab ((V.nth (r3.drop 2) 0).toList),V.int .i64 ((V.nth ((r3.drop 2).drop 1) 0).toInt),.list ak ((V.nth ((r3.drop 2).drop 2) 0).toList),.list ag ((V.nth (((r3.drop 2).drop 2).drop 1) 0).toList)]
  else
  bif (((V.nth r1 0).toInt):Int)==3 then
   (C My [V.int .i64 aR,.list ab ((V.nth (r1.drop 1) 0).toList),V.int .i64 ((V.nth ((r1.drop 1).drop 1) 0).toInt)]).bind fun r4=>
   some [V.int .i64 ((V.nth r4 0).toInt),V.int .i64 ((V.nth (r4.drop 1) 0).toInt),.list ab ((V.nth (r4.drop 2) 0).toList),V.int .i64 ((V.nth ((r4.drop 2).drop 1) 0).toInt),.list ak ((V.nth ((r4.drop 2).drop 2) 0).toList),.list ag ((V.nth (((r4.drop 2).drop 2).drop 1) 0).toList)]
  else
   (C GH [V.int .i64 aR,V.int .i64 eb,.list ab ((V.nth (r1.drop 1) 0).toList),V.int .i64 ((V.nth ((r1.drop 1).drop 1) 0).toInt)]).bind fun r5=>
   some [V.int .i64 ((V.nth r5 0).toInt),V.int .i64 ((V.nth (r5.drop 1) 0).toInt),.list ab ((V.nth (r5.drop 2) 0).toList),V.int .i64 ((V.nth ((r5.drop 2).drop 1) 0).toInt),.list ak ((V.nth ((r5.drop 2).drop 2) 0).toList),.list ag ((V.nth (((r5.drop 2).drop 2).drop 1) 0).toList)]
theorem alg {aR eb:Int} {bO:LV} {bP:Int} {r:Option LV} (h:C7 CC aR eb bO bP=r):CC yh [V.int .i64 aR,V.int .i64 eb,.list ab bO,V.int .i64 bP]=r:=bI (L:=bH) av h
noncomputable def aad (C:af) (bO:LV) (bP:Int):Option LV:=
 (C o9 [V.int .i64 8,.list ab bO,V.int .i64 bP]).bind fun r1=>
 some [V.int .i64 (wrap .i64 (2-(wrap .i64 (Int.tdiv ((V.nth r1 0).toInt) 7)))),.list ab ((V.nth (r1.drop 1) 0).toList),V.int .i64 ((V.nth ((r1.drop 1).drop 1) 0).toInt)]
theorem alh {bO:LV} {bP:Int} {r:Option LV} (h:aad CC bO bP=r):CC Mz [.list ab bO,V.int .i64 bP]=r:=bI (L:=bH) av h
def C8 (L k:Nat):List (List UInt8):=
 if L=1 then (if k=1 then [[],[97]] else [[],[97],[97,97]])
 else (if k=1 then [[],[97],[98]] else [[],[97],[98],[97,97],[97,98],[98,97],[98,98]])
theorem ali:CC zW [.int .i64 1,.int .i64 1]=some [.list cv [.str [],.str [97]]]:=aG (N:=60) (n:=30) (by kernel_rfl)
theorem alj:CC zW [.int .i64 1,.int .i64 2]=some [.list cv [.str [],.str [97],.str [97,97]]]:=aG (N:=60) (n:=30) (by kernel_rfl)
theorem alk:CC zW [.int .i64 2,.int .i64 1]=some [.list cv [.str [],.str [97],.str [98]]]:=aG (N:=60) (n:=30) (by kernel_rfl)
theorem alm:CC zW [.int .i64 2,.int .i64 2]=some [.list cv [.str [],.str [97],.str [98],.str [97,97],.str [97,98],.str [98,97],.str [98,98]]]:=aG (N:=60) (n:=30) (by kernel_rfl)
theorem aln {L k:Nat} (h1:1≤L) (h2:L≤2) (k1:1≤k) (k2:k≤2):CC zW [.int .i64 (L:Int),.int .i64 (k:Int)]=some [.list cv ((C8 L k).map V.str)]:=by
 rcases (by omega:L=1∨L=2) with rfl|rfl<;>rcases (by omega:k=1∨k=2) with rfl|rfl
 ·exact ali
 ·exact alj
 ·exact alk
 ·exact alm
theorem alo {L k:Nat} (h1:1≤L) (h2:L≤2) (k1:1≤k) (k2:k≤2):1≤(C8 L k).length∧(C8 L k).length≤7∧(∀w∈C8 L k,w.length≤100)∧∀a,a<L→[UInt8.ofNat (97+a)]∈C8 L k:=by
 rcases (by omega:L=1∨L=2) with rfl|rfl<;>rcases (by omega:k=1∨k=2) with rfl|rfl<;>decide
theorem alp (t:Tp) {L:Nat} (h1:1≤L) (h2:L≤2): ∃(F:List Bool) (N:List (List Nat)) (u:Tp),FN L F N∧N.length≤7∧
  CC My [.int .i64 (L:Int),t.L,t.K]=some [.int .i64 (L:Int),.int .i64 0,u.L,u.K,.list ak (F.map V.bool),.list ag (cT N)]:=by
 obtain ⟨v,t1,hv,e1⟩:=si t (n:=2) (by omega) (by omega);obtain ⟨w1,w2,w3,w4⟩:=alo (L:=L) (k:=v+1) h1 h2 (by omega) (by omega);have hW:=aln (L:=L) (k:=v+1) h1 h2 (by omega) (by omega);generalize C8 L (v+1)=ws at*
 obtain ⟨F,N,u,a1,a2,a3,e⟩:=ald (ws:=ws) (by omega) w3 h2 w4 t1;refine ⟨F,N,u,⟨by omega,by omega,fun r hr=>by rw[a2];exact a3 r hr⟩,by omega,alb ?_⟩;unfold aaa;have hw:wrap .i64 (1+(V.nth [V.int .i64 (v:Int),t1.L,t1.K] 0).toInt)=((v+1:Nat):Int):=by
  show wrap .i64 (1+(v:Int))=_;rw[show (1+(v:Int))=((v+1:Nat):Int) by omega];exact wrap64 (by omega) (by omega)
 refine bs e1 ?_;rw[hw];refine bs hW ?_;have hl:((V.nth [V.list cv (ws.map V.str)] 0).toList.length:Int)=(ws.length:Int):=by show ((ws.map V.str).length:Int)=_;rw[dE]
 rw[hl];exact bs e rfl
theorem alq (t:Tp) {L m:Nat} (h1:1≤L) (h2:L≤2) (hm:1≤m) (uu:m≤4): ∃(F:List Bool) (N:List (List Nat)) (st:Nat) (u:Tp),FN L F N∧N.length≤7∧st<N.length∧
  CC yh [.int .i64 (L:Int),.int .i64 (m:Int),t.L,t.K]=some [.int .i64 (L:Int),.int .i64 (st:Int),u.L,u.K,.list ak (F.map V.bool),.list ag (cT N)]:=by
 obtain ⟨v,t1,hv,e1⟩:=si t (n:=6) (by omega) (by omega);have A: ∀z,C7 CC (L:Int) (m:Int) (t.l.map iV) (t.k:Int)=z→CC yh [.int .i64 (L:Int),.int .i64 (m:Int),t.L,t.K]=z:=fun z h=>alg h;have C9: ∀k:Nat,v≠k→((V.nth [V.int .i64 (v:Int),t1.L,t1.K] 0).toInt==(k:Int))=false:=fun k hk=>by
  show ((v:Int)==(k:Int))=false;rw[qH];omega
 by_cases c1:v=1
 ·subst c1;obtain ⟨F,N,u,a1,a2,e⟩:=akP t1 h1 (L:=L) (m:=m) (by omega) hm (by omega);refine ⟨F,N,0,u,a1,by omega,a1.pos,A _ ?_⟩;unfold C7;exact bs e1 (bT rfl (bs e rfl))
 by_cases c2:v=2
 ·subst c2;obtain ⟨F,N,st,u,a1,a2,a3,e⟩:=ak2 t1 h1 (L:=L) (m:=m) (by omega) hm (by omega);refine ⟨F,N,st,u,a1,by omega,a3,A _ ?_⟩;unfold C7;have MA:(if (4:Int)<(m:Int) then (4:Int) else (m:Int))=(m:Int):=ax (by omega);refine bs e1 (bF (C9 1 (by omega)) (bT rfl ?_));rw[MA];exact bs e rfl
 by_cases c3:v=3
 ·subst c3;obtain ⟨F,N,u,a1,a2,e⟩:=alp t1 h1 h2;refine ⟨F,N,0,u,a1,a2,a1.pos,A _ ?_⟩;unfold C7;exact bs e1 (bF (C9 1 (by omega)) (bF (C9 2 (by omega)) (bT rfl (bs e rfl))))
 ·obtain ⟨F,N,st,u,a1,a2,a3,e⟩:=Z1 t1 h1 (L:=L) (m:=m) (by omega) hm (by omega);refine ⟨F,N,st,u,a1,by omega,a3,A _ ?_⟩;unfold C7;exact bs e1 (bF (C9 1 c1) (bF (C9 2 c2) (bF (C9 3 c3) (bs e rfl))))
theorem alr (t:Tp): ∃(L:Nat) (u:Tp),1≤L∧L≤2∧CC Mz [t.L,t.K]=some [.int .i64 (L:Int),u.L,u.K]:=by
 obtain ⟨v,t1,hv,e1⟩:=si t (n:=8) (by omega) (by omega);have key: ∀v:Nat,v<8→∃L:Nat,1≤L∧L≤2∧wrap .i64 (2-(wrap .i64 (Int.tdiv ((v:Nat):Int) 7)))=(L:Int):=fun v hv=>by
  rcases (by omega:v=0∨v=1∨v=2∨v=3∨v=4∨v=5∨v=6∨v=7) with rfl|rfl|rfl|rfl|rfl|rfl|rfl|rfl
  all_goals first|exact ⟨2,by omega,by omega,by decide⟩|exact ⟨1,by omega,by omega,by decide⟩
 obtain ⟨L,h1,h2,hL⟩:=key v hv;refine ⟨L,t1,h1,h2,alh ?_⟩;unfold aad;refine bs e1 ?_;show some [V.int .i64 (wrap .i64 (2-(wrap .i64 (Int.tdiv ((v:Nat):Int) 7)))),_,_]=_;rw[hL];rfl
noncomputable def G0 (C:af) (a b' c d:LV) (t84 t85:Int) {β:Type} (kn:Int→Option β) (kr:((Bool) ⊕ (Int×Bool))→Option β):Option β:=
 bif decide (t85<t84) then
  (idx a t85).bind fun CY=>
  bif (CY.toInt:Int)==1 then
  (idx b' t85).bind fun CZ=>
  bif (CZ.toInt:Int)==1 then
   (idx c t85).bind fun tx=>
   bif (tx.toInt:Int)==0 then
   kr (.inl false)
   else
   (idx d t85).bind fun C3=>
   bif (C3.toInt:Int)==0 then
    kr (.inl false)
   else
    kn (wrap .i64 (t85+1))
  else
   kn (wrap .i64 (t85+1))
  else
  kn (wrap .i64 (t85+1))
 else
  kr (.inr (t85,decide (t85<t84)))
noncomputable def MB (C:af) (a b' c d:LV) (t84:Int):=fun t85=>G0 C a b' c d t84 t85 (fun y=>some (Sum.inl y)) (fun r=>some (Sum.inr r))
noncomputable def als (C:af):cL:=bR 241 RP [EQ,EQ,EQ,EQ,EQ,H1] [[0],[1,2,3,4,5,0,0]] (@G0 C) bH
theorem alu (C:af):bA C (als C) 3 (Lp [1,1,1,1,1,1,1,1,1,1,1,1,0,1,0,0] 3):=bS RP [EQ,EQ,EQ,EQ,EQ,H1] [[0],[1,2,3,4,5,0,0]] (@G0 C) (bu av)
noncomputable def aae (C:af) (l:LV):Option LV:=
 (C Mj [.list ab l]).bind fun r1=>
 (C Mz [.list ab ((V.nth r1 0).toList),V.int .i64 ((V.nth (r1.drop 1) 0).toInt)]).bind fun r2=>
 (C yh [V.int .i64 ((V.nth r2 0).toInt),V.int .i64 2,.list ab ((V.nth (r2.drop 1) 0).toList),V.int .i64 ((V.nth ((r2.drop 1).drop 1) 0).toInt)]).bind fun r3=>
 (C yh [V.int .i64 ((V.nth r2 0).toInt),V.int .i64 2,.list ab ((V.nth (r3.drop 2) 0).toList),V.int .i64 ((V.nth ((r3.drop 2).drop 1) 0).toInt)]).bind fun r4=>
 (C GC [V.int .i64 ((V.nth r3 0).toInt),V.int .i64 ((V.nth (r3.drop 1) 0).toInt),.list ak ((V.nth ((r3.drop 2).drop 2) 0).toList),.list ag ((V.nth (((r3.drop 2).drop 2).drop 1) 0).toList),V.int .i64 ((V.nth r4 0).toInt),V.int .i64 ((V.nth (r4.drop 1) 0).toInt),.list ak ((V.nth ((r4.drop 2).drop 2) 0).toList),.list ag ((V.nth (((r4.drop 2).drop 2).drop 1) 0).toList),V.int .i64 14]).bind fun r5=>
 (C GC [V.int .i64 ((V.nth r3 0).toInt),V.int .i64 ((V.nth (r3.drop 1) 0).toInt),.list ak ((V.nth ((r3.drop 2).drop 2) 0).toList),.list ag ((V.nth (((r3.drop 2).drop 2).drop 1) 0).toList),V.int .i64 ((V.nth r4 0).toInt),V.int .i64 ((V.nth (r4.drop 1) 0).toInt),.list ak ((V.nth ((r4.drop 2).drop 2) 0).toList),.list ag ((V.nth (((r4.drop 2).drop 2).drop 1) 0).toList),V.int .i64 8]).bind fun r6=>
 bif (((V.nth (r5.drop 2) 0).toInt):Int) != 0 then
  some [.bool false]
 else
  bif (((V.nth (r6.drop 2) 0).toInt):Int) != 0 then
  some [.bool false]
  else
  (C qT [V.int .i64 ((V.nth r3 0).toInt),V.int .i64 ((V.nth (r3.drop 1) 0).toInt),.list ak ((V.nth ((r3.drop 2).drop 2) 0).toList),.list ag ((V.nth (((r3.drop 2).drop 2).drop 1) 0).toList)]).bind fun r7=>
  (C qT [V.int .i64 ((V.nth r4 0).toInt),V.int .i64 ((V.nth (r4.drop 1) 0).toInt),.list ak ((V.nth ((r4.drop 2).drop 2) 0).toList),.list ag ((V.nth (((r4.drop 2).drop 2).drop 1) 0).toList)]).bind fun r8=>
  (C qT [V.int .i64 ((V.nth r5 0).toInt),V.int .i64 ((V.nth (r5.drop 1) 0).toInt),.list ak ((V.nth (r5.drop 3) 0).toList),.list ag ((V.nth ((r5.drop 3).drop 1) 0).toList)]).bind fun r9=>
  (C qT [V.int .i64 ((V.nth r6 0).toInt),V.int .i64 ((V.nth (r6.drop 1) 0).toInt),.list ak ((V.nth (r6.drop 3) 0).toList),.list ag ((V.nth ((r6.drop 3).drop 1) 0).toList)]).bind fun e7=>
  bif !((V.nth (r7.drop 1) 0).toBool) then
   (C yi []).bind fun cC=>
   some [.bool ((V.nth cC 0).toBool)]
  else
   bif !((V.nth (r8.drop 1) 0).toBool) then
   (C yi []).bind fun uG=>
   some [.bool ((V.nth uG 0).toBool)]
   else
   bif !((V.nth (r9.drop 1) 0).toBool) then
    (C yi []).bind fun gH=>
    some [.bool ((V.nth gH 0).toBool)]
   else
    bif !((V.nth (e7.drop 1) 0).toBool) then
    (C yi []).bind fun r14=>
    some [.bool ((V.nth r14 0).toBool)]
    else
    (Loop (MB C ((V.nth r7 0).toList) ((V.nth r8 0).toList) ((V.nth r9 0).toList) ((V.nth e7 0).toList) (((V.nth r7 0).toList).length:Int)) 0).bind (fX (fun (G1:Bool)=>
     some [.bool G1]) (un fun (L4:Int) (aaf:Bool)=>
     (C yi []).bind fun r22=>
     some [.bool ((V.nth r22 0).toBool)]))
theorem alv {l:LV} {r:Option LV} (h:aae CC l=r):CC RQ [.list ab l]=r:=bI (bB (alu CC) av) h
theorem aag (t:Tp) {L m:Nat} (h1:1≤L) (h2:L≤2) (hm:1≤m) (uu:m≤4): ∃(a:Da) (u:Tp),a.Ok∧a.L=L∧a.n≤7∧
  CC yh [.int .i64 (L:Int),.int .i64 (m:Int),t.L,t.K]=some [.int .i64 (L:Int),.int .i64 (a.st:Int),u.L,u.K,.list ak a.cG,.list ag a.cN]:=by
 obtain ⟨F,N,st,u,hF,hN,hs,e2⟩:=alq t h1 h2 hm uu;have aq:=hF.ok h1 (by omega) hs (by omega);refine ⟨⟨L,st,F,N⟩,u,aq,rfl,by show F.length≤7;rw[hF.len];exact hN,?_⟩;rw[e2];have:=FN.leaves aq;unfold eh iW at this;injection this with _ this;injection this with _ this;injection this with h3 this;injection this with h4 _;rw[h3,h4]
theorem alw {L:Nat} {P Q R T:List Nat→Bool} {a b c d:LV} (ha:CP L P a) (hb:CP L Q b) (hc:CP L R c) (hd:CP L T d) (h1: ∀k,lf L P k→lf L Q k→lf L R k) (h2: ∀k,lf L P k→lf L Q k→lf L T k):Loop (MB CC a b c d 16) 0=some (.inr (16,false)):=by
 refine fI 16 (fun i=>(i:Int)) _ (fun i hi=> ?_) ?_
 ·obtain ⟨n,e1,k1,_⟩:=ha.2 i hi;obtain ⟨n2,e2,k2,_⟩:=hb.2 i hi;obtain ⟨n3,e3,_,k3⟩:=hc.2 i hi;obtain ⟨n4,e4,_,k4⟩:=hd.2 i hi;have g: ∀{l:LV} {v:V},l[i]? =some v→idx l (i:Int)=some v:=fun h=>by rw[Db rfl];exact h
  simp only[MB,G0];refine bT (ca (by omega)) (bs (g e1) ?_);by_cases c1:n=1
  ·refine bT (by show (n==1)=true;rw[c1];rfl) (bs (g e2) ?_);by_cases c2:n2=1
   ·have f3:(n3==0)=false:=by rw[qH];exact fun e=>k3 e (h1 i (k1 c1) (k2 c2))
    have f4:(n4==0)=false:=by rw[qH];exact fun e=>k4 e (h2 i (k1 c1) (k2 c2))
    refine bT (by show (n2==1)=true;rw[c2];rfl) (bs (g e3) (bF f3 (bs (g e4) (bF f4 ?_))));rw[bq (by omega)]
   ·refine bF (by show (n2==1)=false;rw[qH];exact c2) ?_;rw[bq (by omega)]
  ·refine bF (by show (n==1)=false;rw[qH];exact c1) ?_;rw[bq (by omega)]
 ·simp only[MB,G0];exact bF rfl rfl
theorem alx {a b:Da} (ha:a.Ok) (hb:b.Ok) (hL:a.L=b.L) {m:Nat} (h1:a.n≤m) (h2:b.n≤m) (hm:m*m≤512): ¬tu (minD a) (minD b):=by
 have h:=Me (jN ha) (jN hb) (zP ha hb hL) ((minD a).n*(minD b).n);have h3:(minD a).n*(minD b).n≤m*m:=Nat.mul_le_mul (mM (Zq ha) h1) (mM (Zq hb) h2);unfold tu;unfold mF at*
 omega
theorem ahJ (l:List Int):CC RQ [.list ab (l.map iV)]=some [.bool true]:=by
 obtain ⟨t,e0⟩:=akB l;obtain ⟨L,t1,h1,h2,e1⟩:=alr t;obtain ⟨x,t2,hx,LL,G2,e2⟩:=aag t1 (m:=2) h1 h2 (by omega) (by omega);obtain ⟨y,t3,hy,RR,hyn,e3⟩:=aag t2 (m:=2) h1 h2 (by omega) (by omega);subst LL;have hL:x.L=y.L:=RR.symm;have ho:=alx hx hy hL (m:=7) G2 hyn (by omega);have eo:=ZQ hx hy hL (op:=14) (by omega) ho;have ea:=ZQ hx hy hL (op:=8) (by omega) ho;have ko:=ZR hx hy hL (op:=14) ho;have ka:=ZR hx hy hL (op:=8) ho;have v0:=LQ hx;have v1:=LQ hy;have v2:=LQ ko;have v3:=LQ ka;rw[RR] at v1;rw[aky hx hy hL ho] at v2 v3;have hO: ∀k,lf x.L (x.acc x.st) k→lf x.L (y.acc y.st) k→lf x.L ((uE x y 14).acc (uE x y 14).st) k:=fun k p q=>p.bool q (f:=CT 14) fun w hw=>ZS hx hy hL ho hw;have hA: ∀k,lf x.L (x.acc x.st) k→lf x.L (y.acc y.st) k→lf x.L ((uE x y 8).acc (uE x y 8).st) k:=fun k p q=>p.bool q (f:=CT 8) fun w hw=>ZS hx hy hL ho hw;have e3':CC yh [.int .i64 (x.L:Int),.int .i64 2,t2.L,t2.K]=some [.int .i64 (y.L:Int),.int .i64 (y.st:Int),t3.L,t3.K,.list ak y.cG,.list ag y.cN]:=by rw[RR];exact e3
 refine alv ?_;unfold aae;refine bs e0 (bs e1 (bs e2 (bs e3' (bs eo (bs ea (bF rfl (bF rfl ?_)))))));rcases v0 with p0|⟨l0,p0,q0⟩<;>rcases v1 with p1|⟨l1,p1,q1⟩<;>rcases v2 with p2|⟨l2,p2,q2⟩<;>rcases v3 with p3|⟨l3,p3,q3⟩
 all_goals refine bs p0 (bs p1 (bs p2 (bs p3 ?_)))
 case inr.inr.inr.inr=>
  refine bF rfl (bF rfl (bF rfl (bF rfl ?_)));have hl:(((V.nth [V.list ab l0,V.bool true] 0).toList.length:Nat):Int)=16:=by show (l0.length:Int)=16;rw[q0.1];rfl
  rw[hl];exact bs (alw q0 q1 q2 q3 hO hA) (bs G3 rfl)
 all_goals first|exact bT rfl (bs G3 rfl)|exact bF rfl (bT rfl (bs G3 rfl))|exact bF rfl (bF rfl (bT rfl (bs G3 rfl)))|exact bF rfl (bF rfl (bF rfl (bT rfl (bs G3 rfl))))
end Go.AM
set_option maxRecDepth 100000
namespace Go.AM
open Go.IntKind (wrap)
theorem WT.aly {P:Program} {t:TypeId} {x:V} (hu:P.underlying t=some (.int .i64)) (h:WT P t x): ∃n:Int,x= .int .i64 n∧ -9223372036854775808≤n∧n≤9223372036854775807:=by
 obtain ⟨n,rfl,h1,h2⟩:=h.fW hu;have e1:IntKind.min .i64= -9223372036854775808:=by decide
 have e2:IntKind.max .i64=9223372036854775807:=by decide
 rw[e1] at h1;rw[e2] at h2;exact ⟨n,rfl,h1,h2⟩
theorem WT.RS {P:Program} {t:TypeId} {x:V} (hu:P.underlying t=some (.int .u8)) (h:WT P t x): ∃n:Int,x= .int .u8 n∧0≤n∧n≤255:=by
 obtain ⟨n,rfl,h1,h2⟩:=h.fW hu;have e1:IntKind.min .u8=0:=by decide
 have e2:IntKind.max .u8=255:=by decide
 rw[e1] at h1;rw[e2] at h2;exact ⟨n,rfl,h1,h2⟩
end Go.AM
set_option maxRecDepth 100000
namespace Go.AM
open Go.IntKind (wrap)
open Go.Proofs
def XE (r:List Int):V:= .list ab (r.map fun n=> .int .i64 n)
theorem ahI {t:TypeId} {x:V} (hu:Tryz.prog.underlying t=some (.slice ab)) (hi:Tryz.prog.underlying ab=some (.int .i64)) (h:nY Tryz.prog t x): ∃r:List Int,x=XE r∧(r.length≤maxLen∧∀q∈r,-9223372036854775808≤q∧q≤9223372036854775807):=by
 obtain ⟨es,rfl,e1,e2⟩:=WT.alz hu (nY.one (by simp[b8,hu]) h);obtain ⟨r,rfl,hr⟩:=aah (f:=fun n=>V.int .i64 n) (p:=fun q=> -9223372036854775808≤q∧q≤9223372036854775807) fun y hy=>WT.aly hi (nY.one (by simp[b8,hi]) (e2 y hy));exact ⟨r,rfl,by simpa using e1,hr⟩
end Go.AM
