/-
  Functions of the program, lifted to plain data.
-/
import Derived.Test.YtppefogdkedaiaaP5
set_option linter.unusedVariables false
set_option linter.unusedSimpArgs false
set_option maxRecDepth 100000
namespace Go.AM
open Go.Proofs
noncomputable def Tj (C:ag) (kids:List V):Option (List V):=
 (C IN [.list aa kids]).bind fun r1=>
 bif (V.nth r1 0).toBool then
  (C rZ []).bind fun r2=>
  some [.int .i64 ((V.nth r2 0).toInt),.int .i64 ((V.nth (r2.drop 1) 0).toInt),.list aa ((V.nth (r2.drop 2) 0).toList)]
 else
  (C wI [.int .i64 4,.list aa kids]).bind fun r3=>
  (C EB [.list aa ((V.nth r3 0).toList)]).bind fun r4=>
  bif (V.nth r4 0).toBool then
  (C ub [.list aa ((V.nth (r4.drop 1) 0).toList)]).bind fun r5=>
  bif (V.nth r5 0).toBool then
   (C po []).bind fun r6=>
   (C mc [.int .i64 4,.list aa ((V.nth (r5.drop 1) 0).toList),.int .i64 ((V.nth r6 0).toInt),.int .i64 ((V.nth (r6.drop 1) 0).toInt),.list aa ((V.nth (r6.drop 2) 0).toList)]).bind fun r7=>
   some [.int .i64 ((V.nth r7 0).toInt),.int .i64 ((V.nth (r7.drop 1) 0).toInt),.list aa ((V.nth ((r7.drop 1).drop 1) 0).toList)]
  else
   (C po []).bind fun r8=>
   (C mc [.int .i64 4,.list aa ((V.nth (r5.drop 1) 0).toList),.int .i64 ((V.nth r8 0).toInt),.int .i64 ((V.nth (r8.drop 1) 0).toInt),.list aa ((V.nth (r8.drop 2) 0).toList)]).bind fun r9=>
   some [.int .i64 ((V.nth r9 0).toInt),.int .i64 ((V.nth (r9.drop 1) 0).toInt),.list aa ((V.nth ((r9.drop 1).drop 1) 0).toList)]
  else
  (C ub [.list aa ((V.nth (r4.drop 1) 0).toList)]).bind fun cR=>
  bif (V.nth cR 0).toBool then
   (C po []).bind fun ee=>
   (C mc [.int .i64 4,.list aa ((V.nth (cR.drop 1) 0).toList),.int .i64 ((V.nth ee 0).toInt),.int .i64 ((V.nth (ee.drop 1) 0).toInt),.list aa ((V.nth (ee.drop 2) 0).toList)]).bind fun gq=>
   some [.int .i64 ((V.nth gq 0).toInt),.int .i64 ((V.nth (gq.drop 1) 0).toInt),.list aa ((V.nth ((gq.drop 1).drop 1) 0).toList)]
  else
   (C po []).bind fun ia=>
   (C mc [.int .i64 4,.list aa ((V.nth (cR.drop 1) 0).toList),.int .i64 ((V.nth ia 0).toInt),.int .i64 ((V.nth (ia.drop 1) 0).toInt),.list aa ((V.nth (ia.drop 2) 0).toList)]).bind fun jD=>
   some [.int .i64 ((V.nth jD 0).toInt),.int .i64 ((V.nth (jD.drop 1) 0).toInt),.list aa ((V.nth ((jD.drop 1).drop 1) 0).toList)]
theorem afd {kids:List V} {r:Option (List V)} (h:Tj CC kids=r):CC Ej [.list aa kids]=r:=
 bc (key:=78) (L:=cf) (bs:=[]) (by kernel_rfl) ax (a9 (by kernel_rfl) h)
noncomputable def Tk (C:ag) (kids:List V):Option (List V):=
 (C rX [.list aa kids]).bind fun r1=>
 bif (V.nth r1 0).toBool then
  (C po []).bind fun r2=>
  some [.int .i64 ((V.nth r2 0).toInt),.int .i64 ((V.nth (r2.drop 1) 0).toInt),.list aa ((V.nth (r2.drop 2) 0).toList)]
 else
  (C wI [.int .i64 5,.list aa kids]).bind fun r3=>
  (C Ez [.list aa ((V.nth r3 0).toList)]).bind fun r4=>
  bif (V.nth r4 0).toBool then
  (C ua []).bind fun r5=>
  (C mc [.int .i64 5,.list aa ((V.nth (r4.drop 1) 0).toList),.int .i64 ((V.nth r5 0).toInt),.int .i64 ((V.nth (r5.drop 1) 0).toInt),.list aa ((V.nth (r5.drop 2) 0).toList)]).bind fun r6=>
  some [.int .i64 ((V.nth r6 0).toInt),.int .i64 ((V.nth (r6.drop 1) 0).toInt),.list aa ((V.nth ((r6.drop 1).drop 1) 0).toList)]
  else
  (C ua []).bind fun r7=>
  (C mc [.int .i64 5,.list aa ((V.nth (r4.drop 1) 0).toList),.int .i64 ((V.nth r7 0).toInt),.int .i64 ((V.nth (r7.drop 1) 0).toInt),.list aa ((V.nth (r7.drop 2) 0).toList)]).bind fun r8=>
  some [.int .i64 ((V.nth r8 0).toInt),.int .i64 ((V.nth (r8.drop 1) 0).toInt),.list aa ((V.nth ((r8.drop 1).drop 1) 0).toList)]
theorem afe {kids:List V} {r:Option (List V)} (h:Tk CC kids=r):CC Ek [.list aa kids]=r:=
 bc (key:=79) (L:=cf) (bs:=[]) (by kernel_rfl) ax (a9 (by kernel_rfl) h)
noncomputable def Tl (C:ag) (kids:List V):Option (List V):=
 (C rX [.list aa kids]).bind fun r1=>
 bif (V.nth r1 0).toBool then
  (C po []).bind fun r2=>
  some [.int .i64 ((V.nth r2 0).toInt),.int .i64 ((V.nth (r2.drop 1) 0).toInt),.list aa ((V.nth (r2.drop 2) 0).toList)]
 else
  (C wI [.int .i64 6,.list aa kids]).bind fun r3=>
  (C wH [.list aa ((V.nth r3 0).toList)]).bind fun r4=>
  bif (V.nth r4 0).toBool then
  (C ub [.list aa ((V.nth (r4.drop 1) 0).toList)]).bind fun r5=>
  bif (V.nth r5 0).toBool then
   (C rZ []).bind fun r6=>
   (C mc [.int .i64 6,.list aa ((V.nth (r5.drop 1) 0).toList),.int .i64 ((V.nth r6 0).toInt),.int .i64 ((V.nth (r6.drop 1) 0).toInt),.list aa ((V.nth (r6.drop 2) 0).toList)]).bind fun r7=>
   some [.int .i64 ((V.nth r7 0).toInt),.int .i64 ((V.nth (r7.drop 1) 0).toInt),.list aa ((V.nth ((r7.drop 1).drop 1) 0).toList)]
  else
   (C rZ []).bind fun r8=>
   (C mc [.int .i64 6,.list aa ((V.nth (r5.drop 1) 0).toList),.int .i64 ((V.nth r8 0).toInt),.int .i64 ((V.nth (r8.drop 1) 0).toInt),.list aa ((V.nth (r8.drop 2) 0).toList)]).bind fun r9=>
   some [.int .i64 ((V.nth r9 0).toInt),.int .i64 ((V.nth (r9.drop 1) 0).toInt),.list aa ((V.nth ((r9.drop 1).drop 1) 0).toList)]
  else
  (C ub [.list aa ((V.nth (r4.drop 1) 0).toList)]).bind fun cR=>
  bif (V.nth cR 0).toBool then
   (C rZ []).bind fun ee=>
   (C mc [.int .i64 6,.list aa ((V.nth (cR.drop 1) 0).toList),.int .i64 ((V.nth ee 0).toInt),.int .i64 ((V.nth (ee.drop 1) 0).toInt),.list aa ((V.nth (ee.drop 2) 0).toList)]).bind fun gq=>
   some [.int .i64 ((V.nth gq 0).toInt),.int .i64 ((V.nth (gq.drop 1) 0).toInt),.list aa ((V.nth ((gq.drop 1).drop 1) 0).toList)]
  else
   (C rZ []).bind fun ia=>
   (C mc [.int .i64 6,.list aa ((V.nth (cR.drop 1) 0).toList),.int .i64 ((V.nth ia 0).toInt),.int .i64 ((V.nth (ia.drop 1) 0).toInt),.list aa ((V.nth (ia.drop 2) 0).toList)]).bind fun jD=>
   some [.int .i64 ((V.nth jD 0).toInt),.int .i64 ((V.nth (jD.drop 1) 0).toInt),.list aa ((V.nth ((jD.drop 1).drop 1) 0).toList)]
theorem aff {kids:List V} {r:Option (List V)} (h:Tl CC kids=r):CC El [.list aa kids]=r:=
 bc (key:=80) (L:=cf) (bs:=[]) (by kernel_rfl) ax (a9 (by kernel_rfl) h)
noncomputable def Lf (C:ag) (op:Int) (kids:List V):Option (List V):=
 bif (op:Int)==4 then
  (C Ej [.list aa kids]).bind fun r1=>
  some [.int .i64 ((V.nth r1 0).toInt),.int .i64 ((V.nth (r1.drop 1) 0).toInt),.list aa ((V.nth ((r1.drop 1).drop 1) 0).toList)]
 else
  bif (op:Int)==5 then
  (C Ek [.list aa kids]).bind fun r2=>
  some [.int .i64 ((V.nth r2 0).toInt),.int .i64 ((V.nth (r2.drop 1) 0).toInt),.list aa ((V.nth ((r2.drop 1).drop 1) 0).toList)]
  else
  bif (op:Int)==6 then
   (C El [.list aa kids]).bind fun r3=>
   some [.int .i64 ((V.nth r3 0).toInt),.int .i64 ((V.nth (r3.drop 1) 0).toInt),.list aa ((V.nth ((r3.drop 1).drop 1) 0).toList)]
  else
   bif ((kids.length:Int):Int) != 1 then
   some [.int .i64 0,.int .i64 0,.list aa ([]:List V)]
   else
   (kids[0]?).bind fun x4=>
   bif (op:Int)==8 then
    bif (((x4.cell 0).toInt):Int)==8 then
    bif ((((x4.cell 2).toList).length:Int):Int)==1 then
     (((x4.cell 2).toList)[0]?).bind fun x5=>
     some [.int .i64 ((x5.cell 0).toInt),.int .i64 ((x5.cell 1).toInt),.list aa ((x5.cell 2).toList)]
    else
     some [.int .i64 8,.int .i64 0,.list aa ([.agg [.int .i64 ((x4.cell 0).toInt),.int .i64 ((x4.cell 1).toInt),.list aa ((x4.cell 2).toList)]]:List V)]
    else
    some [.int .i64 8,.int .i64 0,.list aa ([.agg [.int .i64 ((x4.cell 0).toInt),.int .i64 ((x4.cell 1).toInt),.list aa ((x4.cell 2).toList)]]:List V)]
   else
    bif (op:Int)==7 then
    bif (((x4.cell 0).toInt):Int)==1 then
     (C ua []).bind fun r6=>
     some [.int .i64 ((V.nth r6 0).toInt),.int .i64 ((V.nth (r6.drop 1) 0).toInt),.list aa ((V.nth (r6.drop 2) 0).toList)]
    else
     bif (((x4.cell 0).toInt):Int)==2 then
     (C ua []).bind fun r7=>
     some [.int .i64 ((V.nth r7 0).toInt),.int .i64 ((V.nth (r7.drop 1) 0).toInt),.list aa ((V.nth (r7.drop 2) 0).toList)]
     else
     bif (((x4.cell 0).toInt):Int)==7 then
      some [.int .i64 ((x4.cell 0).toInt),.int .i64 ((x4.cell 1).toInt),.list aa ((x4.cell 2).toList)]
     else
      (C l9 [.int .i64 ((x4.cell 0).toInt),.int .i64 ((x4.cell 1).toInt),.list aa ((x4.cell 2).toList)]).bind fun r8=>
      bif (V.nth r8 0).toBool then
      some [.int .i64 ((x4.cell 0).toInt),.int .i64 ((x4.cell 1).toInt),.list aa ((x4.cell 2).toList)]
      else
      some [.int .i64 7,.int .i64 0,.list aa ([.agg [.int .i64 ((x4.cell 0).toInt),.int .i64 ((x4.cell 1).toInt),.list aa ((x4.cell 2).toList)]]:List V)]
    else
    some [.int .i64 0,.int .i64 0,.list aa ([]:List V)]
theorem Tm {op:Int} {kids:List V} {r:Option (List V)} (h:Lf CC op kids=r):CC kb [.int .i64 op,.list aa kids]=r:=
 bc (key:=69) (L:=cf) (bs:=[]) (by kernel_rfl) ax (a9 (by kernel_rfl) h)
noncomputable abbrev Tn:Code:=cJ Try.prog (ay.ba 59)
noncomputable def Bo (C:ag) (t20:List V) (t21 en dB:Int) (cP:List V) (jB jC:Int) (bE:List V) (t22:Int) (ng:List V) {β:Type} (kn:(Int × (List V))→Option β) (kr:(Int × Bool × (List V))→Option β):Option β:=
 bif decide ((t22:Int)<t21) then
  (idx t20 t22).bind fun x1=>
  (C tY [.int .i64 ((x1.cell 0).toInt),.int .i64 ((x1.cell 1).toInt),.list aa ((x1.cell 2).toList)]).bind fun r2=>
  bif (decide (0≤t22))&&(decide (t22<(ng.length:Int))) then
  (ng[(t22:Int).toNat]?).bind fun x3=>
  kn (IntKind.wrap .i64 (t22+1),ng.set ((t22:Int).toNat) (.agg [.int .i64 ((V.nth r2 0).toInt),.int .i64 ((V.nth (r2.drop 1) 0).toInt),.list aa ((V.nth ((r2.drop 1).drop 1) 0).toList)]))
  else none
 else
  kr (t22,decide ((t22:Int)<t21),ng)
noncomputable def FI (C:ag) (t20:List V) (t21 en dB:Int) (cP:List V) (jB jC:Int) (bE:List V):(Int × (List V))→Option ((Int × (List V)) ⊕ (Int × Bool × (List V))):=un fun t22 ng=>Bo C t20 t21 en dB cP jB jC bE t22 ng (fun y=>some (.inl y)) (fun r=>some (.inr r))
noncomputable def To (C:ag):cz:=fun β n ds k=>
 bif Nat.beq n 81 then cb Jc [false,false,true,false,false,false,false,false,true,false] [[1,2,0,0,4,5,6,7,8,0,10]] (@Bo C) ds k else
 none
abbrev afg (C:ag) (b:ct):Prop:=cv Try.prog ay C (To C) 59 (cL Try.prog (ay.ba 59)) (ay.sin 59).bh.length b
theorem afh (C:ag):afg C (.loop (aw [1,1,1,0,1,0,0] Tn)):=
 ch Jc [false,false,true,false,false,false,false,false,true,false] [[1,2,0,0,4,5,6,7,8,0,10]] (@Bo C) (by kernel_rfl) (bq (bs:=[]) (by kernel_rfl) ax) (fun ds=>by kernel_rfl) (fun i x=>by kernel_rfl) (fun i x β k=>by kernel_rfl) (fun β ds k=>by kernel_rfl)
noncomputable def Tp (C:ag) (af aq:Int) (ae:List V):Option (List V):=
 bif ((ae.length:Int):Int)==0 then
  some [.int .i64 af,.int .i64 aq,.list aa ([]:List V)]
 else
  bif (decide (0≤(ae.length:Int)))&&((decide ((ae.length:Int)≤(ae.length:Int)))&&(Nat.ble ((((ae.length:Int):Int).toNat)*40) bS)) then
  (Loop (FI C ae (ae.length:Int) af aq ae 0 0 ([]:List V)) (0,List.replicate (((ae.length:Int):Int).toNat) (V.agg [.int .i64 0,.int .i64 0,.list aa ([]:List V)]))).bind (un fun (mg:Int)=>un fun (pw:Bool) (afi:List V)=>
   (C kb [.int .i64 af,.list aa afi]).bind fun r7=>
   some [.int .i64 ((V.nth r7 0).toInt),.int .i64 ((V.nth (r7.drop 1) 0).toInt),.list aa ((V.nth ((r7.drop 1).drop 1) 0).toList)])
  else none
theorem afj {af aq:Int} {ae:List V} {r:Option (List V)} (h:Tp CC af aq ae=r):CC tY [.int .i64 af,.int .i64 aq,.list aa ae]=r:=
 bc (key:=59) (L:=To CC) (bs:=[.loop (aw [1,1,1,0,1,0,0] Tn)]) (by kernel_rfl) (bD (afh CC) ax) (a9 (by kernel_rfl) h)
noncomputable def Tq (C:ag) (af aq:Int) (ae:List V):Option (List V):=
 (C zZ [.int .i64 af,.int .i64 aq,.list aa ae]).bind fun r1=>
 bif !((V.nth r1 0).toBool) then
  some [.int .i64 0,.int .i64 0,.list aa ([]:List V)]
 else
  (C tY [.int .i64 af,.int .i64 aq,.list aa ae]).bind fun r2=>
  some [.int .i64 ((V.nth r2 0).toInt),.int .i64 ((V.nth (r2.drop 1) 0).toInt),.list aa ((V.nth ((r2.drop 1).drop 1) 0).toList)]
theorem afk {af aq:Int} {ae:List V} {r:Option (List V)} (h:Tq CC af aq ae=r):CC Ed [.int .i64 af,.int .i64 aq,.list aa ae]=r:=
 bc (key:=41) (L:=cf) (bs:=[]) (by kernel_rfl) ax (a9 (by kernel_rfl) h)
end Go.AM
set_option maxRecDepth 100000
namespace Go.AM
open Go.Proofs Ex
theorem uU:CC po []=some (eo ed):=ab3 rfl
theorem FJ:CC ua []=some (eo jb):=ab5 rfl
theorem Bp:CC rZ []=some (eo iL):=by
 refine ab6 ?_
 unfold Q9
 refine bs uU ?_
 simp[eo,ed,iL,Ex.op,Ex.aY,Ex.kids,dc]
theorem Tr (o:Int) (l:List Ex):(l.filter fun k=> !(decide (k.op=o)))=l.filter fun k=>decide (k.op≠o):=by
 congr 1;funext k;simp
theorem Ts {ks:List Ex} (hlen:ks.length≤1000000):CC rX [.list aa (ks.map enc)]=some [.bool (ks.any fun k=>decide (k.op=1))]:=adg hlen
theorem afl {ks:List Ex} (hn:ks.length≤1000000): ∃b,CC EB [.list aa (ks.map enc)]=some [.bool b,.list aa ((ks.filter (fun k=>decide (k.op≠1))).map enc)]:=by
 rw[←Tr];exact adi hn
theorem afm {ks:List Ex} (hn:ks.length≤1000000): ∃b,CC Ez [.list aa (ks.map enc)]=some [.bool b,.list aa ((ks.filter (fun k=>decide (k.op≠2))).map enc)]:=by
 rw[←Tr];exact adm hn
theorem FK {o:Int} {ks:List Ex} (h: ∀k∈ks,k.Ok): ∀k∈bp o ks,k.Ok:=fun x hx=>by
 obtain ⟨k,h1,U|U⟩:=nj.1 hx
 ·have:=h k h1
  obtain ⟨o2,l2,ja⟩:=k
  exact this.lA x U.2
 ·rw[U.2];exact h k h1
theorem afn {n:Int} {ks:List Ex} (hk: ∀k∈ks,Gd n k) (hs:aI ks≤1000000):CC Ek [.list aa (ks.map enc)]=some (eo (dD 5 0 ks)):=by
 have hl:=ki ks
 have a1:=qI 5 ks
 have a2:=ki (bp 5 ks)
 refine afe ?_
 unfold Tk
 rw[sq,KG hk]
 refine bs (Ts (by omega)) ?_
 cases hu:ks.any fun k=>decide (k.op=1) with
 | true=>
  refine bT rfl ?_
  refine bs uU ?_
  rfl
 | false=>
  refine bF rfl ?_
  refine bs (Kp (by omega) (by omega)) ?_
  obtain ⟨b,e⟩:=afm (ks:=bp 5 ks) (by omega)
  refine bs e ?_
  cases b
  ·exact bF rfl (bs FJ (bs (pz (z:=jb)) rfl))
  ·exact bT rfl (bs FJ (bs (pz (z:=jb)) rfl))
section
variable {n:Int} {ks:List Ex} (hk: ∀k∈ks,Gd n k) (au: ∀k∈ks,k.Ok) (hs:aI ks≤1000000)
include hk au hs
theorem afo:CC Ej [.list aa (ks.map enc)]=some (eo (dD 4 0 ks)):=by
 have hl:=ki ks
 have a1:=qI 4 ks
 have a2:=ki (bp 4 ks)
 refine afd ?_
 unfold Tj
 rw[uy,RD hk]
 refine bs (ado (by omega)) ?_
 cases hu:ks.any univ with
 | true=>
  refine bT rfl ?_
  refine bs Bp ?_
  rfl
 | false=>
  refine bF rfl ?_
  refine bs (Kp (by omega) (by omega)) ?_
  obtain ⟨b,e⟩:=afl (ks:=bp 4 ks) (by omega)
  refine bs e ?_
  obtain ⟨b2,e2⟩:=Ti (l:=(bp 4 ks).filter fun k=>decide (k.op≠1)) (by have:=sQ (fun k:Ex=>decide (k.op≠1)) (bp 4 ks);omega) fun k h=>FK au k (nK.1 h).1
  cases b
  ·refine bF rfl ?_
   refine bs e2 ?_
   cases b2
   ·exact bF rfl (bs uU (bs (pz (z:=ed)) rfl))
   ·exact bT rfl (bs uU (bs (pz (z:=ed)) rfl))
  ·refine bT rfl ?_
   refine bs e2 ?_
   cases b2
   ·exact bF rfl (bs uU (bs (pz (z:=ed)) rfl))
   ·exact bT rfl (bs uU (bs (pz (z:=ed)) rfl))
theorem afp:CC El [.list aa (ks.map enc)]=some (eo (dD 6 0 ks)):=by
 have hl:=ki ks
 have a1:=qI 6 ks
 have a2:=ki (bp 6 ks)
 refine aff ?_
 unfold Tl
 rw[xf,acJ hk]
 refine bs (Ts (by omega)) ?_
 cases hu:ks.any fun k=>decide (k.op=1) with
 | true=>
  refine bT rfl ?_
  refine bs uU ?_
  rfl
 | false=>
  refine bF rfl ?_
  refine bs (Kp (by omega) (by omega)) ?_
  obtain ⟨b,e⟩:=adq (ks:=bp 6 ks) (by omega)
  refine bs e ?_
  obtain ⟨b2,e2⟩:=Ti (l:=(bp 6 ks).filter fun k=> !(univ k)) (by have:=sQ (fun k:Ex=> !(univ k)) (bp 6 ks);omega) fun k h=>FK au k (nK.1 h).1
  cases b
  ·refine bF rfl ?_
   refine bs e2 ?_
   cases b2
   ·exact bF rfl (bs Bp (bs (pz (z:=iL)) rfl))
   ·exact bT rfl (bs Bp (bs (pz (z:=iL)) rfl))
  ·refine bT rfl ?_
   refine bs e2 ?_
   cases b2
   ·exact bF rfl (bs Bp (bs (pz (z:=iL)) rfl))
   ·exact bT rfl (bs Bp (bs (pz (z:=iL)) rfl))
theorem qR {o:Int} (ho:o=4∨o=5∨o=6):CC kb [.int .i64 o,.list aa (ks.map enc)]=some (eo (dD o 0 ks)):=by
 refine Tm ?_
 unfold Lf
 rcases ho with rfl|rfl|rfl
 ·exact bT rfl (bs (afo hk au hs) rfl)
 ·exact bF rfl (bT rfl (bs (afn hk hs) rfl))
 ·exact bF rfl (bF rfl (bT rfl (bs (afp hk au hs) rfl)))
end
theorem Lg (k:Ex):[V.agg [.int .i64 k.op,.int .i64 k.aY,.list aa (k.kids.map enc)]]=[k].map enc:=by rw[←dc];rfl
theorem FL {n o:Int} {k:Ex} (hk:Gd n k) (ho:o=7∨o=8):CC kb [.int .i64 o,.list aa ([k].map enc)]=some (eo (dD o 0 [k])):=by
 refine Tm ?_
 unfold Lf
 rcases ho with rfl|rfl
 ·refine bF rfl (bF rfl (bF rfl (bF rfl (bs (a:=k.enc) rfl (bF rfl (bT rfl ?_))))))
  rw[xg,aZ,bj,bd,db,db,db]
  by_cases h1:k.op=1
  ·rw[aj h1,aj (.inl h1)];exact bs FJ rfl
  ·rw[ai h1]
   by_cases U:k.op=2
   ·rw[aj U,aj (.inr U)];exact bs FJ rfl
   ·rw[ai U,ai (show¬(k.op=1∨k.op=2) by omega)]
    by_cases h7:k.op=7
    ·rw[aj h7,aj (.inl h7)];rfl
    ·rw[ai h7]
     refine bs (AO k) ?_
     cases hu:univ k with
     | true=>rw[aj (.inr rfl)];exact bT rfl rfl
     | false=>
      rw[ai (by rintro (h|h);exact h7 h;cases h)]
      refine bF rfl ?_
      rw[Lg];rfl
 ·refine bF rfl (bF rfl (bF rfl (bF rfl (bs (a:=k.enc) rfl (bT rfl ?_)))))
  rw[xh,aZ,bj,bd,db]
  by_cases h8:k.op=8
  ·rw[aj h8,aj h8]
   have hs:=eu hk.shape
   obtain ⟨o2,l2,ja⟩:=k
   simp only[Ex.op,Ex.kids,Ex.aY] at*
   match ja,(show (ja.length:Int)=1 by omega) with
   | [x],_=>
    refine bT (by simp) (bs (a:=x.enc) rfl ?_)
    rw[aZ,bj,bd];rfl
  ·rw[ai h8,ai h8,Lg];rfl
theorem Tt {α:Type} (a:List α) (x y:α) (b:List α) {i:Nat} (h:i=a.length):(a++x::b).set i y=(a++[y])++b:=by
 subst h;simp[List.set_append_right]
theorem afq {ks:List Ex} {a b c d:Int} {l1 l2:List V} (hn:ks.length≤1000000) (ih: ∀k∈ks,CC tY (bG k [])=some (eo (aJ k))):
  ∀(av pre:List Ex),ks=pre++av→∃t,Loop (FI CC (ks.map enc) ((ks.map enc).length:Int) a b l1 c d l2) (((pre.length:Nat):Int),(pre.map aJ).map enc++List.replicate av.length (V.agg [.int .i64 0,.int .i64 0,.list aa ([]:List V)]))=some (((ks.map enc).length:Int),t,(ks.map aJ).map enc):=by
 intro av
 induction av with
 | nil=>
  intro pre e
  rw[cU] at e
  subst e
  refine ⟨false,aX ?_⟩
  simp only[FI,Bo,un,aP]
  rw[az,ai (by omega),cV (by omega)]
  simp
 | cons k av et=>
  intro pre e
  have bQ:pre.length<ks.length:=by rw[e];simp
  have bV:idx (ks.map enc) (pre.length:Int)=some k.enc:=by rw[e];exact fT _ _ _
  obtain ⟨t,ht⟩:=et (pre++[k]) (by simp[e])
  refine ⟨t,(bR ?_).trans ht⟩
  simp only[FI,Bo,un,aP]
  rw[az,aj (by omega),bV]
  simp only[Option.bind_some,aZ,bj,bd]
  refine bs (ih k (by rw[e];simp)) ?_
  refine bT (by simp only[aK,dW,bU,aP,sN,List.length_cons];omega) ?_
  refine bs (a:=V.agg [.int .i64 0,.int .i64 0,.list aa ([]:List V)]) ?_ ?_
  ·rw[Int.toNat_natCast,ik (by simp)]
   simp
  ·rw[wrap64 (by omega) (by omega),Int.toNat_natCast,List.length_cons,List.replicate_succ,Tt _ _ _ _ (by simp)]
   show some (Sum.inl _)=some (Sum.inl _)
   refine congrArg (fun x=>some (Sum.inl x)) (Prod.ext ?_ ?_)
   ·simp
   ·simp only[eP,cw,fK]
    rw[dc (aJ k)];rfl
theorem Tu {n:Int} (hn:n≤6): ∀e:Ex,e.wf n=true→e.size≤1000000→CC tY (bG e [])=some (eo (aJ e)):=
 ind fun o l ks ih hw hs=>by
  obtain ⟨h1,U⟩:=gn hw
  have hl:=ki ks
  simp only[size] at hs
  have h3:=eu h1
  refine afj ?_
  unfold Tp
  simp only[Ex.op,Ex.kids,Ex.aY,aP,db]
  rw[lC]
  by_cases h0:ks=[]
  ·subst h0
   rw[aj (by simp),jF (by simp only[List.length_nil] at h3;omega)]
   rfl
  ·have hp:0<ks.length:=List.length_pos_iff.2 h0
   rw[ai (by omega)]
   refine bT (by simp only[aK,dW,dm,kg,Int.toNat_natCast];omega) ?_
   obtain ⟨t,ht⟩:=afq (a:=o) (b:=l) (c:=0) (d:=0) (l1:=ks.map enc) (l2:=[]) (ks:=ks) (by omega) (fun k hk=>ih k hk (U k hk) (by have:=sn hk;omega)) ks [] rfl
   rw[aP] at ht
   refine bs ht ?_
   have hg: ∀k∈ks.map aJ,Gd n k:=fun x hx=>by
    obtain ⟨k,hk,rfl⟩:=fY.1 hx
    exact mi k (U k hk)
   have hz:aI (ks.map aJ)≤aI ks:=by
    clear ht h3 h1 hw ih hp h0 hl hs hg
    induction ks with
    | nil=>simp[aI]
    | cons k ks ih=>have a:=xj k (U k (by simp));have b:=ih fun k hk=>U k (by simp[hk]);simp only[cw,aI];omega
   have au: ∀k∈ks.map aJ,k.Ok:=fun k hk=>qK hn k (hg k hk).2 (by have:=sn hk;omega)
   rcases (show (o=4∨o=5∨o=6)∨(o=7∨o=8) by omega) with ho|ho
   ·obtain rfl:l=0:=by omega
    exact bs (qR hg au (by omega) ho) rfl
   ·obtain rfl:l=0:=by omega
    have h5:ks.length=1:=by omega
    match ks,h5 with
    | [k],_=>exact bs (FL (hg (aJ k) (by simp)) ho) rfl
theorem afr (e:Ex) (h:e.Ok):CC Ed (bG e [])=some (eo (if e.val 6=0 then aJ e else bf)):=by
 refine afk ?_
 unfold Tq
 refine bs (Rz e h) ?_
 by_cases hv:e.val 6=0
 ·have:=ni hv
  rw[aj hv]
  refine bF (by simp[hv]) ?_
  exact bs (Tu (by omega) e this.2.2 (by omega)) rfl
 ·rw[ai hv]
  refine bT (by simp[hv]) ?_
  rfl
theorem afs {ks:List Ex} {a b c d:Int} {l1 l2:List V} (hn:ks.length≤1000000) (ih: ∀k∈ks,CC wu (bG k [])=some (eo (aJ k))):
  ∀(av pre:List Ex),ks=pre++av→∃t,Loop (E3 CC (ks.map enc) ((ks.map enc).length:Int) a b l1 c d l2) (((pre.length:Nat):Int),(pre.map aJ).map enc)=some (((ks.map enc).length:Int),t,(ks.map aJ).map enc):=by
 intro av
 induction av with
 | nil=>
  intro pre e
  rw[cU] at e
  subst e
  refine ⟨false,aX ?_⟩
  simp only[E3,AB,un,aP]
  rw[az,ai (by omega),cV (by omega)]
 | cons k av et=>
  intro pre e
  have bQ:pre.length<ks.length:=by rw[e];simp
  have bV:idx (ks.map enc) (pre.length:Int)=some k.enc:=by rw[e];exact fT _ _ _
  obtain ⟨t,ht⟩:=et (pre++[k]) (by simp[e])
  refine ⟨t,(bR ?_).trans ht⟩
  simp only[E3,AB,un,aP]
  rw[az,aj (by omega),bV]
  simp only[Option.bind_some,aZ,bj,bd]
  refine bs (ih k (by rw[e];simp)) ?_
  refine bT (by simp only[dm,kg,aP,List.length_singleton];omega) ?_
  rw[wrap64 (by omega) (by omega)]
  show some (Sum.inl _)=some (Sum.inl _)
  refine congrArg (fun x=>some (Sum.inl x)) (Prod.ext ?_ ?_)
  ·simp
  ·simp only[eP,cw,fK]
   rw[dc (aJ k)];rfl
theorem Lh {op z:Int} {r:List Ex} {lz:List V} {e:Ex} (he:eo e=[.int .i64 z,.int .i64 0,.list aa lz]):
  (bif (((r.map enc).length:Int):Int)==0 then some [V.int .i64 z,V.int .i64 0,V.list aa lz] else bif (((r.map enc).length:Int):Int)==1 then ((r.map enc)[0]?).bind fun x=>some [V.int .i64 ((x.cell 0).toInt),V.int .i64 ((x.cell 1).toInt),V.list aa ((x.cell 2).toList)] else some [V.int .i64 op,V.int .i64 0,V.list aa (r.map enc)])=some (eo (gO op r e)):=by
 simp only[db,aP]
 match r with
 | []=>rw[aj (by simp),←he];rfl
 | [k]=>rw[ai (by simp),aj (by simp)];simp[gO,eo,aZ,bj,bd]
 | k::k2::r=>
  rw[ai (by simp only[List.length_cons];omega),ai (by simp only[List.length_cons];omega)]
  rfl
theorem aft {n:Int} (hn:n≤6): ∀e:Ex,e.wf n=true→e.size≤1000000→CC wu (bG e [])=some (eo (aJ e)):=
 ind fun o l ks ih hw hs=>by
  obtain ⟨h1,U⟩:=gn hw
  have hl:=ki ks
  simp only[size] at hs
  have h3:=eu h1
  refine aci ?_
  unfold Rl
  obtain ⟨t,ht⟩:=afs (a:=o) (b:=l) (c:=0) (d:=0) (l1:=ks.map enc) (l2:=[]) (ks:=ks) (by omega) (fun k hk=>ih k hk (U k hk) (by have:=sn hk;omega)) ks [] rfl
  refine bs ht ?_
  have hg: ∀k∈ks.map aJ,Gd n k:=fun x hx=>by
   obtain ⟨k,hk,rfl⟩:=fY.1 hx
   exact mi k (U k hk)
  have hz:aI (ks.map aJ)≤aI ks:=by
   clear ht h3 h1 hw ih hl hs hg
   induction ks with
   | nil=>simp[aI]
   | cons k ks ih=>have a:=xj k (U k (by simp));have b:=ih fun k hk=>U k (by simp[hk]);simp only[cw,aI];omega
  have au: ∀k∈ks.map aJ,k.Ok:=fun k hk=>qK hn k (hg k hk).2 (by have:=sn hk;omega)
  have hlen:(ks.map aJ).length=ks.length:=by simp
  rw[lC]
  simp only[un,Ex.op,Ex.aY,Ex.kids]
  generalize ks.map aJ=ns at*
  have ji:=ki ns
  rcases h3 with ⟨rfl,h4,_⟩|⟨rfl,⟨rfl,h4⟩|⟨rfl,h4⟩|⟨rfl,h4⟩|⟨rfl,h4⟩|⟨rfl,h4⟩|⟨rfl,h4⟩|⟨rfl,h4⟩⟩
  ·obtain rfl:ns=[]:=mB.1 (by omega)
   rw[jF (by omega)]
   exact bF rfl (bF rfl (bF rfl (bF rfl (bF rfl rfl))))
  ·obtain rfl:ns=[]:=mB.1 (by omega)
   rw[jF (by omega)]
   exact bF rfl (bF rfl (bF rfl (bF rfl (bF rfl rfl))))
  ·obtain rfl:ns=[]:=mB.1 (by omega)
   rw[jF (by omega)]
   exact bF rfl (bF rfl (bF rfl (bF rfl (bF rfl rfl))))
  ·refine bF rfl (bF rfl (bF rfl (bT rfl ?_)))
   have a1:=qI 4 ns
   have a2:=ki (bp 4 ns)
   refine bs (Ko (by omega) (by omega)) ?_
   refine bs (ack (by omega) (FK au) (bp 4 ns) [] [] rfl (bZ _) (by simp)) ?_
   rw[uy]
   cases (bp 4 ns).any univ with
   | true=>simp only[cF];rfl
   | false=>
    simp only[yp,fc]
    exact Lh rfl
  ·refine bF rfl (bF rfl (bT rfl ?_))
   have a1:=qI 5 ns
   have a2:=ki (bp 5 ns)
   refine bs (Ko (by omega) (by omega)) ?_
   refine bs (acj (by omega) (bp 5 ns) [] [] rfl (bZ _)) ?_
   rw[sq]
   cases (bp 5 ns).any (fun k=>decide (k.op=1)) with
   | true=>simp only[cF];rfl
   | false=>
    simp only[yp,fc,List.nil_append]
    exact Lh rfl
  ·refine bF rfl (bF rfl (bF rfl (bF rfl (bT rfl ?_))))
   have a1:=qI 6 ns
   have a2:=ki (bp 6 ns)
   refine bs (Ko (by omega) (by omega)) ?_
   refine bs (acm (by omega) (FK au) (bp 6 ns) [] [] rfl (bZ _) (by simp)) ?_
   rw[xf]
   cases (bp 6 ns).any (fun k=>decide (k.op=1)) with
   | true=>simp only[cF];rfl
   | false=>
    simp only[yp,fc]
    refine Lh ?_
    simp[eo,iL,ed,Ex.op,Ex.aY,Ex.kids,dc]
  ·match ns,(show ns.length=1 by omega) with
   | [k],_=>
    refine bF rfl (bT rfl (bT rfl (bs (a:=k.enc) rfl ?_)))
    rw[xg,aZ,bj,bd,db,db,db]
    by_cases h1:k.op=1
    ·rw[aj h1,aj (.inl h1)];rfl
    ·rw[ai h1]
     by_cases U:k.op=2
     ·rw[aj U,aj (.inr U)];rfl
     ·rw[ai U,ai (show¬(k.op=1∨k.op=2) by omega)]
      by_cases h7:k.op=7
      ·rw[aj h7,aj (.inl h7)];rfl
      ·rw[ai h7]
       refine bs (Kn k) ?_
       cases hu:univ k with
       | true=>rw[aj (.inr rfl)];exact bT rfl rfl
       | false=>
        rw[ai (by rintro (h|h);exact h7 h;cases h)]
        exact bF rfl rfl
  ·match ns,(show ns.length=1 by omega) with
   | [k],_=>
    refine bT rfl (bT rfl (bs (a:=k.enc) rfl ?_))
    rw[xh,aZ,db]
    by_cases h8:k.op=8
    ·rw[aj h8,aj h8]
     have hs:=eu (hg k (by simp)).shape
     obtain ⟨o2,l2,ja⟩:=k
     simp only[Ex.op,Ex.kids,Ex.aY] at*
     match ja,(show (ja.length:Int)=1 by omega) with
     | [x],_=>
      refine bT (by simp) (bs (a:=_) rfl (bs (a:=x.enc) (by rw[bd];rfl) ?_))
      rw[aZ,bj,bd];rfl
    ·rw[ai h8,ai h8];rfl
end Go.AM
set_option maxRecDepth 100000
namespace Go.AM
open Go.Proofs
def tab {α:Type} (n:Nat) (g:Nat→α):List α:=(List.range n).map g
section
variable {α β:Type} {n i:Nat} {g h:Nat→α}
@[simp] theorem ai3:(tab n g).length=n:=by simp[tab]
end
section
variable {γ:Type} {n i:Nat} {g:Nat→V}
theorem sE {es:List V} {v:V} (hi:es[i]? =some v) {K:V→Option γ}:(bif (decide (0≤(i:Int)))&&(decide ((i:Int)<(es.length:Int))) then (es[((i:Int)).toNat]?).bind K else none)=K v:=by
 have hl:i<es.length:=by
  rcases oN i es.length with h|h
  ·exact h
  ·rw[yh h] at hi;cases hi
 rw[Int.toNat_natCast,hi,sR.2 ⟨dM (by omega),dM (by omega)⟩]
 rfl
end
theorem cap {a b m:Nat} (h:a+b≤10000000) (hm:m≤1000):Nat.ble ((a+b)*m) bS=true:=by
 rw[dm,kg]
 have:=Nat.mul_le_mul h hm
 omega
theorem afu {n m:Nat} (h:n≤10000000) (hm:m≤1000):((decide (0≤(n:Int)))&&((decide ((n:Int)≤(n:Int)))&&(Nat.ble (((n:Int).toNat)*m) bS)))=true:=by
 have U:=Nat.mul_le_mul h hm
 rw[Int.toNat_natCast]
 refine sR.2 ⟨dM (by omega),sR.2 ⟨dM (by omega),?_⟩⟩
 rw[dm,kg]
 omega
theorem nC {i:Nat} (h:i≤1000000000):IntKind.wrap .i64 ((i:Int)+1)=((i+1:Nat):Int):=by rw[wrap64 (by omega) (by omega)];omega
theorem uV {i n:Nat} (h:i<n):decide ((i:Int)<(n:Int))=true:=dM (by omega)
end Go.AM
set_option maxRecDepth 100000
namespace Go.AM
open Go.Proofs Ex
def oneOf (o:Int):List Ex→Ex
 | [k]=>k
 | l=> .node o 0 l
mutual
def bC (c:Int):Ex→Ex
 | .node o l ks=>
  if o=3 then (if l=c then jb else ed)
  else if o=4∨o=6∨o=8 then .node o 0 (xQ c ks)
  else if o=7 then .node 5 0 [(xQ c ks).getD 0 bf,.node o l ks]
  else if o=5 then oneOf 4 (gQ c ks)
  else ed
def xQ (c:Int):List Ex→List Ex
 | []=>[]
 | k::ks=>bC c k::xQ c ks
def gQ (c:Int):List Ex→List Ex
 | []=>[]
 | k::ks=>oneOf 5 (bC c k::ks)::(if k.cE=true then gQ c ks else [])
end
theorem Tv {c:Int}: ∀ks,xQ c ks=ks.map (bC c)
 | []=>by simp only[xQ,fK]
 | k::ks=>by simp only[xQ,cw,Tv ks]
theorem nD {c o l:Int} {ks:List Ex}:bC c (.node o l ks)=if o=3 then (if l=c then jb else ed) else if o=4∨o=6∨o=8 then .node o 0 (ks.map (bC c)) else if o=7 then .node 5 0 [(ks.map (bC c)).getD 0 bf,.node o l ks] else if o=5 then oneOf 4 (gQ c ks) else ed:=by
 rw[bC,Tv]
theorem xR {c:Int} {k:Ex} {ks:List Ex}:gQ c (k::ks)=oneOf 5 (bC c k::ks)::(if k.cE=true then gQ c ks else []):=by rw[gQ]
theorem afv {o:Int} {k:Ex} {l:List Ex}:oneOf o (k::l)=if l=[] then k else .node o 0 (k::l):=by
 cases l with
 | nil=>rfl
 | cons x l=>rw[ai (by simp)];rfl
theorem Tw {n:Int}:ed.wf n=true:=ux (by simp[dC]) (by simp)
theorem afw {n:Int}:jb.wf n=true:=ux (by simp[dC]) (by simp)
theorem afx {n o l len:Int} (h:dC o l len n=true) (ho:o=4∨o=6∨o=8):dC o 0 len n=true:=by
 rcases eu h with h|⟨rfl,h⟩
 ·omega
 ·assumption
theorem Tx {n:Int} {o:Int} (ho:o=4∨o=5) {len:Int} (h:2≤len):dC o 0 len n=true:=by
 unfold dC
 rcases ho with rfl|rfl<;>simp[h]
theorem Tz {n:Int} {o:Int} (ho:o=4∨o=5) {l:List Ex} (hl:l≠[]) (h: ∀k∈l,k.wf n=true):(oneOf o l).wf n=true:=by
 match l,hl with
 | [k],_=>exact h k (by simp)
 | k::k2::l,_=>exact ux (Tx ho (by simp only[List.length_cons];omega)) h
theorem TA {c:Int} {ks:List Ex} (h:ks≠[]):gQ c ks≠[]:=by
 cases ks with
 | nil=>exact absurd rfl h
 | cons k ks=>rw[xR];simp
theorem FM {n c:Int}: ∀{ks:List Ex},(∀k∈ks,k.wf n=true)→(∀k∈ks,(bC c k).wf n=true)→∀x∈gQ c ks,x.wf n=true
 | [],_,_,x,hx=>by rw[gQ] at hx;cases hx
 | k::ks,h1,U,x,hx=>by
  rw[xR] at hx
  rcases dg.1 hx with rfl|hx
  ·refine Tz (.inr rfl) (by simp) fun y hy=> ?_
   rcases dg.1 hy with rfl|hy
   ·exact U k (by simp)
   ·exact h1 y (by simp[hy])
  ·split at hx
   ·exact FM (fun y hy=>h1 y (by simp[hy])) (fun y hy=>U y (by simp[hy])) x hx
   ·cases hx
theorem sF {n c:Int}: ∀e:Ex,e.wf n=true→(bC c e).wf n=true:=ind fun o l ks ih hw=>by
 obtain ⟨h1,U⟩:=gn hw
 have hk: ∀k∈ks,(bC c k).wf n=true:=fun k hk=>ih k hk (U k hk)
 rw[nD]
 split
 ·split
  ·exact afw
  ·exact Tw
 split
 ·next _ ho=>
  refine ux (by rw[aP];exact afx h1 ho) fun x hx=> ?_
  obtain ⟨k,lZ,rfl⟩:=fY.1 hx
  exact hk k lZ
 split
 ·next _ _ ho=>
  subst ho
  have hl:ks.length=1:=by rcases eu h1 with h|⟨_,h|h|h|h|h|h|h⟩<;>omega
  obtain ⟨k,rfl⟩:=u6.1 hl
  refine ux (Tx (.inr rfl) (by simp)) fun x hx=> ?_
  rcases dg.1 hx with rfl|hx
  ·exact hk k (by simp)
  ·rw[ef.1 hx];exact hw
 split
 ·next _ _ _ ho=>
  subst ho
  have hl:2≤ks.length:=by rcases eu h1 with h|⟨_,h|h|h|h|h|h|h⟩<;>omega
  exact Tz (.inl rfl) (TA (by intro h;rw[h] at hl;simp at hl)) (FM U hk)
 ·exact Tw
theorem TB {o:Int} {l:List Ex}:(oneOf o l).size≤1+aI l:=by
 match l with
 | []=>simp[oneOf,size,aI]
 | [k]=>simp[oneOf,aI]
 | k::k2::l=>simp[oneOf,size]
theorem Li {f:Ex→Ex}: ∀{ks:List Ex},(∀k∈ks,(f k).size≤k.size*k.size)→aI (ks.map f)≤aI ks*aI ks
 | [],_=>by simp[aI]
 | k::ks,h=>by
  have ih:=Li (f:=f) (ks:=ks) fun x hx=>h x (by simp[hx])
  have hk:=h k (by simp)
  simp only[cw,aI,df,Nat.mul_add]
  omega
theorem Lj {c:Int}: ∀{ks:List Ex},(∀k∈ks,(bC c k).size≤k.size*k.size)→1+aI (gQ c ks)≤(1+aI ks)*(1+aI ks)
 | [],_=>by rw[gQ];simp[aI]
 | k::ks,h=>by
  have ih:=Lj (c:=c) (ks:=ks) fun x hx=>h x (by simp[hx])
  have hk:=h k (by simp)
  have h1:(oneOf 5 (bC c k::ks)).size≤1+((bC c k).size+aI ks):=TB
  have hp:=k.size_pos
  have U:aI (if k.cE=true then gQ c ks else [])≤aI (gQ c ks):=by
   split
   ·exact bZ _
   ·simp[aI]
  have h3:1*aI ks≤k.size*aI ks:=dt _ hp
  have h4:aI ks*k.size=k.size*aI ks:=nH _ _
  rw[xR]
  simp only[aI,df,Nat.mul_add] at*
  omega
theorem Lk {c:Int}: ∀e:Ex,(∀n,e.wf n=true→(bC c e).size≤e.size*e.size):=ind fun o l ks ih n hw=>by
 obtain ⟨h1,U⟩:=gn hw
 have hk: ∀k∈ks,(bC c k).size≤k.size*k.size:=fun k hk=>ih k hk n (U k hk)
 have h3:1*1≤(Ex.node o l ks).size*(Ex.node o l ks).size:=Nat.mul_le_mul (size_pos _) (size_pos _)
 rw[nD]
 split
 ·split
  ·exact h3
  ·exact h3
 split
 ·have:=Li hk
  simp only[size,df,Nat.mul_add] at*
  omega
 split
 ·next _ _ ho=>
  subst ho
  have hl:ks.length=1:=by rcases eu h1 with h|⟨_,h|h|h|h|h|h|h⟩<;>omega
  obtain ⟨k,rfl⟩:=u6.1 hl
  have:=hk k (by simp)
  have hp:=k.size_pos
  simp only[cw,fK,yr,size,aI,df,Nat.mul_add,Nat.add_zero] at*
  omega
 split
 ·have h4:=Lj hk
  have h5:(oneOf 4 (gQ c ks)).size≤1+aI (gQ c ks):=TB
  show _≤(1+aI ks)*(1+aI ks)
  omega
 ·exact h3
section
variable {n c:Int}
theorem afy {o l:Int} {ks:List Ex} (ho:o=4∨o=6∨o=8):aJ (bC c (.node o l ks))=dD o 0 (ks.map fun k=>aJ (bC c k)):=by
 rw[nD,ai (by omega),aj ho,lC,List.map_map]
 rfl
theorem afz {l:Int} {k:Ex}:aJ (bC c (.node 7 l [k]))=dD 5 0 [aJ (bC c k),aJ (.node 7 l [k])]:=by
 rw[nD,ai (by omega),ai (by omega),aj rfl,lC]
 rfl
def FN (c:Int) (k:Ex) (ks:List Ex):Ex:=if (aJ (bC c k)).op=1 then aJ (bC c k) else dD 5 0 (aJ (bC c k)::ks.map aJ)
theorem afA {k:Ex} {ks:List Ex} (hk:k.wf n=true) (aS: ∀x∈ks,x.wf n=true):FN c k ks=aJ (oneOf 5 (bC c k::ks)):=by
 have hg:=mi (n:=n) _ (sF (c:=c) k hk)
 unfold FN
 rw[afv]
 by_cases hn:ks=[]
 ·subst hn
  rw[aj rfl,fK,acV hg]
  split<;>rfl
 ·rw[ai hn,lC,cw]
  by_cases h1:(aJ (bC c k)).op=1
  ·rw[aj h1,sq,aj,empty_eq hg h1]
   have Dn: ∀x∈aJ (bC c k)::ks.map aJ,Gd n x:=fun x hx=>by
    rcases dg.1 hx with rfl|hx
    ·exact hg
    ·obtain ⟨y,hy,rfl⟩:=fY.1 hx
     exact mi y (aS y hy)
   rw[KG Dn]
   simp[h1]
  ·rw[ai h1]
def sG (c:Int):List Ex→List Ex
 | []=>[]
 | k::ks=>FN c k ks::(if k.cE=true then sG c ks else [])
theorem parts_eq: ∀{ks:List Ex},(∀x∈ks,x.wf n=true)→sG c ks=(gQ c ks).map aJ
 | [],_=>by rw[gQ];rfl
 | k::ks,h=>by
  have ih:=parts_eq (ks:=ks) fun x hx=>h x (by simp[hx])
  rw[xR,cw,←afA (h k (by simp)) (fun x hx=>h x (by simp[hx]))]
  unfold sG
  refine congrArg _ ?_
  split
  ·exact ih
  ·rfl
theorem afB {l:Int} {ks:List Ex} (bA:ks≠[]) (hk: ∀x∈ks,x.wf n=true):aJ (bC c (.node 5 l ks))=dD 4 0 (sG c ks):=by
 rw[nD,ai (by omega),ai (by omega),ai (by omega),aj rfl,parts_eq hk]
 have hw:=FM (c:=c) hk fun k lZ=>sF k (hk k lZ)
 have hn:=TA (c:=c) bA
 generalize gQ c ks=L at*
 match L,hn with
 | [x],_=>exact (acU (mi x (hw x (by simp)))).symm
 | x::y::L,_=>
  show aJ (.node 4 0 _)=_
  rw[lC]
end
end Go.AM
set_option maxRecDepth 100000
namespace Go.AM
open Go.Proofs
noncomputable def TC (C:ag) (dU:Int) (dV:Bool) (af aq:Int) (ae:List V):Option (List V):=
 bif dV then
  some [.int .i64 af,.int .i64 aq,.list aa ae]
 else
  (C tY [.int .i64 af,.int .i64 aq,.list aa ae]).bind fun r1=>
  some [.int .i64 ((V.nth r1 0).toInt),.int .i64 ((V.nth (r1.drop 1) 0).toInt),.list aa ((V.nth ((r1.drop 1).drop 1) 0).toList)]
theorem afC {dU:Int} {dV:Bool} {af aq:Int} {ae:List V} {r:Option (List V)} (h:TC CC dU dV af aq ae=r):CC z6 [.int .i64 dU,.bool dV,.int .i64 af,.int .i64 aq,.list aa ae]=r:=
 bc (key:=83) (L:=cf) (bs:=[]) (by kernel_rfl) ax (a9 (by kernel_rfl) h)
noncomputable abbrev TD:Code:=cJ Try.prog (ay.ba 68)
noncomputable def Bq (C:ag) (t21:List V) (t22 oK:Int) (oL:Bool) (en dB:Int) (cP:List V) (je jf qS qT:Int) (qU:Bool) (dS eE:List V) (Br t23:Int) (lF ft:List V) {β:Type} (kn:(Int × Int × (List V) × (List V))→Option β) (kr:(Int × Int × Bool × (List V) × (List V))→Option β):Option β:=
 bif decide ((t23:Int)<t22) then
  (idx t21 t23).bind fun x1=>
  (C mZ [.int .i64 oK,.bool oL,.int .i64 ((x1.cell 0).toInt),.int .i64 ((x1.cell 1).toInt),.list aa ((x1.cell 2).toList)]).bind fun r2=>
  bif (decide (0≤t23))&&(decide (t23<(lF.length:Int))) then
  (lF[(t23:Int).toNat]?).bind fun x3=>
  bif (decide (0≤t23))&&(decide (t23<(ft.length:Int))) then
   (ft[(t23:Int).toNat]?).bind fun x4=>
   bif (V.nth ((((((r2.drop 1).drop 1).drop 1).drop 1).drop 1).drop 1) 0).toBool then
   kn (IntKind.wrap .i64 (Br+1),IntKind.wrap .i64 (t23+1),lF.set ((t23:Int).toNat) (.agg [.int .i64 ((V.nth r2 0).toInt),.int .i64 ((V.nth (r2.drop 1) 0).toInt),.list aa ((V.nth ((r2.drop 1).drop 1) 0).toList)]),ft.set ((t23:Int).toNat) (.agg [.int .i64 ((V.nth (((r2.drop 1).drop 1).drop 1) 0).toInt),.int .i64 ((V.nth ((((r2.drop 1).drop 1).drop 1).drop 1) 0).toInt),.list aa ((V.nth (((((r2.drop 1).drop 1).drop 1).drop 1).drop 1) 0).toList)]))
   else
   kn (Br,IntKind.wrap .i64 (t23+1),lF.set ((t23:Int).toNat) (.agg [.int .i64 ((V.nth r2 0).toInt),.int .i64 ((V.nth (r2.drop 1) 0).toInt),.list aa ((V.nth ((r2.drop 1).drop 1) 0).toList)]),ft.set ((t23:Int).toNat) (.agg [.int .i64 ((V.nth (((r2.drop 1).drop 1).drop 1) 0).toInt),.int .i64 ((V.nth ((((r2.drop 1).drop 1).drop 1).drop 1) 0).toInt),.list aa ((V.nth (((((r2.drop 1).drop 1).drop 1).drop 1).drop 1) 0).toList)]))
  else none
  else none
 else
  kr (Br,t23,decide ((t23:Int)<t22),lF,ft)
noncomputable def FO (C:ag) (t21:List V) (t22 oK:Int) (oL:Bool) (en dB:Int) (cP:List V) (je jf qS qT:Int) (qU:Bool) (dS eE:List V):(Int × Int × (List V) × (List V))→Option ((Int × Int × (List V) × (List V)) ⊕ (Int × Int × Bool × (List V) × (List V))):=un fun Br=>un fun t23=>un fun lF ft=>Bq C t21 t22 oK oL en dB cP je jf qS qT qU dS eE Br t23 lF ft (fun y=>some (.inl y)) (fun r=>some (.inr r))
noncomputable def TE (C:ag):cz:=fun β n ds k=>
 bif Nat.beq n 65 then cb Jh [true,false,false,true,false,false,false,false,false,false,false,false,false,false,true,true,false,false] [[0,2,3,0,0,5,6,7,8,9,10,11,12,13,14,0,0,17,18]] (@Bq C) ds k else
 none
abbrev afD (C:ag) (b:ct):Prop:=cv Try.prog ay C (TE C) 68 (cL Try.prog (ay.ba 68)) (ay.sin 68).bh.length b
theorem afE (C:ag):afD C (.loop (aw [1,1,1,0,1,0,0] TD)):=
 ch Jh [true,false,false,true,false,false,false,false,false,false,false,false,false,false,true,true,false,false] [[0,2,3,0,0,5,6,7,8,9,10,11,12,13,14,0,0,17,18]] (@Bq C) (by kernel_rfl) (bq (bs:=[]) (by kernel_rfl) ax) (fun ds=>by kernel_rfl) (fun i x=>by kernel_rfl) (fun i x β k=>by kernel_rfl) (fun β ds k=>by kernel_rfl)
noncomputable def TF (C:ag) (dU:Int) (dV:Bool) (af aq:Int) (ae:List V):Option (List V):=
 bif (decide (0≤(ae.length:Int)))&&((decide ((ae.length:Int)≤(ae.length:Int)))&&(Nat.ble ((((ae.length:Int):Int).toNat)*40) bS)) then
  bif (decide (0≤(ae.length:Int)))&&((decide ((ae.length:Int)≤(ae.length:Int)))&&(Nat.ble ((((ae.length:Int):Int).toNat)*40) bS)) then
  (Loop (FO C ae (ae.length:Int) dU dV af aq ae 0 0 0 0 false ([]:List V) ([]:List V)) (0,0,List.replicate (((ae.length:Int):Int).toNat) (V.agg [.int .i64 0,.int .i64 0,.list aa ([]:List V)]),List.replicate (((ae.length:Int):Int).toNat) (V.agg [.int .i64 0,.int .i64 0,.list aa ([]:List V)]))).bind (un fun (Ll:Int)=>un fun (nf:Int)=>un fun (py:Bool)=>un fun (afF:List V) (afG:List V)=>
   (C kb [.int .i64 af,.list aa afF]).bind fun cR=>
   (C kb [.int .i64 af,.list aa afG]).bind fun ee=>
   bif (af:Int)==4 then
    some [.int .i64 ((V.nth cR 0).toInt),.int .i64 ((V.nth (cR.drop 1) 0).toInt),.list aa ((V.nth ((cR.drop 1).drop 1) 0).toList),.int .i64 ((V.nth ee 0).toInt),.int .i64 ((V.nth (ee.drop 1) 0).toInt),.list aa ((V.nth ((ee.drop 1).drop 1) 0).toList),.bool (decide ((Ll:Int)>0))]
   else
    bif (af:Int)==6 then
    some [.int .i64 ((V.nth cR 0).toInt),.int .i64 ((V.nth (cR.drop 1) 0).toInt),.list aa ((V.nth ((cR.drop 1).drop 1) 0).toList),.int .i64 ((V.nth ee 0).toInt),.int .i64 ((V.nth (ee.drop 1) 0).toInt),.list aa ((V.nth ((ee.drop 1).drop 1) 0).toList),.bool ((Ll:Int)==(ae.length:Int))]
    else
    bif (af:Int)==8 then
     some [.int .i64 ((V.nth cR 0).toInt),.int .i64 ((V.nth (cR.drop 1) 0).toInt),.list aa ((V.nth ((cR.drop 1).drop 1) 0).toList),.int .i64 ((V.nth ee 0).toInt),.int .i64 ((V.nth (ee.drop 1) 0).toInt),.list aa ((V.nth ((ee.drop 1).drop 1) 0).toList),.bool ((Ll:Int)==0)]
    else
     some [.int .i64 ((V.nth cR 0).toInt),.int .i64 ((V.nth (cR.drop 1) 0).toInt),.list aa ((V.nth ((cR.drop 1).drop 1) 0).toList),.int .i64 ((V.nth ee 0).toInt),.int .i64 ((V.nth (ee.drop 1) 0).toInt),.list aa ((V.nth ((ee.drop 1).drop 1) 0).toList),.bool false])
  else none
 else none
theorem afH {dU:Int} {dV:Bool} {af aq:Int} {ae:List V} {r:Option (List V)} (h:TF CC dU dV af aq ae=r):CC wD [.int .i64 dU,.bool dV,.int .i64 af,.int .i64 aq,.list aa ae]=r:=
 bc (key:=68) (L:=TE CC) (bs:=[.loop (aw [1,1,1,0,1,0,0] TD)]) (by kernel_rfl) (bD (afE CC) ax) (a9 (by kernel_rfl) h)
noncomputable abbrev FP:Code:=cJ Try.prog (ay.ba 70)
noncomputable def xS (C:ag) (t20:List V) (t21 oK:Int) (oL:Bool) (je jf qS qT:Int) (qU:Bool) (pG dS:List V) (sH:Bool) (t22:Int) (lF ft:List V) {β:Type} (kn:(Bool × Int × (List V) × (List V))→Option β) (kr:(Bool × Int × Bool × (List V) × (List V))→Option β):Option β:=
 bif decide ((t22:Int)<t21) then
  (idx t20 t22).bind fun x1=>
  bif !sH then
  (C z6 [.int .i64 oK,.bool oL,.int .i64 ((x1.cell 0).toInt),.int .i64 ((x1.cell 1).toInt),.list aa ((x1.cell 2).toList)]).bind fun r2=>
  bif (decide (0≤t22))&&(decide (t22<(ft.length:Int))) then
   (ft[(t22:Int).toNat]?).bind fun x3=>
   kn (sH,IntKind.wrap .i64 (t22+1),lF,ft.set ((t22:Int).toNat) (.agg [.int .i64 ((V.nth r2 0).toInt),.int .i64 ((V.nth (r2.drop 1) 0).toInt),.list aa ((V.nth ((r2.drop 1).drop 1) 0).toList)]))
  else none
  else
  (C mZ [.int .i64 oK,.bool oL,.int .i64 ((x1.cell 0).toInt),.int .i64 ((x1.cell 1).toInt),.list aa ((x1.cell 2).toList)]).bind fun r4=>
  bif Nat.ble ((lF.length+([.agg [.int .i64 ((V.nth r4 0).toInt),.int .i64 ((V.nth (r4.drop 1) 0).toInt),.list aa ((V.nth ((r4.drop 1).drop 1) 0).toList)]]:List V).length)*40) bS then
   bif (decide (0≤t22))&&(decide (t22<(ft.length:Int))) then
   (ft[(t22:Int).toNat]?).bind fun x5=>
   kn ((V.nth ((((((r4.drop 1).drop 1).drop 1).drop 1).drop 1).drop 1) 0).toBool,IntKind.wrap .i64 (t22+1),lF++([.agg [.int .i64 ((V.nth r4 0).toInt),.int .i64 ((V.nth (r4.drop 1) 0).toInt),.list aa ((V.nth ((r4.drop 1).drop 1) 0).toList)]]:List V),ft.set ((t22:Int).toNat) (.agg [.int .i64 ((V.nth (((r4.drop 1).drop 1).drop 1) 0).toInt),.int .i64 ((V.nth ((((r4.drop 1).drop 1).drop 1).drop 1) 0).toInt),.list aa ((V.nth (((((r4.drop 1).drop 1).drop 1).drop 1).drop 1) 0).toList)]))
   else none
  else none
 else
  kr (sH,t22,decide ((t22:Int)<t21),lF,ft)
noncomputable def Bs (C:ag) (t20:List V) (t21 oK:Int) (oL:Bool) (je jf qS qT:Int) (qU:Bool) (pG dS:List V):(Bool × Int × (List V) × (List V))→Option ((Bool × Int × (List V) × (List V)) ⊕ (Bool × Int × Bool × (List V) × (List V))):=un fun sH=>un fun t22=>un fun lF ft=>xS C t20 t21 oK oL je jf qS qT qU pG dS sH t22 lF ft (fun y=>some (.inl y)) (fun r=>some (.inr r))
noncomputable def Bt (C:ag) (sH:Bool) (t55 je jf qS qT:Int) (qU:Bool) (ft FQ pG dS:List V) (t56:Int) (gm:List V) {β:Type} (kn:(Int × (List V))→Option β) (kr:(Int × Bool × (List V))→Option β):Option β:=
 bif decide ((t56:Int)<t55) then
  bif (decide (0≤t56))&&(decide (t56<(FQ.length:Int))) then
  (FQ[(t56:Int).toNat]?).bind fun eT=>
  bif (((eT.cell 0).toInt):Int)==1 then
   bif (decide (0≤t56))&&(decide (t56<(gm.length:Int))) then
   (gm[(t56:Int).toNat]?).bind fun mh=>
   kn (IntKind.wrap .i64 (t56+1),gm.set ((t56:Int).toNat) (.agg [.int .i64 ((eT.cell 0).toInt),.int .i64 ((eT.cell 1).toInt),.list aa ((eT.cell 2).toList)]))
   else none
  else
   bif (decide (0≤(IntKind.wrap .i64 (t56+1))))&&(decide ((IntKind.wrap .i64 (t56+1))≤(ft.length:Int))) then
   bif Nat.ble ((([.agg [.int .i64 ((eT.cell 0).toInt),.int .i64 ((eT.cell 1).toInt),.list aa ((eT.cell 2).toList)]]:List V).length+((ft.drop ((IntKind.wrap .i64 (t56+1):Int).toNat)).take (ft.length-((IntKind.wrap .i64 (t56+1):Int).toNat))).length)*40) bS then
    (C kb [.int .i64 5,.list aa (([.agg [.int .i64 ((eT.cell 0).toInt),.int .i64 ((eT.cell 1).toInt),.list aa ((eT.cell 2).toList)]]:List V)++((ft.drop ((IntKind.wrap .i64 (t56+1):Int).toNat)).take (ft.length-((IntKind.wrap .i64 (t56+1):Int).toNat))))]).bind fun ia=>
    bif (decide (0≤t56))&&(decide (t56<(gm.length:Int))) then
    (gm[(t56:Int).toNat]?).bind fun nr=>
    kn (IntKind.wrap .i64 (t56+1),gm.set ((t56:Int).toNat) (.agg [.int .i64 ((V.nth ia 0).toInt),.int .i64 ((V.nth (ia.drop 1) 0).toInt),.list aa ((V.nth ((ia.drop 1).drop 1) 0).toList)]))
    else none
   else none
   else none
  else none
 else
  kr (t56,decide ((t56:Int)<t55),gm)
noncomputable def FR (C:ag) (sH:Bool) (t55 je jf qS qT:Int) (qU:Bool) (ft FQ pG dS:List V):(Int × (List V))→Option ((Int × (List V)) ⊕ (Int × Bool × (List V))):=un fun t56 gm=>Bt C sH t55 je jf qS qT qU ft FQ pG dS t56 gm (fun y=>some (.inl y)) (fun r=>some (.inr r))
noncomputable def TG (C:ag):cz:=fun β n ds k=>
 bif Nat.beq n 81 then cb Ji [true,false,false,true,false,false,false,false,false,false,false,true,true,false,false] [[0,2,3,0,0,5,6,7,8,9,10,11,0,0,14,15]] (@xS C) ds k else
 bif Nat.beq n 225 then cb Jj [false,false,true,false,false,false,false,false,false,true,false,false,false] [[1,2,0,0,4,5,6,7,8,9,0,11,12,13]] (@Bt C) ds k else
 none
abbrev TH (C:ag) (b:ct):Prop:=cv Try.prog ay C (TG C) 70 (cL Try.prog (ay.ba 70)) (ay.sin 70).bh.length b
theorem afI (C:ag):TH C (.loop (aw [1,1,1,1,0,1,0,0] FP)):=
 ch Ji [true,false,false,true,false,false,false,false,false,false,false,true,true,false,false] [[0,2,3,0,0,5,6,7,8,9,10,11,0,0,14,15]] (@xS C) (by kernel_rfl) (bq (bs:=[]) (by kernel_rfl) ax) (fun ds=>by kernel_rfl) (fun i x=>by kernel_rfl) (fun i x β k=>by kernel_rfl) (fun β ds k=>by kernel_rfl)
theorem afJ (C:ag):TH C (.loop (aw [1,1,1,1,1,1,0,1,0,0] FP)):=
 ch Jj [false,false,true,false,false,false,false,false,false,true,false,false,false] [[1,2,0,0,4,5,6,7,8,9,0,11,12,13]] (@Bt C) (by kernel_rfl) (bq (bs:=[]) (by kernel_rfl) ax) (fun ds=>by kernel_rfl) (fun i x=>by kernel_rfl) (fun i x β k=>by kernel_rfl) (fun β ds k=>by kernel_rfl)
noncomputable def TI (C:ag) (dU:Int) (dV:Bool) (af aq:Int) (ae:List V):Option (List V):=
 bif (decide (0≤(ae.length:Int)))&&((decide ((ae.length:Int)≤(ae.length:Int)))&&(Nat.ble ((((ae.length:Int):Int).toNat)*40) bS)) then
  (Loop (Bs C ae (ae.length:Int) dU dV 0 0 0 0 false ([]:List V) ([]:List V)) (true,0,([]:List V),List.replicate (((ae.length:Int):Int).toNat) (V.agg [.int .i64 0,.int .i64 0,.list aa ([]:List V)]))).bind (un fun (TJ:Bool)=>un fun (py:Int)=>un fun (Qi:Bool)=>un fun (uW:List V) (TK:List V)=>
   bif (decide (0≤(uW.length:Int)))&&((decide ((uW.length:Int)≤(uW.length:Int)))&&(Nat.ble ((((uW.length:Int):Int).toNat)*40) bS)) then
   (Loop (FR C TJ (uW.length:Int) 0 0 0 0 false TK uW ([]:List V) ([]:List V)) (0,List.replicate (((uW.length:Int):Int).toNat) (V.agg [.int .i64 0,.int .i64 0,.list aa ([]:List V)]))).bind (un fun (wU:Int)=>un fun (Ka:Bool) (afK:List V)=>
    (C kb [.int .i64 4,.list aa afK]).bind fun jJ=>
    (C kb [.int .i64 5,.list aa TK]).bind fun dE=>
    some [.int .i64 ((V.nth jJ 0).toInt),.int .i64 ((V.nth (jJ.drop 1) 0).toInt),.list aa ((V.nth ((jJ.drop 1).drop 1) 0).toList),.int .i64 ((V.nth dE 0).toInt),.int .i64 ((V.nth (dE.drop 1) 0).toInt),.list aa ((V.nth ((dE.drop 1).drop 1) 0).toList),.bool TJ])
   else none)
 else none
theorem afL {dU:Int} {dV:Bool} {af aq:Int} {ae:List V} {r:Option (List V)} (h:TI CC dU dV af aq ae=r):CC wE [.int .i64 dU,.bool dV,.int .i64 af,.int .i64 aq,.list aa ae]=r:=
 bc (key:=70) (L:=TG CC) (bs:=[.loop (aw [1,1,1,1,0,1,0,0] FP),.loop (aw [1,1,1,1,1,1,0,1,0,0] FP)]) (by kernel_rfl) (bD (afI CC) (bD (afJ CC) ax)) (a9 (by kernel_rfl) h)
noncomputable abbrev FT:Code:=cJ Try.prog (ay.ba 50)
noncomputable def FU (C:ag) (t24:Bool) (en dB:Int) (cP:List V) (je jf qS qT:Int) (qU:Bool) (afM Lm afN afO:Int) (pG dS eE uw:List V) {β:Type} (kr:(Int × Int × (List V))→Option β):Option β:=
 bif t24 then
  kr (afN,afO,uw)
 else
  kr (afM,Lm,eE)
noncomputable def TL (C:ag):cz:=fun β n ds k=>
 bif Nat.beq n 399 then iJ I8 [[2,3,4,5,6,7,8,9,0,0,14,15,0]] (@FU C) ds k else
 none
abbrev afP (C:ag) (b:ct):Prop:=cv Try.prog ay C (TL C) 50 (cL Try.prog (ay.ba 50)) (ay.sin 50).bh.length b
theorem afQ (C:ag):afP C (.cond 24 (aw [1,1,0,1,0,1,1,1,0,0,1,0] FT) (aw [1,1,0,1,0,1,1,1,0,0,1,1] FT)):=
 iZ I8 [[2,3,4,5,6,7,8,9,0,0,14,15,0]] (@FU C) (by kernel_rfl) (bq (bs:=[]) (by kernel_rfl) ax) (bq (bs:=[]) (by kernel_rfl) ax) (fun ds=>by kernel_rfl) (fun i β k=>by kernel_rfl) (fun β ds k=>by kernel_rfl)
noncomputable def TM (C:ag) (dU:Int) (dV:Bool) (af aq:Int) (ae:List V):Option (List V):=
 bif (af:Int)==2 then
  some [.int .i64 1,.int .i64 0,.list aa ([]:List V),.int .i64 2,.int .i64 0,.list aa ([]:List V),.bool true]
 else
  bif (af:Int)==3 then
  FU C ((aq:Int)==dU) af aq ae 0 0 0 0 false 1 0 2 0 ([]:List V) ([]:List V) ([]:List V) ([]:List V) (un fun (Lm:Int)=>un fun (afR:Int) (FV:List V)=>
   some [.int .i64 Lm,.int .i64 afR,.list aa FV,.int .i64 3,.int .i64 aq,.list aa ([]:List V),.bool false])
  else
  bif (af:Int)==4 then
   bif (af:Int)==4 then
   (C wD [.int .i64 dU,.bool dV,.int .i64 af,.int .i64 aq,.list aa ae]).bind fun r4=>
   some [.int .i64 ((V.nth r4 0).toInt),.int .i64 ((V.nth (r4.drop 1) 0).toInt),.list aa ((V.nth ((r4.drop 1).drop 1) 0).toList),.int .i64 ((V.nth (((r4.drop 1).drop 1).drop 1) 0).toInt),.int .i64 ((V.nth ((((r4.drop 1).drop 1).drop 1).drop 1) 0).toInt),.list aa ((V.nth (((((r4.drop 1).drop 1).drop 1).drop 1).drop 1) 0).toList),.bool ((V.nth ((((((r4.drop 1).drop 1).drop 1).drop 1).drop 1).drop 1) 0).toBool)]
   else
   bif (af:Int)==7 then
    (ae[0]?).bind fun x5=>
    (C mZ [.int .i64 dU,.bool dV,.int .i64 ((x5.cell 0).toInt),.int .i64 ((x5.cell 1).toInt),.list aa ((x5.cell 2).toList)]).bind fun r6=>
    (C kb [.int .i64 7,.list aa ([.agg [.int .i64 ((V.nth (((r6.drop 1).drop 1).drop 1) 0).toInt),.int .i64 ((V.nth ((((r6.drop 1).drop 1).drop 1).drop 1) 0).toInt),.list aa ((V.nth (((((r6.drop 1).drop 1).drop 1).drop 1).drop 1) 0).toList)]]:List V)]).bind fun r7=>
    (C kb [.int .i64 5,.list aa ([.agg [.int .i64 ((V.nth r6 0).toInt),.int .i64 ((V.nth (r6.drop 1) 0).toInt),.list aa ((V.nth ((r6.drop 1).drop 1) 0).toList)],.agg [.int .i64 ((V.nth r7 0).toInt),.int .i64 ((V.nth (r7.drop 1) 0).toInt),.list aa ((V.nth ((r7.drop 1).drop 1) 0).toList)]]:List V)]).bind fun r8=>
    some [.int .i64 ((V.nth r8 0).toInt),.int .i64 ((V.nth (r8.drop 1) 0).toInt),.list aa ((V.nth ((r8.drop 1).drop 1) 0).toList),.int .i64 ((V.nth r7 0).toInt),.int .i64 ((V.nth (r7.drop 1) 0).toInt),.list aa ((V.nth ((r7.drop 1).drop 1) 0).toList),.bool true]
   else
    bif (af:Int)==5 then
    (C wE [.int .i64 dU,.bool dV,.int .i64 af,.int .i64 aq,.list aa ae]).bind fun r9=>
    some [.int .i64 ((V.nth r9 0).toInt),.int .i64 ((V.nth (r9.drop 1) 0).toInt),.list aa ((V.nth ((r9.drop 1).drop 1) 0).toList),.int .i64 ((V.nth (((r9.drop 1).drop 1).drop 1) 0).toInt),.int .i64 ((V.nth ((((r9.drop 1).drop 1).drop 1).drop 1) 0).toInt),.list aa ((V.nth (((((r9.drop 1).drop 1).drop 1).drop 1).drop 1) 0).toList),.bool ((V.nth ((((((r9.drop 1).drop 1).drop 1).drop 1).drop 1).drop 1) 0).toBool)]
    else
    some [.int .i64 1,.int .i64 0,.list aa ([]:List V),.int .i64 1,.int .i64 0,.list aa ([]:List V),.bool false]
  else
   bif (af:Int)==6 then
   bif (af:Int)==6 then
    (C wD [.int .i64 dU,.bool dV,.int .i64 af,.int .i64 aq,.list aa ae]).bind fun cR=>
    some [.int .i64 ((V.nth cR 0).toInt),.int .i64 ((V.nth (cR.drop 1) 0).toInt),.list aa ((V.nth ((cR.drop 1).drop 1) 0).toList),.int .i64 ((V.nth (((cR.drop 1).drop 1).drop 1) 0).toInt),.int .i64 ((V.nth ((((cR.drop 1).drop 1).drop 1).drop 1) 0).toInt),.list aa ((V.nth (((((cR.drop 1).drop 1).drop 1).drop 1).drop 1) 0).toList),.bool ((V.nth ((((((cR.drop 1).drop 1).drop 1).drop 1).drop 1).drop 1) 0).toBool)]
   else
    bif (af:Int)==7 then
    (ae[0]?).bind fun eT=>
    (C mZ [.int .i64 dU,.bool dV,.int .i64 ((eT.cell 0).toInt),.int .i64 ((eT.cell 1).toInt),.list aa ((eT.cell 2).toList)]).bind fun gq=>
    (C kb [.int .i64 7,.list aa ([.agg [.int .i64 ((V.nth (((gq.drop 1).drop 1).drop 1) 0).toInt),.int .i64 ((V.nth ((((gq.drop 1).drop 1).drop 1).drop 1) 0).toInt),.list aa ((V.nth (((((gq.drop 1).drop 1).drop 1).drop 1).drop 1) 0).toList)]]:List V)]).bind fun ia=>
    (C kb [.int .i64 5,.list aa ([.agg [.int .i64 ((V.nth gq 0).toInt),.int .i64 ((V.nth (gq.drop 1) 0).toInt),.list aa ((V.nth ((gq.drop 1).drop 1) 0).toList)],.agg [.int .i64 ((V.nth ia 0).toInt),.int .i64 ((V.nth (ia.drop 1) 0).toInt),.list aa ((V.nth ((ia.drop 1).drop 1) 0).toList)]]:List V)]).bind fun jD=>
    some [.int .i64 ((V.nth jD 0).toInt),.int .i64 ((V.nth (jD.drop 1) 0).toInt),.list aa ((V.nth ((jD.drop 1).drop 1) 0).toList),.int .i64 ((V.nth ia 0).toInt),.int .i64 ((V.nth (ia.drop 1) 0).toInt),.list aa ((V.nth ((ia.drop 1).drop 1) 0).toList),.bool true]
    else
    bif (af:Int)==5 then
     (C wE [.int .i64 dU,.bool dV,.int .i64 af,.int .i64 aq,.list aa ae]).bind fun nt=>
     some [.int .i64 ((V.nth nt 0).toInt),.int .i64 ((V.nth (nt.drop 1) 0).toInt),.list aa ((V.nth ((nt.drop 1).drop 1) 0).toList),.int .i64 ((V.nth (((nt.drop 1).drop 1).drop 1) 0).toInt),.int .i64 ((V.nth ((((nt.drop 1).drop 1).drop 1).drop 1) 0).toInt),.list aa ((V.nth (((((nt.drop 1).drop 1).drop 1).drop 1).drop 1) 0).toList),.bool ((V.nth ((((((nt.drop 1).drop 1).drop 1).drop 1).drop 1).drop 1) 0).toBool)]
    else
     some [.int .i64 1,.int .i64 0,.list aa ([]:List V),.int .i64 1,.int .i64 0,.list aa ([]:List V),.bool false]
   else
   bif (af:Int)==8 then
    (C wD [.int .i64 dU,.bool dV,.int .i64 af,.int .i64 aq,.list aa ae]).bind fun pF=>
    some [.int .i64 ((V.nth pF 0).toInt),.int .i64 ((V.nth (pF.drop 1) 0).toInt),.list aa ((V.nth ((pF.drop 1).drop 1) 0).toList),.int .i64 ((V.nth (((pF.drop 1).drop 1).drop 1) 0).toInt),.int .i64 ((V.nth ((((pF.drop 1).drop 1).drop 1).drop 1) 0).toInt),.list aa ((V.nth (((((pF.drop 1).drop 1).drop 1).drop 1).drop 1) 0).toList),.bool ((V.nth ((((((pF.drop 1).drop 1).drop 1).drop 1).drop 1).drop 1) 0).toBool)]
   else
    bif (af:Int)==7 then
    (ae[0]?).bind fun qL=>
    (C mZ [.int .i64 dU,.bool dV,.int .i64 ((qL.cell 0).toInt),.int .i64 ((qL.cell 1).toInt),.list aa ((qL.cell 2).toList)]).bind fun jJ=>
    (C kb [.int .i64 7,.list aa ([.agg [.int .i64 ((V.nth (((jJ.drop 1).drop 1).drop 1) 0).toInt),.int .i64 ((V.nth ((((jJ.drop 1).drop 1).drop 1).drop 1) 0).toInt),.list aa ((V.nth (((((jJ.drop 1).drop 1).drop 1).drop 1).drop 1) 0).toList)]]:List V)]).bind fun dE=>
    (C kb [.int .i64 5,.list aa ([.agg [.int .i64 ((V.nth jJ 0).toInt),.int .i64 ((V.nth (jJ.drop 1) 0).toInt),.list aa ((V.nth ((jJ.drop 1).drop 1) 0).toList)],.agg [.int .i64 ((V.nth dE 0).toInt),.int .i64 ((V.nth (dE.drop 1) 0).toInt),.list aa ((V.nth ((dE.drop 1).drop 1) 0).toList)]]:List V)]).bind fun hZ=>
    some [.int .i64 ((V.nth hZ 0).toInt),.int .i64 ((V.nth (hZ.drop 1) 0).toInt),.list aa ((V.nth ((hZ.drop 1).drop 1) 0).toList),.int .i64 ((V.nth dE 0).toInt),.int .i64 ((V.nth (dE.drop 1) 0).toInt),.list aa ((V.nth ((dE.drop 1).drop 1) 0).toList),.bool true]
    else
    bif (af:Int)==5 then
     (C wE [.int .i64 dU,.bool dV,.int .i64 af,.int .i64 aq,.list aa ae]).bind fun oI=>
     some [.int .i64 ((V.nth oI 0).toInt),.int .i64 ((V.nth (oI.drop 1) 0).toInt),.list aa ((V.nth ((oI.drop 1).drop 1) 0).toList),.int .i64 ((V.nth (((oI.drop 1).drop 1).drop 1) 0).toInt),.int .i64 ((V.nth ((((oI.drop 1).drop 1).drop 1).drop 1) 0).toInt),.list aa ((V.nth (((((oI.drop 1).drop 1).drop 1).drop 1).drop 1) 0).toList),.bool ((V.nth ((((((oI.drop 1).drop 1).drop 1).drop 1).drop 1).drop 1) 0).toBool)]
    else
     some [.int .i64 1,.int .i64 0,.list aa ([]:List V),.int .i64 1,.int .i64 0,.list aa ([]:List V),.bool false]
theorem afS {dU:Int} {dV:Bool} {af aq:Int} {ae:List V} {r:Option (List V)} (h:TM CC dU dV af aq ae=r):CC mZ [.int .i64 dU,.bool dV,.int .i64 af,.int .i64 aq,.list aa ae]=r:=
 bc (key:=50) (L:=TL CC) (bs:=[.cond 24 (aw [1,1,0,1,0,1,1,1,0,0,1,0] FT) (aw [1,1,0,1,0,1,1,1,0,0,1,1] FT)]) (by kernel_rfl) (bD (afQ CC) ax) (a9 (by kernel_rfl) h)
end Go.AM
set_option maxRecDepth 100000
namespace Go.AM
open Go.Proofs Ex
def qV (c:Int) (e:Ex):List V:=bG (aJ (bC c e)) (bG (aJ e) [.bool e.cE])
abbrev zE:V:= .agg [.int .i64 0,.int .i64 0,.list aa ([]:List V)]
theorem sI {α:Type} {A:List V} {n:Nat} {z:V} {i:Nat} (h:i=A.length) {K:V→Option α}:(bif (decide (0≤(i:Int)))&&(decide ((i:Int)<((A++List.replicate (n+1) z).length:Int))) then ((A++List.replicate (n+1) z)[((i:Int)).toNat]?).bind K else none)=K z:=by
 refine sE ?_
 rw[h,ik (bZ _)]
 simp
theorem sJ {A:List V} {n:Nat} {z v:V} {i:Nat} (h:i=A.length):(A++List.replicate (n+1) z).set i v=A++[v]++List.replicate n z:=by
 rw[List.replicate_succ,Tt _ _ _ _ h]
theorem afT (a:Ex):V.agg [.int .i64 a.op,.int .i64 a.aY,.list aa (a.kids.map enc)]=a.enc:=(dc a).symm
theorem Ln {c:Int} {e:Ex} (hw:e.wf 6=true):(aJ (bC c e)).size≤e.size*e.size:=
 kS (xj _ (sF e hw)) (Lk e 6 hw)
theorem Bu {a m:Nat} (h:a≤m):a*a≤m*m:=Nat.mul_le_mul h h
theorem TN {e:Ex} (hw:e.wf 6=true) (hs:e.size≤1000000):Gd 6 (aJ e)∧(aJ e).Ok∧(aJ e).size≤e.size:=by
 have h1:=mi e hw
 have U:=xj e hw
 exact ⟨h1,qK (by omega) _ h1.2 (by omega),U⟩
def mr (c:Int):List Ex→List Ex
 | []=>[]
 | k::ks=>aJ (bC c k)::(if k.cE=true then mr c ks else [])
def Bv (ss:List Ex):Nat→List Ex→List Ex
 | _,[]=>[]
 | i,d::ds=>(if d.op=1 then d else dD 5 0 (d::ss.drop (i+1)))::Bv ss (i+1) ds
theorem TO {c:Int}: ∀(ks pre:List Ex),Bv ((pre++ks).map aJ) pre.length (mr c ks)=sG c ks
 | [],pre=>rfl
 | k::ks,pre=>by
  have ih:=TO (c:=c) ks (pre++[k])
  have e1:((pre++k::ks).map aJ).drop (pre.length+1)=ks.map aJ:=by
   rw[eP,cw,show pre.length+1=(pre.map aJ++[aJ k]).length by simp,show pre.map aJ++aJ k::ks.map aJ=(pre.map aJ++[aJ k])++ks.map aJ by simp,List.drop_left]
  unfold mr sG Bv FN
  rw[e1]
  refine congrArg _ ?_
  split
  ·rw[←ih];simp
  ·rfl
theorem TP {c:Int}: ∀ks:List Ex,(mr c ks).length≤ks.length
 | []=>bZ _
 | k::ks=>by
  have:=TP (c:=c) ks
  unfold mr
  split<;>simp<;>omega
theorem TQ {c:Int}: ∀{ks:List Ex} {d:Ex},d∈mr c ks→∃k∈ks,d=aJ (bC c k)
 | k::ks,d,h=>by
  unfold mr at h
  rcases dg.1 h with rfl|h
  ·exact ⟨k,by simp,rfl⟩
  ·split at h
   ·obtain ⟨x,hx,e⟩:=TQ h
    exact ⟨x,by simp[hx],e⟩
   ·cases h
theorem Lo: ∀{ks:List Ex},(∀k∈ks,k.wf 6=true)→aI (ks.map aJ)≤aI ks
 | [],_=>by simp[aI]
 | k::ks,h=>by
  have a:=xj k (h k (by simp))
  have b:=Lo (ks:=ks) fun k hk=>h k (by simp[hk])
  simp only[cw,aI];omega
theorem Lp {ks:List Ex} {f:Ex→Ex} (h: ∀k∈ks,Gd 6 (f k)∧(f k).Ok):(∀k∈ks.map f,Gd 6 k)∧∀k∈ks.map f,k.Ok:=
 ⟨fun x hx=>by obtain ⟨k,hk,rfl⟩:=fY.1 hx;exact (h k hk).1,fun x hx=>by obtain ⟨k,hk,rfl⟩:=fY.1 hx;exact (h k hk).2⟩
theorem xT {n:Nat} (h:n≤1000000):Nat.ble (n*40) bS=true:=by rw[dm,kg];omega
theorem FW {n:Nat} (h:n≤1000000):((decide (0≤(n:Int)))&&((decide ((n:Int)≤(n:Int)))&&(Nat.ble (((n:Int).toNat)*40) bS)))=true:=afu (by omega) (by omega)
def kQ (ks:List Ex):Nat:=(ks.filter Ex.cE).length
section
variable {c:Int} {nm:Bool} {ks:List Ex}
variable (hn:ks.length≤1000) (ih: ∀k∈ks,CC mZ (.int .i64 c:: .bool nm::bG k [])=some (qV c k))
include hn ih
theorem afU {a b c1 c2 c3 c4:Int} {b1:Bool} {l1 l2 l3:List V}: ∀(av pre:List Ex),ks=pre++av→
  Loop (FO CC (ks.map enc) (ks.length:Int) c nm a b l1 c1 c2 c3 c4 b1 l2 l3) (((kQ pre:Nat):Int),((pre.length:Nat):Int),(pre.map fun k=>aJ (bC c k)).map enc++List.replicate av.length zE,(pre.map aJ).map enc++List.replicate av.length zE)
   = some (((kQ ks:Nat):Int),(ks.length:Int),false,(ks.map fun k=>aJ (bC c k)).map enc,(ks.map aJ).map enc):=by
 intro av
 induction av with
 | nil=>
  intro pre e
  rw[cU] at e
  subst e
  refine aX ?_
  simp only[FO,Bq,un]
  rw[az,ai (by omega),cV (by omega)]
  simp
 | cons k av et=>
  intro pre e
  have bQ:pre.length<ks.length:=by rw[e];simp
  have bV:idx (ks.map enc) (pre.length:Int)=some k.enc:=by rw[e];exact fT _ _ _
  refine (bR ?_).trans (et (pre++[k]) (by simp[e]))
  simp only[FO,Bq,un]
  refine bT (uV bQ) (bs bV ?_)
  rw[aZ,bj,bd]
  refine bs (ih k (by rw[e];simp)) ?_
  refine (sI (by simp)).trans ?_
  refine (sI (by simp)).trans ?_
  rw[Int.toNat_natCast]
  have hc:kQ (pre++[k])=kQ pre+(if k.cE=true then 1 else 0):=by
   unfold kQ
   rw[mC,bU]
   cases hk:k.cE<;>simp[hk]
  have kI:kQ pre≤pre.length:=sQ _ _
  have rC:pre.length=((pre.map fun k=>aJ (bC c k)).map enc).length:=by simp
  have ji:pre.length=((pre.map aJ).map enc).length:=by simp
  rw[List.length_cons,sJ rC,sJ ji]
  cases hk:k.cE with
  | true=>
   refine bT hk ?_
   rw[nC (by omega),nC (by omega),hc,hk]
   simp only[cF,eP,cw,fK,bU,List.length_cons,List.length_nil]
   rw[dc (aJ (bC c k)),dc (aJ k)]
   rfl
  | false=>
   refine bF hk ?_
   rw[nC (by omega),hc,hk]
   simp only[ai B9,eP,cw,fK,bU,List.length_cons,List.length_nil]
   rw[dc (aJ (bC c k)),dc (aJ k)]
   rfl
theorem afV {c1 c2 c3 c4:Int} {b1:Bool} {l1 l2:List V} (hs: ∀k∈ks,CC z6 (.int .i64 c:: .bool nm::bG k [])=some (eo (aJ k))): ∀(av pre B:List Ex) (b:Bool),ks=pre++av→B.length≤pre.length→
  Loop (Bs CC (ks.map enc) (ks.length:Int) c nm c1 c2 c3 c4 b1 l1 l2) (b,((pre.length:Nat):Int),B.map enc,(pre.map aJ).map enc++List.replicate av.length zE)
   = some (b&&av.all Ex.cE,(ks.length:Int),false,(B++(if b=true then mr c av else [])).map enc,(ks.map aJ).map enc):=by
 intro av
 induction av with
 | nil=>
  intro pre B b e hB
  rw[cU] at e
  subst e
  refine aX ?_
  simp only[Bs,xS,un]
  rw[az,ai (by omega),cV (by omega)]
  simp[mr]
 | cons k av et=>
  intro pre B b e hB
  have bQ:pre.length<ks.length:=by rw[e];simp
  have bV:idx (ks.map enc) (pre.length:Int)=some k.enc:=by rw[e];exact fT _ _ _
  have ji:pre.length=((pre.map aJ).map enc).length:=by simp
  cases b with
  | false=>
   refine (bR ?_).trans (et (pre++[k]) B false (by simp[e]) (by simp;omega))
   simp only[Bs,xS,un]
   refine bT (uV bQ) (bs bV (bT rfl ?_))
   rw[aZ,bj,bd]
   refine bs (hs k (by rw[e];simp)) ?_
   refine (sI (by simp)).trans ?_
   rw[Int.toNat_natCast,List.length_cons,sJ ji,nC (by omega)]
   simp only[eP,cw,fK,bU,List.length_cons,List.length_nil]
   rw[dc (aJ k)]
   rfl
  | true=>
   refine ((bR ?_).trans (et (pre++[k]) (B++[aJ (bC c k)]) k.cE (by simp[e]) (by simp;omega))).trans ?_
   ·simp only[Bs,xS,un]
    refine bT (uV bQ) (bs bV (bF rfl ?_))
    rw[aZ,bj,bd]
    refine bs (ih k (by rw[e];simp)) ?_
    refine bT (xT (by simp;omega)) ?_
    refine (sI (by simp)).trans ?_
    rw[Int.toNat_natCast,List.length_cons,sJ ji,nC (by omega)]
    simp only[eP,cw,fK,bU,List.length_cons,List.length_nil]
    rw[dc (aJ k),dc (aJ (bC c k))]
    rfl
   ·simp only[lH,List.all_cons,cF]
    rw[show mr c (k::av)=aJ (bC c k)::(if k.cE=true then mr c av else []) from rfl,cj]
    rfl
end
theorem afW {ss D:List Ex} {b b1:Bool} {c1 c2 c3 c4:Int} {l1 l2:List V} (hD:D.length≤ss.length) (hss:ss.length≤1000) (hd: ∀d∈D,Gd 6 d∧d.Ok∧d.size≤500000) (hsg: ∀k∈ss,Gd 6 k∧k.Ok) (aT:aI ss≤500000): ∀(av pre P:List Ex),D=pre++av→P.length=pre.length→
  Loop (FR CC b (D.length:Int) c1 c2 c3 c4 b1 (ss.map enc) (D.map enc) l1 l2) (((pre.length:Nat):Int),P.map enc++List.replicate av.length zE)
   = some ((D.length:Int),false,(P++Bv ss pre.length av).map enc):=by
 intro av
 induction av with
 | nil=>
  intro pre P e hP
  rw[cU] at e
  subst e
  refine aX ?_
  simp only[FR,Bt,un]
  rw[az,ai (by omega),cV (by omega)]
  simp[Bv]
 | cons d av et=>
  intro pre P e hP
  have bQ:pre.length<D.length:=by rw[e];simp
  have hm:d∈D:=by rw[e];simp
  have bV:(D.map enc)[pre.length]? =some d.enc:=by rw[e];simp
  have ji:pre.length=(P.map enc).length:=by simp[hP]
  refine ((bR ?_).trans (et (pre++[d]) (P++[if d.op=1 then d else dD 5 0 (d::ss.drop (pre.length+1))]) (by simp[e]) (by simp[hP]))).trans ?_
  ·simp only[FR,Bt,un]
   refine bT (uV bQ) ?_
   refine (sE bV).trans ?_
   rw[aZ,bj,bd,db]
   by_cases h1:d.op=1
   ·rw[aj h1,aj h1]
    refine (sI ji).trans ?_
    rw[Int.toNat_natCast,List.length_cons,sJ ji,nC (by omega)]
    simp only[eP,cw,fK,bU,List.length_cons,List.length_nil]
    rw[dc d]
   ·rw[ai h1,ai h1,nC (by omega),Int.toNat_natCast,aP]
    refine bT (sR.2 ⟨dM (by omega),dM (by omega)⟩) ?_
    have ht:((ss.map enc).drop (pre.length+1)).take (ss.length-(pre.length+1))=(ss.drop (pre.length+1)).map enc:=by
     rw[←List.map_drop,yq (by simp)]
    rw[ht]
    refine bT (xT (by simp;omega)) ?_
    have hg: ∀k∈d::ss.drop (pre.length+1),Gd 6 k∧k.Ok:=fun k hk=>by
     rcases dg.1 hk with rfl|hk
     ·exact ⟨(hd _ hm).1,(hd _ hm).2.1⟩
     ·exact hsg k (List.mem_of_mem_drop hk)
    have hz:aI (d::ss.drop (pre.length+1))≤1000000:=by
     have h1:=(hd d hm).2.2
     have U:=Fe (ss.take (pre.length+1)) (ss.drop (pre.length+1))
     rw[B1] at U
     simp only[aI];omega
    rw[Lg,←eP]
    refine bs (qR (o:=5) (fun k hk=>(hg k hk).1) (fun k hk=>(hg k hk).2) hz (by omega)) ?_
    refine (sI ji).trans ?_
    rw[Int.toNat_natCast,List.length_cons,sJ ji]
    simp only[eP,cw,fK,bU,List.length_cons,List.length_nil]
    rw[dc (dD 5 0 (d::ss.drop (pre.length+1)))]
    rfl
  ·rw[bU,cj]
   rfl
theorem TR: ∀ks:List Ex,lB ks=ks.all Ex.cE
 | []=>rfl
 | k::ks=>by simp[lB,TR ks]
theorem TS: ∀ks:List Ex,kh ks=decide ((kQ ks:Int)>0)
 | []=>by simp[kh,kQ]
 | k::ks=>by
  have:=TS ks
  unfold kQ at*
  cases hk:k.cE
  ·simp[kh,hk,this]
  ·simp[kh,hk]
theorem TT: ∀ks:List Ex,lB ks=((kQ ks:Int)==(ks.length:Int))
 | []=>by simp[lB,kQ]
 | k::ks=>by
  have h:=TT ks
  have hl:kQ ks≤ks.length:=sQ _ _
  unfold kQ at*
  rw[lB,h,oQ]
  cases hk:k.cE
  ·simp[hk];omega
  ·simp[hk]
theorem TU {c:Int} {nm:Bool}: ∀e:Ex,e.wf 6=true→e.size≤400→(nm=true→Gd 6 e)→CC mZ (.int .i64 c:: .bool nm::bG e [])=some (qV c e):=
 ind fun o l ks ih hw hs kW=>by
  obtain ⟨h1,U⟩:=gn hw
  have hl:=ki ks
  have FX:aI ks≤399:=by simp only[size] at hs;omega
  have uX: ∀k∈ks,k.size≤399:=fun k hk=>kS (sn hk) FX
  have gD: ∀k∈ks,CC mZ (.int .i64 c:: .bool nm::bG k [])=some (qV c k):=fun k hk=>ih k hk (U k hk) (by have:=uX k hk;omega) fun h=>(kW h).kids k hk
  have hsm: ∀k∈ks,CC z6 (.int .i64 c:: .bool nm::bG k [])=some (eo (aJ k)):=fun k hk=>by
   refine afC ?_
   unfold TC
   cases nm with
   | true=>refine bT rfl ?_;rw[RF k ((kW rfl).kids k hk)];rfl
   | false=>
    refine bF rfl ?_
    have:=uX k hk
    exact bs (Tu (n:=6) (by omega) k (U k hk) (by omega)) rfl
  have dJ: ∀k∈ks,(aJ (bC c k)).size≤160000:=fun k hk=>by
   have a:=Ln (c:=c) (U k hk)
   have b:=Bu (uX k hk)
   omega
  have Bw: ∀k∈ks,Gd 6 (aJ (bC c k))∧(aJ (bC c k)).Ok:=fun k hk=>by
   have a:=mi _ (sF (c:=c) k (U k hk))
   have b:=dJ k hk
   exact ⟨a,qK (by omega) _ a.2 (by omega)⟩
  have FY: ∀k∈ks,Gd 6 (aJ k)∧(aJ k).Ok:=fun k hk=>by
   have a:=TN (U k hk) (by have:=uX k hk;omega)
   exact ⟨a.1,a.2.1⟩
  have hnz:=Lo U
  have hbz:aI (ks.map fun k=>aJ (bC c k))≤160000:=by
   have a:=Li (f:=fun k=>aJ (bC c k)) fun k hk=>Ln (c:=c) (U k hk)
   have b:=Bu FX
   omega
  have Lq:(o=4∨o=6∨o=8)→CC wD (.int .i64 c:: .bool nm::bG (.node o l ks) [])=some (qV c (.node o l ks)):=fun ho=>by
   obtain ⟨a1,a2⟩:=Lp Bw
   obtain ⟨b1,b2⟩:=Lp FY
   have jq:l=0:=by rcases eu h1 with h|h<;>omega
   refine afH ?_
   unfold TF
   simp only[Ex.op,Ex.kids,Ex.aY,aP]
   refine bT (FW (by omega)) (bT (FW (by omega)) ?_)
   have Lr:=afU (ks:=ks) (nm:=nm) (c:=c) (by omega) gD (a:=o) (b:=l) (c1:=0) (c2:=0) (c3:=0) (c4:=0) (b1:=false) (l1:=ks.map enc) (l2:=[]) (l3:=[]) ks [] rfl
   rw[Int.toNat_natCast]
   refine bs Lr ?_
   unfold qV
   rw[afy ho,lC,jq]
   rcases ho with rfl|rfl|rfl
   ·refine bs (qR a1 a2 (by omega) (.inl rfl)) ?_
    refine bs (qR b1 b2 (by omega) (.inl rfl)) ?_
    refine bT rfl ?_
    rw[←TS]
    rfl
   ·refine bs (qR a1 a2 (by omega) (.inr (.inr rfl))) ?_
    refine bs (qR b1 b2 (by omega) (.inr (.inr rfl))) ?_
    refine bF rfl (bT rfl ?_)
    rw[←TT]
    rfl
   ·obtain ⟨k,rfl⟩:=u6.1 (show ks.length=1 by rcases eu h1 with h|h<;>omega)
    refine bs (FL (Bw k (by simp)).1 (.inr rfl)) ?_
    refine bs (FL (FY k (by simp)).1 (.inr rfl)) ?_
    refine bF rfl (bF rfl (bT rfl ?_))
    refine congrArg some ?_
    have:(((kQ [k]:Nat):Int)==0)=(Ex.node 8 0 [k]).cE:=by
     simp only[Ex.cE,kQ]
     cases hk:k.cE<;>simp[hk,kh]
    rw[this]
    rfl
  have afX:o=5→CC wE (.int .i64 c:: .bool nm::bG (.node o l ks) [])=some (qV c (.node o l ks)):=fun ho=>by
   subst ho
   have bA:ks≠[]:=by rintro rfl;rcases eu h1 with h|h<;>simp at h<;>omega
   have jq:l=0:=by rcases eu h1 with h|h<;>omega
   obtain ⟨b1,b2⟩:=Lp FY
   have hD:=TP (c:=c) ks
   refine afL ?_
   unfold TI
   simp only[Ex.op,Ex.kids,Ex.aY,aP]
   refine bT (FW (by omega)) ?_
   rw[Int.toNat_natCast]
   have Lr:=afV (ks:=ks) (nm:=nm) (c:=c) (by omega) gD (c1:=0) (c2:=0) (c3:=0) (c4:=0) (b1:=false) (l1:=[]) (l2:=[]) hsm ks [] [] true rfl (bZ _)
   refine bs Lr ?_
   simp only[un,List.nil_append,cF,lH,aP]
   refine bT (FW (by omega)) ?_
   rw[Int.toNat_natCast]
   have bQ:=afW (ss:=ks.map aJ) (D:=mr c ks) (b:=ks.all Ex.cE) (c1:=0) (c2:=0) (c3:=0) (c4:=0) (b1:=false) (l1:=[]) (l2:=[]) (by simp;omega) (by simp;omega) (fun d hd=>by
    obtain ⟨k,hk,rfl⟩:=TQ hd
    have:=dJ k hk
    exact ⟨(Bw k hk).1,(Bw k hk).2,by omega⟩) (fun k hk=>⟨b1 k hk,b2 k hk⟩) (by omega) (mr c ks) [] [] rfl rfl
   have he:=TO (c:=c) ks []
   rw[List.nil_append] at he
   rw[List.length_nil] at bQ he
   rw[he] at bQ
   refine bs bQ ?_
   simp only[un,List.nil_append]
   have vu:=parts_eq (c:=c) U
   have TV:=FM (c:=c) U fun k hk=>sF k (U k hk)
   have hcz:aI (gQ c ks)≤160000:=by
    have a:=Lj (c:=c) (ks:=ks) fun k hk=>Lk k 6 (U k hk)
    have b:=Bu (show 1+aI ks≤400 by omega)
    omega
   have hpz:aI (sG c ks)≤160000:=by rw[vu];have:=Lo TV;omega
   have TW: ∀k∈sG c ks,Gd 6 k∧k.Ok:=fun k hk=>by
    have hz:=sn hk
    rw[vu] at hk
    obtain ⟨x,hx,rfl⟩:=fY.1 hk
    have a:=mi x (TV x hx)
    exact ⟨a,qK (by omega) _ a.2 (by omega)⟩
   refine bs (qR (fun k hk=>(TW k hk).1) (fun k hk=>(TW k hk).2) (by omega) (.inl rfl)) ?_
   refine bs (qR b1 b2 (by omega) (.inr (.inl rfl))) ?_
   unfold qV
   rw[afB bA U,lC,jq,←TR]
   rfl
  refine afS ?_
  unfold TM FU
  simp only[Ex.op,Ex.kids,Ex.aY]
  rcases eu h1 with ⟨rfl,h⟩|⟨rfl,⟨rfl,h⟩|⟨rfl,h⟩|⟨rfl,h⟩|⟨rfl,h⟩|⟨rfl,h⟩|⟨rfl,h⟩|⟨rfl,h⟩⟩
  ·obtain rfl:=mB.1 (show ks.length=0 by omega)
   refine bF rfl (bT rfl ?_)
   unfold qV
   rw[nD,aj rfl,lC,jF (by omega)]
   rw[db]
   by_cases oj:l=c
   ·rw[aj oj,aj oj];rfl
   ·rw[ai oj,ai oj];rfl
  ·obtain rfl:=mB.1 (show ks.length=0 by omega)
   rfl
  ·obtain rfl:=mB.1 (show ks.length=0 by omega)
   rfl
  ·exact bF rfl (bF rfl (bT rfl (bT rfl (bs (Lq (.inl rfl)) rfl))))
  ·refine bF rfl (bF rfl (bF rfl (bF rfl (bF rfl (bF rfl (bT rfl ?_))))))
   exact bs (afX rfl) rfl
  ·exact bF rfl (bF rfl (bF rfl (bT rfl (bT rfl (bs (Lq (.inr (.inl rfl))) rfl)))))
  ·obtain ⟨k,rfl⟩:=u6.1 (show ks.length=1 by omega)
   refine bF rfl (bF rfl (bF rfl (bF rfl (bF rfl (bT rfl ?_)))))
   refine bs (a:=k.enc) rfl ?_
   rw[aZ,bj,bd]
   refine bs (gD k (by simp)) ?_
   have hk:=FY k (by simp)
   have hb:=Bw k (by simp)
   have hj:=FL hk.1 (o:=7) (.inl rfl)
   rw[cw,fK,dc] at hj
   refine bs hj ?_
   have o7:dD 7 0 [aJ k]=aJ (.node 7 0 [k]):=by rw[lC];rfl
   have Ls:=TN hw (by omega)
   have hz2:=dJ k (by simp)
   have fP:=qR (n:=6) (ks:=[aJ (bC c k),aJ (.node 7 0 [k])]) (o:=5) (fun x hx=>by
    rcases dg.1 hx with rfl|hx
    ·exact hb.1
    ·rw[ef.1 hx];exact Ls.1) (fun x hx=>by
    rcases dg.1 hx with rfl|hx
    ·exact hb.2
    ·rw[ef.1 hx];exact Ls.2.1) (by have:=Ls.2.2;simp only[aI];omega) (by omega)
   rw[cw,cw,fK,dc (aJ (bC c k)),dc (aJ (.node 7 0 [k])),←o7] at fP
   refine bs fP ?_
   unfold qV
   rw[afz,←o7]
   rfl
  ·exact bF rfl (bF rfl (bF rfl (bF rfl (bT rfl (bs (Lq (.inr (.inr rfl))) rfl)))))
structure Dv where
 L:Int
 es:List Ex
 nx:List (List Int)
 dn:Int
deriving DecidableEq
def Dv.zero:Dv:=⟨0,[],[],0⟩
def qW (e:Ex) (c:Nat):Option Ex:=if (aJ (bC c e)).val 6=0 then some (aJ (bC c e)) else none
def nE (e:Ex):Nat→Nat→List Ex→List Int→Option (List Ex × List Int)
 | 0,_,es,row=>some (es,row)
 | n+1,x,es,row=>(qW e x).bind fun d=>
  if d∈es then nE e n (x+1) es (row++[(es.idxOf d:Int)])
  else if es.length=512 then none else nE e n (x+1) (es++[d]) (row++[(es.length:Int)])
def proc (s:Dv):Option Dv:=(nE (s.es.getD s.dn.toNat bf) s.L.toNat 0 s.es []).map fun p=>⟨s.L,p.1,s.nx++[p.2],s.dn+1⟩
def sK:Nat→Dv→Option Dv
 | 0,s=>some s
 | n+1,s=>if s.dn<s.es.length then (proc s).bind (sK n) else some s
def qX (e:Ex) (L:Int):Dv:=⟨L,[aJ e],[],0⟩
theorem TY {L:Int} (h:L≤6): ∀e:Ex,e.wf L=true→e.wf 6=true:=ind fun o l ks ih hw=>by
 obtain ⟨h1,U⟩:=gn hw
 refine ux ?_ fun k hk=>ih k hk (U k hk)
 unfold dC at h1⊢
 by_cases ho:o=3
 ·rw[aj ho] at h1⊢
  have:=mu h1
  exact dM (by omega)
 ·rw[ai ho] at h1⊢;exact h1
theorem Lt {e:Ex} {L:Int} (h:e.val L=0):(1≤L∧L≤6)∧e.depth≤40∧e.size≤400∧e.wf L=true:=by
 unfold Ex.val at h
 repeat' split at h
 all_goals first|omega|skip
 next a b c=>exact ⟨a,b.1,b.2,c⟩
theorem val_mk {e:Ex} {L:Int} (h:(1≤L∧L≤6)∧e.depth≤40∧e.size≤400∧e.wf L=true):e.val L=0:=by
 unfold Ex.val
 rw[aj h.1,aj ⟨h.2.1,h.2.2.1⟩,aj h.2.2.2]
theorem FZ {e:Ex} {L:Int} (h:e.val L=0):e.val 6=0:=by
 obtain ⟨h1,U,h3,h4⟩:=Lt h
 exact val_mk ⟨by omega,U,h3,TY h1.2 e h4⟩
theorem TZ {e:Ex} {L:Int} (h:e.val L=0):(aJ e).val L=0:=by
 obtain ⟨h1,U,h3,h4⟩:=Lt h
 have:=xj e h4
 have:=acQ e h4
 exact val_mk ⟨h1,by omega,by omega,(mi e h4).2⟩
def Nv (e:Ex):Prop:=Gd 6 e∧e.val 6=0
theorem Nv.aJ {e:Ex} (h:Nv e):aJ e=e:=RF e h.1
theorem T2 {e d:Ex} {c:Nat} (he:Nv e) (h:qW e c=some d):Nv d∧d=Go.AM.aJ (bC c e):=by
 unfold qW at h
 split at h
 ·next hv=>
  cases h
  exact ⟨⟨mi _ (sF e he.1.2),hv⟩,rfl⟩
 ·cases h
structure Es (es:List Ex):Prop where
 le:es.length≤512
 nv: ∀e∈es,Nv e
 nd:es.Nodup
def pH (e:Ex) (es:List Ex) (n:Nat) (row:List Int):Prop:=row.length=n∧∀x,x<n→∃j:Nat,row.getD x 0=j∧j<es.length∧qW e x=some (es.getD j bf)
theorem pH.mono {e:Ex} {es t:List Ex} {n:Nat} {row:List Int} (h:pH e es n row):pH e (es++t) n row:=⟨h.1,fun x hx=>by
 obtain ⟨j,h1,U,h3⟩:=h.2 x hx
 refine ⟨j,h1,by rw[bU];omega,?_⟩
 rw[h3,jO,jO,ij U]⟩
theorem pH.snoc {e:Ex} {es:List Ex} {n j:Nat} {row:List Int} (h:pH e es n row) (h1:j<es.length) (U:qW e n=some (es.getD j bf)):pH e es (n+1) (row++[(j:Int)]):=by
 refine ⟨by rw[bU,h.1];rfl,fun x hx=> ?_⟩
 rcases oN x n with c|c
 ·obtain ⟨i,i1,i2,i3⟩:=h.2 x c
  refine ⟨i,?_,i2,i3⟩
  rw[←i1,jO,jO,ij (by rw[h.1];exact c)]
 ·obtain rfl:x=n:=by omega
  refine ⟨j,?_,h1,U⟩
  rw[jO,ik (by rw[h.1];exact bZ _),h.1]
  simp
theorem Es.snoc {es:List Ex} {d:Ex} (h:Es es) (hd:Nv d) (hn:d∉es) (hl:es.length≠512):Es (es++[d]):=by
 refine ⟨by have:=h.le;simp;omega,fun e he=> ?_,?_⟩
 ·rcases ey.1 he with he|he
  ·exact h.nv e he
  ·rw[ef.1 he];exact hd
 ·rw[B5]
  refine ⟨h.nd,by simp,fun a ha b hb=> ?_⟩
  rw[ef.1 hb]
  rintro rfl
  exact hn ha
theorem afY {es:List Ex} {d:Ex} (h:d∈es):es.getD (es.idxOf d) bf=d:=by
 have:=List.idxOf_lt_length_iff.2 h
 rw[jO,bM this,Option.getD_some,List.getElem_idxOf]
theorem Lu {e:Ex} (he:Nv e): ∀(n x:Nat) (es:List Ex) (row:List Int) (p:List Ex × List Int),Es es→pH e es x row→nE e n x es row=some p→Es p.1∧pH e p.1 (x+n) p.2∧∃t,p.1=es++t
 | 0,x,es,row,p,h1,U,h=>by
  cases h
  exact ⟨h1,U,[],by simp⟩
 | n+1,x,es,row,p,h1,U,h=>by
  rw[nE] at h
  cases hs:qW e x with
  | none=>rw[hs] at h;cases h
  | some d=>
   rw[hs] at h
   obtain ⟨hd,_⟩:=T2 he hs
   simp only[Option.bind_some] at h
   by_cases hm:d∈es
   ·rw[aj hm] at h
    have:=Lu he n (x+1) es _ p h1 (U.snoc (List.idxOf_lt_length_iff.2 hm) (by rw[hs,afY hm])) h
    rw[show x+(n+1)=x+1+n by omega]
    exact this
   ·rw[ai hm] at h
    by_cases hl:es.length=512
    ·rw[aj hl] at h;cases h
    ·rw[ai hl] at h
     obtain ⟨a,b,t,c⟩:=Lu he n (x+1) (es++[d]) _ p (h1.snoc hd hm hl) (U.mono.snoc (by simp) (by rw[hs,jO];simp)) h
     rw[show x+(n+1)=x+1+n by omega]
     exact ⟨a,b,d::t,by rw[c,cj];rfl⟩
structure Gs (s:Dv):Prop where
 L:1≤s.L∧s.L≤6
 ne:s.es≠[]
 es:Es s.es
 dn:0≤s.dn∧s.dn≤s.es.length
 nl:s.nx.length=s.dn.toNat
 row: ∀q,q<s.dn.toNat→pH (s.es.getD q bf) s.es s.L.toNat (s.nx.getD q [])
theorem F0 {α:Type} {a b:List α} {i:Nat} {z:α} (h:i<a.length):(a++b).getD i z=a.getD i z:=by
 rw[jO,jO,ij h]
theorem T4 {α:Type} {a:List α} {i:Nat} {z:α} (h:i<a.length):a.getD i z∈a:=by
 rw[jO,bM h];simp
theorem T6 {s t:Dv} (h:proc s=some t): ∃p,nE (s.es.getD s.dn.toNat bf) s.L.toNat 0 s.es []=some p∧t=⟨s.L,p.1,s.nx++[p.2],s.dn+1⟩:=by
 unfold proc at h
 cases hr:nE (s.es.getD s.dn.toNat bf) s.L.toNat 0 s.es [] with
 | none=>rw[hr] at h;cases h
 | some p=>rw[hr] at h;cases h;exact ⟨p,rfl,rfl⟩
theorem T7 {s t:Dv} (hs:Gs s) (hd:s.dn<s.es.length) (h:proc s=some t):Gs t∧t.L=s.L∧t.dn=s.dn+1∧∃r,t.es=s.es++r:=by
 obtain ⟨p,hp,rfl⟩:=T6 h
 have T8:=hs.dn
 have hq:s.dn.toNat<s.es.length:=by omega
 obtain ⟨a,b,r,c⟩:=Lu (hs.es.nv _ (T4 hq)) _ 0 _ _ p hs.es ⟨rfl,fun x hx=>by omega⟩ hp
 have hn:=hs.nl
 refine ⟨⟨hs.L,by rw[c];simp[hs.ne],a,⟨by show 0≤s.dn+1;omega,?_⟩,?_,fun q zh=> ?_⟩,rfl,rfl,r,c⟩
 ·show s.dn+1≤(p.1.length:Int)
  rw[c,bU];omega
 ·show (s.nx++[p.2]).length=(s.dn+1).toNat
  rw[bU,hn];simp;omega
 ·have hq3:q<(s.dn+1).toNat:=zh
  show pH (p.1.getD q bf) p.1 s.L.toNat ((s.nx++[p.2]).getD q [])
  rcases oN q s.dn.toNat with e|e
  ·rw[F0 (by omega),c,F0 (by omega)]
   exact (hs.row q e).mono
  ·obtain rfl:q=s.dn.toNat:=by omega
   rw[jO (l:=s.nx++[p.2]),ik (by omega),hn,Nat.sub_self]
   simp only[List.getElem?_cons_zero,Option.getD_some]
   rw[gu] at b
   have e1:p.1.getD s.dn.toNat bf=s.es.getD s.dn.toNat bf:=by rw[c,F0 (by omega)]
   rw[e1]
   exact b
theorem T9: ∀(n:Nat) (s t:Dv),Gs s→sK n s=some t→Gs t∧t.L=s.L∧(∃r,t.es=s.es++r)∧(t.dn=t.es.length∨t.dn=s.dn+n)
 | 0,s,t,hs,h=>by cases h;exact ⟨hs,rfl,⟨[],by simp⟩,.inr (by simp)⟩
 | n+1,s,t,hs,h=>by
  rw[sK] at h
  by_cases hd:s.dn<s.es.length
  ·rw[aj hd] at h
   cases hp:proc s with
   | none=>rw[hp] at h;cases h
   | some u=>
    rw[hp] at h
    obtain ⟨a,b,c,r,d⟩:=T7 hs hd hp
    obtain ⟨e,f,⟨r2,g⟩,i⟩:=T9 n u t a h
    refine ⟨e,f.trans b,⟨r++r2,by rw[g,d,cj]⟩,?_⟩
    rcases i with i|i
    ·exact .inl i
    ·exact .inr (by rw[i,c];omega)
  ·rw[ai hd] at h
   cases h
   exact ⟨hs,rfl,⟨[],by simp⟩,.inl (by have:=hs.dn;omega)⟩
theorem Ua {e:Ex} {L:Int} (h:e.val L=0):Gs (qX e L):=by
 obtain ⟨h1,U,h3,h4⟩:=Lt h
 refine ⟨h1,by simp[qX],⟨by simp[qX],fun x hx=> ?_,by simp[qX]⟩,by simp[qX],rfl,fun q hq=>by simp[qX] at hq⟩
 rw[ef.1 hx]
 exact ⟨mi e (TY h1.2 e h4),FZ (TZ h)⟩
end Go.AM
set_option maxRecDepth 100000
namespace Go.AM
open Go.Proofs
def Ub (w:List UInt8) (i:Nat):Int:=((w.getD i 0).toNat:Int)-97
def Uc (w:List UInt8) (L:Int):Prop:=1≤L∧L≤6∧w.length≤2048∧∀i,i<w.length→0≤Ub w i∧Ub w i<L
instance (w:List UInt8) (L:Int):Decidable (Uc w L):=by unfold Uc;infer_instance
noncomputable abbrev Ud:Code:=cJ Try.prog (ay.ba 63)
noncomputable def Bx (C:ag) (t9:List V) (t10 en dB:Int) (cP:List V) (all one:Bool) (t11:Int) {β:Type} (kn:(Bool × Bool × Int)→Option β) (kr:(Bool × Bool × Int × Bool)→Option β):Option β:=
 bif decide ((t11:Int)<t10) then
  (idx t9 t11).bind fun x1=>
  (C z0 [.int .i64 ((x1.cell 0).toInt),.int .i64 ((x1.cell 1).toInt),.list aa ((x1.cell 2).toList)]).bind fun r2=>
  bif all then
  bif one then
   kn ((V.nth r2 0).toBool,true,IntKind.wrap .i64 (t11+1))
  else
   kn ((V.nth r2 0).toBool,(V.nth r2 0).toBool,IntKind.wrap .i64 (t11+1))
  else
  bif one then
   kn (false,true,IntKind.wrap .i64 (t11+1))
  else
   kn (false,(V.nth r2 0).toBool,IntKind.wrap .i64 (t11+1))
 else
  kr (all,one,t11,decide ((t11:Int)<t10))
noncomputable def F1 (C:ag) (t9:List V) (t10 en dB:Int) (cP:List V):(Bool × Bool × Int)→Option ((Bool × Bool × Int) ⊕ (Bool × Bool × Int × Bool)):=un fun all=>un fun one t11=>Bx C t9 t10 en dB cP all one t11 (fun y=>some (.inl y)) (fun r=>some (.inr r))
noncomputable def Ue (C:ag):cz:=fun β n ds k=>
 bif Nat.beq n 49 then cb Je [true,true,false,false,true,false,false,false] [[0,0,3,4,0,0,6,7,8]] (@Bx C) ds k else
 none
abbrev afZ (C:ag) (b:ct):Prop:=cv Try.prog ay C (Ue C) 63 (cL Try.prog (ay.ba 63)) (ay.sin 63).bh.length b
theorem af0 (C:ag):afZ C (.loop (aw [1,1,0,1,0,0] Ud)):=
 ch Je [true,true,false,false,true,false,false,false] [[0,0,3,4,0,0,6,7,8]] (@Bx C) (by kernel_rfl) (bq (bs:=[]) (by kernel_rfl) ax) (fun ds=>by kernel_rfl) (fun i x=>by kernel_rfl) (fun i x β k=>by kernel_rfl) (fun β ds k=>by kernel_rfl)
noncomputable def Uf (C:ag) (af aq:Int) (ae:List V):Option (List V):=
 (Loop (F1 C ae (ae.length:Int) af aq ae) (true,false,0)).bind (un fun (F2:Bool)=>un fun (xU:Bool)=>un fun (pw:Int) (nf:Bool)=>
  bif (af:Int)==2 then
   bif (af:Int)==2 then
   some [.bool true]
   else
   bif (af:Int)==4 then
    some [.bool xU]
   else
    bif (af:Int)==5 then
    bif (af:Int)==5 then
     some [.bool F2]
    else
     bif (af:Int)==8 then
     some [.bool (!xU)]
     else
     some [.bool false]
    else
    bif (af:Int)==6 then
     some [.bool F2]
    else
     bif (af:Int)==8 then
     some [.bool (!xU)]
     else
     some [.bool false]
  else
   bif (af:Int)==7 then
   some [.bool true]
   else
   bif (af:Int)==4 then
    some [.bool xU]
   else
    bif (af:Int)==5 then
    bif (af:Int)==5 then
     some [.bool F2]
    else
     bif (af:Int)==8 then
     some [.bool (!xU)]
     else
     some [.bool false]
    else
    bif (af:Int)==6 then
     some [.bool F2]
    else
     bif (af:Int)==8 then
     some [.bool (!xU)]
     else
     some [.bool false])
theorem af1 {af aq:Int} {ae:List V} {r:Option (List V)} (h:Uf CC af aq ae=r):CC z0 [.int .i64 af,.int .i64 aq,.list aa ae]=r:=
 bc (key:=63) (L:=Ue CC) (bs:=[.loop (aw [1,1,0,1,0,0] Ud)]) (by kernel_rfl) (bD (af0 CC) ax) (a9 (by kernel_rfl) h)
end Go.AM
set_option maxRecDepth 100000
namespace Go.AM
open Go.Proofs Ex
theorem af2: ∀e:Ex,e.Ok→CC z0 (bG e [])=some [.bool e.cE]:=
 ind fun o l ks ih au=>by
  have:=pt
  have hlen:=au.len
  refine af1 ?_
  have hl:=acn (step:=F1 CC (ks.map enc) ((ks.map enc).length:Int) o l (ks.map enc)) (ks:=ks) (fun (s:Bool × Bool) i=>(s.1,s.2,(i:Int))) (fun s k=>(s.1&&k.cE,s.2||k.cE)) (fun s=>(s.1,s.2,((ks.length:Nat):Int),false)) (fun _ _=>True)
   (fun pre k av s aS hI=>by
    have bQ:pre.length<ks.length:=by rw[aS];simp
    have hm:k∈ks:=by rw[aS];simp
    refine ⟨?_,trivial⟩
    simp only[F1,Bx,un,aP,az]
    rw[aj (by omega),show idx (ks.map enc) (pre.length:Int)=some k.enc by rw[aS];exact fT _ _ _]
    simp only[Option.bind_some,aZ,bj,bd]
    rw[ih k hm (au.lA k hm)]
    simp only[Option.bind_some,V.aU,V.ek]
    rw[wrap64 (by omega) (by omega)]
    obtain ⟨a,b⟩:=s
    cases a<;>cases b<;>simp)
   (fun s=>by
    simp only[F1,Bx,un,aP,az]
    rw[ai (by omega)]
    simp) ks [] (true,false) rfl trivial
  have hf: ∀(ks:List Ex) (a b:Bool),ks.foldl (fun (s:Bool × Bool) k=>(s.1&&k.cE,s.2||k.cE)) (a,b)=(a&&lB ks,b||kh ks):=by
   intro ks
   induction ks with
   | nil=>intro a b;simp[lB,kh]
   | cons k ks ih=>intro a b;simp[ih,lB,kh,Bool.and_assoc,Bool.or_assoc]
  rw[hf] at hl
  simp only[List.length_nil,Int.ofNat_zero,Int.natCast_zero] at hl
  unfold Uf
  simp only[Ex.op,Ex.aY,Ex.kids]
  erw [hl]
  simp only[Option.bind_some,un,cE,lH,Bool.false_or]
  rcases w4 o with rfl|rfl|rfl|rfl|rfl|rfl|rfl|rfl|ho
  case inr.inr.inr.inr.inr.inr.inr.inr=>
   have n2:o≠2:=by omega
   have n4:o≠4:=by omega
   have n5:o≠5:=by omega
   have n6:o≠6:=by omega
   have n7:o≠7:=by omega
   have n8:o≠8:=by omega
   simp[n2,n4,n5,n6,n7,n8]
  all_goals simp
end Go.AM
set_option maxRecDepth 100000
namespace Go.AM
open Go.Proofs
noncomputable def Ug (C:ag) (dU dV:Int) (By:List V) (Lv Lw:Int) (Lx:List V) (Ly:Bool):Option (List V):=
 (C tX [.int .i64 dU,.int .i64 dV,.list aa By,.int .i64 6]).bind fun r1=>
 bif (((V.nth r1 0).toInt):Int) != 0 then
  some [.int .i64 0,.int .i64 0,.list aa ([]:List V),.int .i64 3]
 else
  some [.int .i64 dU,.int .i64 dV,.list aa By,.int .i64 0]
theorem af3 {dU dV:Int} {By:List V} {Lv Lw:Int} {Lx:List V} {Ly:Bool} {r:Option (List V)} (h:Ug CC dU dV By Lv Lw Lx Ly=r):CC EC [.int .i64 dU,.int .i64 dV,.list aa By,.int .i64 Lv,.int .i64 Lw,.list aa Lx,.bool Ly]=r:=
 bc (key:=149) (L:=cf) (bs:=[]) (by kernel_rfl) ax (a9 (by kernel_rfl) h)
noncomputable def Uh (C:ag) (af aq:Int) (ae:List V) (aY:Int):Option (List V):=
 (C mZ [.int .i64 aY,.bool true,.int .i64 af,.int .i64 aq,.list aa ae]).bind fun r1=>
 (C EC [.int .i64 ((V.nth r1 0).toInt),.int .i64 ((V.nth (r1.drop 1) 0).toInt),.list aa ((V.nth ((r1.drop 1).drop 1) 0).toList),.int .i64 ((V.nth (((r1.drop 1).drop 1).drop 1) 0).toInt),.int .i64 ((V.nth ((((r1.drop 1).drop 1).drop 1).drop 1) 0).toInt),.list aa ((V.nth (((((r1.drop 1).drop 1).drop 1).drop 1).drop 1) 0).toList),.bool ((V.nth ((((((r1.drop 1).drop 1).drop 1).drop 1).drop 1).drop 1) 0).toBool)]).bind fun r2=>
 some [.int .i64 ((V.nth r2 0).toInt),.int .i64 ((V.nth (r2.drop 1) 0).toInt),.list aa ((V.nth ((r2.drop 1).drop 1) 0).toList),.int .i64 ((V.nth (r2.drop 3) 0).toInt)]
theorem af4 {af aq:Int} {ae:List V} {aY:Int} {r:Option (List V)} (h:Uh CC af aq ae aY=r):CC Eg [.int .i64 af,.int .i64 aq,.list aa ae,.int .i64 aY]=r:=
 bc (key:=53) (L:=cf) (bs:=[]) (by kernel_rfl) ax (a9 (by kernel_rfl) h)
noncomputable def Ui (C:ag) (af aq:Int) (ae:List V) (aY:Int):Option (List V):=
 (C tX [.int .i64 af,.int .i64 aq,.list aa ae,.int .i64 6]).bind fun r1=>
 bif (((V.nth r1 0).toInt):Int) != 0 then
  some [.int .i64 0,.int .i64 0,.list aa ([]:List V),.int .i64 ((V.nth r1 0).toInt)]
 else
  bif decide ((aY:Int)<0) then
  some [.int .i64 0,.int .i64 0,.list aa ([]:List V),.int .i64 1]
  else
  bif decide ((aY:Int)≥6) then
   some [.int .i64 0,.int .i64 0,.list aa ([]:List V),.int .i64 1]
  else
   (C mZ [.int .i64 aY,.bool false,.int .i64 af,.int .i64 aq,.list aa ae]).bind fun r2=>
   (C EC [.int .i64 ((V.nth r2 0).toInt),.int .i64 ((V.nth (r2.drop 1) 0).toInt),.list aa ((V.nth ((r2.drop 1).drop 1) 0).toList),.int .i64 ((V.nth (((r2.drop 1).drop 1).drop 1) 0).toInt),.int .i64 ((V.nth ((((r2.drop 1).drop 1).drop 1).drop 1) 0).toInt),.list aa ((V.nth (((((r2.drop 1).drop 1).drop 1).drop 1).drop 1) 0).toList),.bool ((V.nth ((((((r2.drop 1).drop 1).drop 1).drop 1).drop 1).drop 1) 0).toBool)]).bind fun r3=>
   some [.int .i64 ((V.nth r3 0).toInt),.int .i64 ((V.nth (r3.drop 1) 0).toInt),.list aa ((V.nth ((r3.drop 1).drop 1) 0).toList),.int .i64 ((V.nth (r3.drop 3) 0).toInt)]
theorem af5 {af aq:Int} {ae:List V} {aY:Int} {r:Option (List V)} (h:Ui CC af aq ae aY=r):CC zV [.int .i64 af,.int .i64 aq,.list aa ae,.int .i64 aY]=r:=
 bc (key:=25) (L:=cf) (bs:=[]) (by kernel_rfl) ax (a9 (by kernel_rfl) h)
noncomputable def Uj (C:ag) (op:Int) (l:List V):Option (List V):=
 bif ((l.length:Int):Int)==1 then
  (l[0]?).bind fun x1=>
  some [.int .i64 ((x1.cell 0).toInt),.int .i64 ((x1.cell 1).toInt),.list aa ((x1.cell 2).toList)]
 else
  some [.int .i64 op,.int .i64 0,.list aa l]
theorem af6 {op:Int} {l:List V} {r:Option (List V)} (h:Uj CC op l=r):CC tZ [.int .i64 op,.list aa l]=r:=
 bc (key:=71) (L:=cf) (bs:=[]) (by kernel_rfl) ax (a9 (by kernel_rfl) h)
noncomputable abbrev F3:Code:=cJ Try.prog (ay.ba 51)
noncomputable def Bz (C:ag) (aY:Int) (t28:List V) (t29 je jf oz oA:Int) (er:List V) (t30:Int) (bE:List V) {β:Type} (kn:(Int × (List V))→Option β) (kr:(Int × Bool × (List V))→Option β):Option β:=
 bif decide ((t30:Int)<t29) then
  (idx t28 t30).bind fun x1=>
  (C ot [.int .i64 ((x1.cell 0).toInt),.int .i64 ((x1.cell 1).toInt),.list aa ((x1.cell 2).toList),.int .i64 aY]).bind fun r2=>
  bif Nat.ble ((bE.length+([.agg [.int .i64 ((V.nth r2 0).toInt),.int .i64 ((V.nth (r2.drop 1) 0).toInt),.list aa ((V.nth ((r2.drop 1).drop 1) 0).toList)]]:List V).length)*40) bS then
  kn (IntKind.wrap .i64 (t30+1),bE++([.agg [.int .i64 ((V.nth r2 0).toInt),.int .i64 ((V.nth (r2.drop 1) 0).toInt),.list aa ((V.nth ((r2.drop 1).drop 1) 0).toList)]]:List V))
  else none
 else
  kr (t30,decide ((t30:Int)<t29),bE)
noncomputable def xV (C:ag) (aY:Int) (t28:List V) (t29 je jf oz oA:Int) (er:List V):(Int × (List V))→Option ((Int × (List V)) ⊕ (Int × Bool × (List V))):=un fun t30 bE=>Bz C aY t28 t29 je jf oz oA er t30 bE (fun y=>some (.inl y)) (fun r=>some (.inr r))
noncomputable def BA (C:ag) (aY:Int) (t58:List V) (t59 en dB:Int) (cP:List V) (je jf:Int) (bE:List V) (t60:Int) (xW:List V) {β:Type} (kn:(Int × (List V))→Option β) (kr:(Int × (List V))→Option β):Option β:=
 bif decide ((t60:Int)<t59) then
  (idx t58 t60).bind fun x8=>
  (C ot [.int .i64 ((x8.cell 0).toInt),.int .i64 ((x8.cell 1).toInt),.list aa ((x8.cell 2).toList),.int .i64 aY]).bind fun r9=>
  bif (decide (0≤(IntKind.wrap .i64 (t60+1))))&&(decide ((IntKind.wrap .i64 (t60+1))≤(cP.length:Int))) then
  bif Nat.ble ((([.agg [.int .i64 ((V.nth r9 0).toInt),.int .i64 ((V.nth (r9.drop 1) 0).toInt),.list aa ((V.nth ((r9.drop 1).drop 1) 0).toList)]]:List V).length+((cP.drop ((IntKind.wrap .i64 (t60+1):Int).toNat)).take (cP.length-((IntKind.wrap .i64 (t60+1):Int).toNat))).length)*40) bS then
   (C tZ [.int .i64 5,.list aa (([.agg [.int .i64 ((V.nth r9 0).toInt),.int .i64 ((V.nth (r9.drop 1) 0).toInt),.list aa ((V.nth ((r9.drop 1).drop 1) 0).toList)]]:List V)++((cP.drop ((IntKind.wrap .i64 (t60+1):Int).toNat)).take (cP.length-((IntKind.wrap .i64 (t60+1):Int).toNat))))]).bind fun cR=>
   bif Nat.ble ((xW.length+([.agg [.int .i64 ((V.nth cR 0).toInt),.int .i64 ((V.nth (cR.drop 1) 0).toInt),.list aa ((V.nth ((cR.drop 1).drop 1) 0).toList)]]:List V).length)*40) bS then
   (C z0 [.int .i64 ((x8.cell 0).toInt),.int .i64 ((x8.cell 1).toInt),.list aa ((x8.cell 2).toList)]).bind fun ee=>
   bif !((V.nth ee 0).toBool) then
    kr (t60,xW++([.agg [.int .i64 ((V.nth cR 0).toInt),.int .i64 ((V.nth (cR.drop 1) 0).toInt),.list aa ((V.nth ((cR.drop 1).drop 1) 0).toList)]]:List V))
   else
    kn (IntKind.wrap .i64 (t60+1),xW++([.agg [.int .i64 ((V.nth cR 0).toInt),.int .i64 ((V.nth (cR.drop 1) 0).toInt),.list aa ((V.nth ((cR.drop 1).drop 1) 0).toList)]]:List V))
   else none
  else none
  else none
 else
  kr (t60,xW)
noncomputable def uY (C:ag) (aY:Int) (t58:List V) (t59 en dB:Int) (cP:List V) (je jf:Int) (bE:List V):(Int × (List V))→Option ((Int × (List V)) ⊕ (Int × (List V))):=un fun t60 xW=>BA C aY t58 t59 en dB cP je jf bE t60 xW (fun y=>some (.inl y)) (fun r=>some (.inr r))
noncomputable def Uk (C:ag):cz:=fun β n ds k=>
 bif Nat.beq n 161 then cb I9 [false,false,false,true,false,false,false,false,false,true] [[1,2,3,0,0,5,6,7,8,9,0]] (@Bz C) ds k else
 bif Nat.beq n 321 then cb Ja [false,false,false,true,false,false,false,false,false,true,false] [[1,2,3,0,5,6,7,8,9,0,11]] (@BA C) ds k else
 none
abbrev Ul (C:ag) (b:ct):Prop:=cv Try.prog ay C (Uk C) 51 (cL Try.prog (ay.ba 51)) (ay.sin 51).bh.length b
theorem af7 (C:ag):Ul C (.loop (aw [1,0,1,0,1,1,1,0,1,0,1,0,0] F3)):=
 ch I9 [false,false,false,true,false,false,false,false,false,true] [[1,2,3,0,0,5,6,7,8,9,0]] (@Bz C) (by kernel_rfl) (bq (bs:=[]) (by kernel_rfl) ax) (fun ds=>by kernel_rfl) (fun i x=>by kernel_rfl) (fun i x β k=>by kernel_rfl) (fun β ds k=>by kernel_rfl)
theorem af8 (C:ag):Ul C (.loop (aw [1,0,1,0,1,1,1,1,1,1,1,0,1,0,1,0,0] F3)):=
 ch Ja [false,false,false,true,false,false,false,false,false,true,false] [[1,2,3,0,5,6,7,8,9,0,11]] (@BA C) (by kernel_rfl) (bq (bs:=[]) (by kernel_rfl) ax) (fun ds=>by kernel_rfl) (fun i x=>by kernel_rfl) (fun i x β k=>by kernel_rfl) (fun β ds k=>by kernel_rfl)
noncomputable def Um (C:ag) (af aq:Int) (ae:List V) (aY:Int):Option (List V):=
 bif (af:Int)==3 then
  bif (aq:Int)==aY then
  some [.int .i64 2,.int .i64 0,.list aa ([]:List V)]
  else
  some [.int .i64 1,.int .i64 0,.list aa ([]:List V)]
 else
  bif (af:Int)==4 then
  bif (af:Int)==4 then
   (Loop (xV C aY ae (ae.length:Int) 0 0 af 0 ([]:List V)) (0,([]:List V))).bind (un fun (jy:Int)=>un fun (mg:Bool) (LA:List V)=>
    some [.int .i64 af,.int .i64 0,.list aa LA])
  else
   bif (af:Int)==7 then
   (ae[0]?).bind fun x6=>
   (C ot [.int .i64 ((x6.cell 0).toInt),.int .i64 ((x6.cell 1).toInt),.list aa ((x6.cell 2).toList),.int .i64 aY]).bind fun r7=>
   some [.int .i64 5,.int .i64 0,.list aa ([.agg [.int .i64 ((V.nth r7 0).toInt),.int .i64 ((V.nth (r7.drop 1) 0).toInt),.list aa ((V.nth ((r7.drop 1).drop 1) 0).toList)],.agg [.int .i64 af,.int .i64 aq,.list aa ae]]:List V)]
   else
   bif (af:Int)==5 then
    (Loop (uY C aY ae (ae.length:Int) af aq ae 0 0 ([]:List V)) (0,([]:List V))).bind (un fun (EU:Int) (af9:List V)=>
     (C tZ [.int .i64 4,.list aa af9]).bind fun jD=>
     some [.int .i64 ((V.nth jD 0).toInt),.int .i64 ((V.nth (jD.drop 1) 0).toInt),.list aa ((V.nth ((jD.drop 1).drop 1) 0).toList)])
   else
    some [.int .i64 1,.int .i64 0,.list aa ([]:List V)]
  else
  bif (af:Int)==6 then
   bif (af:Int)==6 then
   (Loop (xV C aY ae (ae.length:Int) 0 0 af 0 ([]:List V)) (0,([]:List V))).bind (un fun (wU:Int)=>un fun (Ka:Bool) (BB:List V)=>
    some [.int .i64 af,.int .i64 0,.list aa BB])
   else
   bif (af:Int)==7 then
    (ae[0]?).bind fun jc=>
    (C ot [.int .i64 ((jc.cell 0).toInt),.int .i64 ((jc.cell 1).toInt),.list aa ((jc.cell 2).toList),.int .i64 aY]).bind fun dE=>
    some [.int .i64 5,.int .i64 0,.list aa ([.agg [.int .i64 ((V.nth dE 0).toInt),.int .i64 ((V.nth (dE.drop 1) 0).toInt),.list aa ((V.nth ((dE.drop 1).drop 1) 0).toList)],.agg [.int .i64 af,.int .i64 aq,.list aa ae]]:List V)]
   else
    bif (af:Int)==5 then
    (Loop (uY C aY ae (ae.length:Int) af aq ae 0 0 ([]:List V)) (0,([]:List V))).bind (un fun (Kb:Int) (aga:List V)=>
     (C tZ [.int .i64 4,.list aa aga]).bind fun ic=>
     some [.int .i64 ((V.nth ic 0).toInt),.int .i64 ((V.nth (ic.drop 1) 0).toInt),.list aa ((V.nth ((ic.drop 1).drop 1) 0).toList)])
    else
    some [.int .i64 1,.int .i64 0,.list aa ([]:List V)]
  else
   bif (af:Int)==8 then
   (Loop (xV C aY ae (ae.length:Int) 0 0 af 0 ([]:List V)) (0,([]:List V))).bind (un fun (Kc:Int)=>un fun (Qk:Bool) (agb:List V)=>
    some [.int .i64 af,.int .i64 0,.list aa agb])
   else
   bif (af:Int)==7 then
    (ae[0]?).bind fun nh=>
    (C ot [.int .i64 ((nh.cell 0).toInt),.int .i64 ((nh.cell 1).toInt),.list aa ((nh.cell 2).toList),.int .i64 aY]).bind fun AG=>
    some [.int .i64 5,.int .i64 0,.list aa ([.agg [.int .i64 ((V.nth AG 0).toInt),.int .i64 ((V.nth (AG.drop 1) 0).toInt),.list aa ((V.nth ((AG.drop 1).drop 1) 0).toList)],.agg [.int .i64 af,.int .i64 aq,.list aa ae]]:List V)]
   else
    bif (af:Int)==5 then
    (Loop (uY C aY ae (ae.length:Int) af aq ae 0 0 ([]:List V)) (0,([]:List V))).bind (un fun (ZN:Int) (agc:List V)=>
     (C tZ [.int .i64 4,.list aa agc]).bind fun sx=>
     some [.int .i64 ((V.nth sx 0).toInt),.int .i64 ((V.nth (sx.drop 1) 0).toInt),.list aa ((V.nth ((sx.drop 1).drop 1) 0).toList)])
    else
    some [.int .i64 1,.int .i64 0,.list aa ([]:List V)]
theorem agd {af aq:Int} {ae:List V} {aY:Int} {r:Option (List V)} (h:Um CC af aq ae aY=r):CC ot [.int .i64 af,.int .i64 aq,.list aa ae,.int .i64 aY]=r:=
 bc (key:=51) (L:=Uk CC) (bs:=[.loop (aw [1,0,1,0,1,1,1,0,1,0,1,0,0] F3),.loop (aw [1,0,1,0,1,1,1,1,1,1,1,0,1,0,1,0,0] F3)]) (by kernel_rfl) (bD (af7 CC) (bD (af8 CC) ax)) (a9 (by kernel_rfl) h)
noncomputable def Un (C:ag) (af aq:Int) (ae:List V) (aY:Int):Option (List V):=
 (C zU [.int .i64 af,.int .i64 aq,.list aa ae,.int .i64 6]).bind fun r1=>
 bif (((V.nth r1 0).toInt):Int) != 0 then
  some [.int .i64 0,.int .i64 0,.list aa ([]:List V),.int .i64 ((V.nth r1 0).toInt)]
 else
  bif decide ((aY:Int)<0) then
  some [.int .i64 0,.int .i64 0,.list aa ([]:List V),.int .i64 1]
  else
  bif decide ((aY:Int)≥6) then
   some [.int .i64 0,.int .i64 0,.list aa ([]:List V),.int .i64 1]
  else
   (C ot [.int .i64 af,.int .i64 aq,.list aa ae,.int .i64 aY]).bind fun r2=>
   (C wu [.int .i64 ((V.nth r2 0).toInt),.int .i64 ((V.nth (r2.drop 1) 0).toInt),.list aa ((V.nth ((r2.drop 1).drop 1) 0).toList)]).bind fun r3=>
   (C zX [.int .i64 ((V.nth r3 0).toInt),.int .i64 ((V.nth (r3.drop 1) 0).toInt),.list aa ((V.nth ((r3.drop 1).drop 1) 0).toList)]).bind fun r4=>
   bif !((V.nth r4 0).toBool) then
   some [.int .i64 0,.int .i64 0,.list aa ([]:List V),.int .i64 3]
   else
   some [.int .i64 ((V.nth r3 0).toInt),.int .i64 ((V.nth (r3.drop 1) 0).toInt),.list aa ((V.nth ((r3.drop 1).drop 1) 0).toList),.int .i64 0]
theorem age {af aq:Int} {ae:List V} {aY:Int} {r:Option (List V)} (h:Un CC af aq ae aY=r):CC zW [.int .i64 af,.int .i64 aq,.list aa ae,.int .i64 aY]=r:=
 bc (key:=26) (L:=cf) (bs:=[]) (by kernel_rfl) ax (a9 (by kernel_rfl) h)
end Go.AM
set_option maxRecDepth 100000
namespace Go.AM
open Go.Proofs Ex
abbrev F4 (p:Ex × Int):List V:=bG p.1 [.int .i64 p.2]
def pI (x:Ex):Ex × Int:=if x.val 6=0 then (x,0) else (bf,3)
def xX (e:Ex) (c:Int):Ex × Int:=if e.val 6=0 then (if 0≤c∧c<6 then pI (aJ (bC c e)) else (bf,1)) else (bf,e.val 6)
theorem Uo {x y:Ex} {b:Bool} (hx:x.Ok):CC EC (bG x (bG y [.bool b]))=some (F4 (pI x)):=by
 refine af3 ?_
 unfold Ug pI
 refine bs (EX x hx 6) ?_
 by_cases hv:x.val 6=0
 ·rw[aj hv]
  exact bF (by simp[hv]) rfl
 ·rw[ai hv]
  exact bT (by simp[hv]) rfl
theorem F5 {c:Int} {e:Ex} (hv:e.val 6=0):Gd 6 (aJ (bC c e))∧(aJ (bC c e)).Ok∧(aJ (bC c e)).size≤160000:=by
 obtain ⟨_,U,h3⟩:=ni hv
 have a:=mi _ (sF (c:=c) e h3)
 have b:=Ln (c:=c) h3
 have d:=Bu U
 exact ⟨a,qK (by omega) _ a.2 (by omega),by omega⟩
theorem agf {e:Ex} (he:Nv e) (c:Int):CC Eg (bG e [.int .i64 c])=some (F4 (pI (aJ (bC c e)))):=by
 obtain ⟨_,U,h3⟩:=ni he.2
 refine af4 ?_
 unfold Uh
 refine bs (TU (c:=c) (nm:=true) e h3 U fun _=>he.1) ?_
 refine bs (Uo (y:=aJ e) (b:=e.cE) (F5 (c:=c) he.2).2.1) ?_
 unfold pI
 split<;>rfl
theorem Up (e:Ex) (h:e.Ok) (c:Int):CC zV (bG e [.int .i64 c])=some (F4 (xX e c)):=by
 refine af5 ?_
 unfold Ui xX
 refine bs (EX e h 6) ?_
 by_cases hv:e.val 6=0
 ·obtain ⟨_,U,h3⟩:=ni hv
  rw[aj hv]
  refine bF (by simp[hv]) ?_
  by_cases h0:0≤c
  ·refine bF (cV (by omega)) ?_
   by_cases h6:c<6
   ·rw[aj ⟨h0,h6⟩]
    refine bF (cV (by omega)) ?_
    refine bs (TU (c:=c) (nm:=false) e h3 U fun h=>by cases h) ?_
    refine bs (Uo (y:=aJ e) (b:=e.cE) (F5 (c:=c) hv).2.1) ?_
    unfold pI
    split<;>rfl
   ·rw[ai fun h=>h6 h.2]
    exact bT (dM (by omega)) rfl
  ·rw[ai fun h=>h0 h.1]
   exact bT (dM (by omega)) rfl
 ·rw[ai hv]
  refine bT (by simp[hv]) rfl
theorem Uq {o:Int} {l:List Ex}:CC tZ [.int .i64 o,.list aa (l.map enc)]=some (eo (oneOf o l)):=by
 refine af6 ?_
 unfold Uj
 match l with
 | []=>exact bF rfl rfl
 | [k]=>
  refine bT rfl (bs (a:=k.enc) rfl ?_)
  rw[aZ,bj,bd];rfl
 | k::k2::l=>
  refine bF ?_ rfl
  simp only[cw,List.length_cons]
  rw[yi];omega
section
variable {c:Int} {ks:List Ex} (hn:ks.length≤1000) (ih: ∀k∈ks,CC ot (bG k [.int .i64 c])=some (eo (bC c k)))
include hn ih
theorem LB {a b x y:Int} {l:List V}: ∀(av pre:List Ex),ks=pre++av→
  Loop (xV CC c (ks.map enc) (ks.length:Int) a b x y l) (((pre.length:Nat):Int),(pre.map (bC c)).map enc)=some ((ks.length:Int),false,(ks.map (bC c)).map enc):=by
 intro av
 induction av with
 | nil=>
  intro pre e
  rw[cU] at e
  subst e
  refine aX ?_
  simp only[xV,Bz,un]
  rw[az,ai (by omega),cV (by omega)]
 | cons k av et=>
  intro pre e
  have bQ:pre.length<ks.length:=by rw[e];simp
  have bV:idx (ks.map enc) (pre.length:Int)=some k.enc:=by rw[e];exact fT _ _ _
  refine (bR ?_).trans (et (pre++[k]) (by simp[e]))
  simp only[xV,Bz,un]
  refine bT (uV bQ) (bs bV ?_)
  rw[aZ,bj,bd]
  refine bs (ih k (by rw[e];simp)) ?_
  refine bT (xT (by simp;omega)) ?_
  rw[nC (by omega)]
  simp only[eP,cw,fK,bU,List.length_cons,List.length_nil]
  rw[dc (bC c k)]
  rfl
theorem agh {a b x y:Int} {l:List V} (hw: ∀k∈ks,k.Ok): ∀(av pre S:List Ex),ks=pre++av→S.length≤pre.length→
  ∃i,Loop (uY CC c (ks.map enc) (ks.length:Int) a b (ks.map enc) x y l) (((pre.length:Nat):Int),S.map enc)=some (i,(S++gQ c av).map enc):=by
 intro av
 induction av with
 | nil=>
  intro pre S e hS
  rw[cU] at e
  subst e
  refine ⟨((ks.length:Nat):Int),aX ?_⟩
  simp only[uY,BA,un]
  rw[az,ai (by omega),gQ,cU]
 | cons k av et=>
  intro pre S e hS
  have bQ:pre.length<ks.length:=by rw[e];simp
  have hm:k∈ks:=by rw[e];simp
  have bV:idx (ks.map enc) (pre.length:Int)=some k.enc:=by rw[e];exact fT _ _ _
  have ej: ∀{β:Type} (r:Option β) (K:V→Option β),K=K→True:=fun _ _ _=>trivial
  have hd:((ks.map enc).drop (pre.length+1)).take ((ks.map enc).length-(pre.length+1))=av.map enc:=by
   rw[yq (by simp),←List.map_drop,e,show pre.length+1=(pre++[k]).length by simp,show pre++k::av=(pre++[k])++av by simp,List.drop_left]
  have main:uY CC c (ks.map enc) (ks.length:Int) a b (ks.map enc) x y l (((pre.length:Nat):Int),S.map enc)=some (if k.cE=true then .inl ((((pre++[k]).length:Nat):Int),(S++[oneOf 5 (bC c k::av)]).map enc) else .inr (((pre.length:Nat):Int),(S++[oneOf 5 (bC c k::av)]).map enc)):=by
   simp only[uY,BA,un]
   refine bT (uV bQ) (bs bV ?_)
   rw[aZ,bj,bd]
   refine bs (ih k hm) ?_
   rw[nC (by omega),Int.toNat_natCast,hd]
   refine bT (sR.2 ⟨dM (by omega),dM (by rw[aP];omega)⟩) ?_
   have o7:av.length≤1000:=by rw[e] at hn;simp at hn;omega
   refine bT (xT (by simp;omega)) ?_
   have hj:=Uq (o:=5) (l:=bC c k::av)
   rw[cw,dc (bC c k)] at hj
   refine bs hj ?_
   refine bT (xT (by simp;omega)) ?_
   refine bs (af2 k (hw k hm)) ?_
   have hr:S.map enc++[(oneOf 5 (bC c k::av)).enc]=(S++[oneOf 5 (bC c k::av)]).map enc:=by simp
   rw[dc] at hr
   cases hk:k.cE with
   | true=>
    refine bF (by simp[hk]) ?_
    rw[aj rfl,←hr,bU]
    rfl
   | false=>
    refine bT (by simp[hk]) ?_
    rw[ai B9,←hr]
    rfl
  cases hk:k.cE with
  | true=>
   rw[hk,aj rfl] at main
   obtain ⟨i,hi⟩:=et (pre++[k]) (S++[oneOf 5 (bC c k::av)]) (by simp[e]) (by simp;omega)
   refine ⟨i,(bR main).trans (hi.trans ?_)⟩
   rw[xR,aj hk,cj];rfl
  | false=>
   rw[hk,ai B9] at main
   refine ⟨((pre.length:Nat):Int),(aX main).trans ?_⟩
   rw[xR,ai (by rw[hk];exact B9)]
end
theorem agi {c:Int}: ∀e:Ex,e.wf 6=true→e.size≤400→CC ot (bG e [.int .i64 c])=some (eo (bC c e)):=
 ind fun o l ks ih hw hs=>by
  obtain ⟨h1,U⟩:=gn hw
  have hl:=ki ks
  have FX:aI ks≤399:=by simp only[size] at hs;omega
  have uX: ∀k∈ks,k.size≤399:=fun k hk=>kS (sn hk) FX
  have gD: ∀k∈ks,CC ot (bG k [.int .i64 c])=some (eo (bC c k)):=fun k hk=>ih k hk (U k hk) (by have:=uX k hk;omega)
  have au: ∀k∈ks,k.Ok:=fun k hk=>qK (by omega) k (U k hk) (by have:=uX k hk;omega)
  refine agd ?_
  unfold Um
  simp only[Ex.op,Ex.kids,Ex.aY,aP]
  rcases eu h1 with ⟨rfl,h⟩|⟨rfl,⟨rfl,h⟩|⟨rfl,h⟩|⟨rfl,h⟩|⟨rfl,h⟩|⟨rfl,h⟩|⟨rfl,h⟩|⟨rfl,h⟩⟩
  ·refine bT rfl ?_
   rw[nD,aj rfl,db]
   by_cases oj:l=c
   ·rw[aj oj,aj oj];rfl
   ·rw[ai oj,ai oj];rfl
  ·rfl
  ·rfl
  ·refine bF rfl (bT rfl (bT rfl ?_))
   refine bs (LB (by omega) gD ks [] rfl) ?_
   rw[nD];rfl
  ·refine bF rfl (bF rfl (bF rfl (bF rfl (bF rfl (bT rfl ?_)))))
   obtain ⟨i,hi⟩:=agh (a:=5) (b:=0) (x:=0) (y:=0) (l:=[]) (by omega) gD au ks [] [] rfl (bZ _)
   refine bs hi ?_
   rw[nD]
   refine bs Uq ?_
   rfl
  ·refine bF rfl (bF rfl (bT rfl (bT rfl ?_)))
   refine bs (LB (by omega) gD ks [] rfl) ?_
   rw[nD];rfl
  ·obtain ⟨k,rfl⟩:=u6.1 (show ks.length=1 by omega)
   refine bF rfl (bF rfl (bF rfl (bF rfl (bT rfl (bs (a:=k.enc) rfl ?_)))))
   rw[aZ,bj,bd]
   refine bs (gD k (by simp)) ?_
   have hr:eo (bC c (.node 7 0 [k]))=[.int .i64 5,.int .i64 0,.list aa [(bC c k).enc,(Ex.node 7 0 [k]).enc]]:=by rw[nD];rfl
   rw[hr,dc (bC c k),dc (.node 7 0 [k])]
   rfl
  ·refine bF rfl (bF rfl (bF rfl (bT rfl ?_)))
   refine bs (LB (by omega) gD ks [] rfl) ?_
   rw[nD];rfl
theorem Ur {e:Ex} (h:e.wf 6=true):e.val 6=0↔e.depth≤40∧e.size≤400:=by
 constructor
 ·intro hv;have:=ni hv;exact ⟨this.1,this.2.1⟩
 ·intro hv;exact val_mk ⟨by omega,hv.1,hv.2,h⟩
theorem Us (e:Ex) (h:e.Ok) (c:Int):CC zW (bG e [.int .i64 c])=some (F4 (xX e c)):=by
 refine age ?_
 unfold Un xX
 refine bs (QE e h 6) ?_
 by_cases hv:e.val 6=0
 ·obtain ⟨_,U,h3⟩:=ni hv
  rw[aj hv]
  refine bF (by simp[hv]) ?_
  by_cases h0:0≤c
  ·refine bF (cV (by omega)) ?_
   by_cases h6:c<6
   ·rw[aj ⟨h0,h6⟩]
    refine bF (cV (by omega)) ?_
    refine bs (agi (c:=c) e h3 U) ?_
    have hz:=Lk (c:=c) e 6 h3
    have hq:=Bu U
    obtain ⟨g1,g2,g3⟩:=F5 (c:=c) hv
    refine bs (aft (n:=6) (by omega) (bC c e) (sF e h3) (by omega)) ?_
    refine bs (QD _ g2) ?_
    unfold pI
    by_cases hw:(aJ (bC c e)).val 6=0
    ·rw[aj hw]
     refine bF ?_ rfl
     have:=(Ur g1.2).1 hw
     simp[this]
    ·rw[ai hw]
     refine bT ?_ rfl
     have: ¬_:=fun h=>hw ((Ur g1.2).2 h)
     rw[V.aU,V.ek,cV this]
     rfl
   ·rw[ai fun h=>h6 h.2]
    exact bT (dM (by omega)) rfl
  ·rw[ai fun h=>h0 h.1]
   exact bT (dM (by omega)) rfl
 ·rw[ai hv]
  refine bT (by simp[hv]) rfl
end Go.AM
set_option maxRecDepth 100000
namespace Go.AM
open Go.Proofs
noncomputable def Ut (C:ag) (gi gj:Int) (gM:List V) (gk gl:Int) (gN:List V):Option (List V):=
 (C rV [.int .i64 gi,.int .i64 gj,.list aa gM,.int .i64 gk,.int .i64 gl,.list aa gN]).bind fun r1=>
 some [.bool ((((V.nth r1 0).toInt):Int)==0)]
theorem agj {gi gj:Int} {gM:List V} {gk gl:Int} {gN:List V} {r:Option (List V)} (h:Ut CC gi gj gM gk gl gN=r):CC wm [.int .i64 gi,.int .i64 gj,.list aa gM,.int .i64 gk,.int .i64 gl,.list aa gN]=r:=
 bc (key:=27) (L:=cf) (bs:=[]) (by kernel_rfl) ax (a9 (by kernel_rfl) h)
end Go.AM
set_option maxRecDepth 100000
namespace Go.AM
open Go.Proofs Ex
theorem agk (a:Ex) (ha:a.Ok) (b:Ex) (hb:b.Ok):CC wm (bG a (bG b []))=some [.bool (decide (cmp a b=0))]:=by
 refine agj ?_
 unfold Ut
 refine (congrArg (fun o=>Option.bind o _) (Ki a ha b hb)).trans ?_
 simp only[Option.bind_some,V.aU,V.toInt_int]
 congr 3
theorem agl {a b:Ex} (ha:a.Ok) (hb:b.Ok):CC wm (bG a (bG b []))=some [.bool (decide (a=b))]:=by
 rw[agk a ha b hb]
 refine congrArg (fun x=>some [V.bool x]) ?_
 rw[decide_eq_decide];exact Q4
theorem LC:bf.Ok:= .node (by omega) (by omega) (by simp) (by simp)
theorem agm (e:Ex) (c:Int):(xX e c).1.Ok:=by
 unfold xX
 split
 ·next hv=>
  split
  ·unfold pI
   split
   ·exact (F5 hv).2.1
   ·exact LC
  ·exact LC
 ·exact LC
def fJ (op:Int):Int:=if op=4 then 1 else if op=6 then 2 else if op=5 then 3 else if op=8 then 4 else if op=7 then 5 else 6
def ew (op least:Int) (t:List UInt8):List UInt8:=if fJ op<least then 40::(t++[41]) else t
mutual
def Ex.text:Ex→List UInt8
 | .node o l ks=>
  if o=1 then [48] else if o=2 then [49] else if o=3 then [UInt8.ofNat (97+l).toNat]
  else if o=8 then 33::texts [] 4 true ks else if o=7 then texts [] 5 true ks++[42]
  else if o=4 then texts [124] 2 true ks else if o=6 then texts [38] 3 true ks else texts [] 4 true ks
def Ex.texts (sep:List UInt8) (least:Int) (first:Bool):List Ex→List UInt8
 | []=>[]
 | k::ks=>(if first then [] else sep)++(ew k.op least (text k)++texts sep least false ks)
end
theorem agn (op least:Int) (t:List UInt8):(ew op least t).length≤t.length+2:=by
 unfold ew;split<;>simp
theorem Uu (sep:List UInt8) (hs:sep.length≤1) (least:Int): ∀(ks:List Ex) (f:Bool),(∀k∈ks,k.text.length+3≤4*k.size)→(texts sep least f ks).length≤4*aI ks
 | [],f,_=>by simp[texts]
 | k::ks,f,h=>by
  have h1:=h k (by simp)
  have U:=Uu sep hs least ks false fun k hk=>h k (by simp[hk])
  have h3:=agn k.op least k.text
  simp only[texts,bU,aI]
  cases f<;>simp<;>omega
theorem Uv: ∀e:Ex,e.text.length+3≤4*e.size:=ind fun o l ks ih=>by
 have h:=fun sep hs least=>Uu sep hs least ks true ih
 have h1:=h [] (by simp) 4
 have U:=h [] (by simp) 5
 have h3:=h [124] (by simp) 2
 have h4:=h [38] (by simp) 3
 simp only[text,size]
 repeat' split
 all_goals simp
 all_goals omega
def TX (m:Int) (k:Ex):List UInt8:=ew k.op m k.text
def mb (o:Int) (e:Ex):List Ex:=if e.op=o then e.kids else [e]
theorem BC (sep:List UInt8) (m:Int) (k:Ex) (ks:List Ex):texts sep m false (k::ks)=sep++(TX m k++texts sep m false ks):=by simp[texts,TX]
theorem BD (sep:List UInt8) (m:Int) (k:Ex) (ks:List Ex):texts sep m true (k::ks)=TX m k++texts sep m false ks:=by simp[texts,TX]
theorem Uw (e:Ex):TX 1 e=texts [124] 2 true (mb 4 e):=by
 obtain ⟨o,l,ks⟩:=e
 unfold mb TX
 by_cases h:o=4
 ·subst h;simp[Ex.op,Ex.kids,fJ,text,ew]
 ·have hl:2≤fJ o:=by
   unfold fJ
   repeat' split
   all_goals omega
  rw[ai (show¬(Ex.node o l ks).op=4 from h),BD]
  show ew o 1 _=ew o 2 _++[]
  rw[cU]
  unfold ew
  by_cases U:fJ o<1
  ·rw[aj U,aj (by omega)]
  ·rw[ai U,ai (by omega)]
theorem Ux (e:Ex):TX 2 e=texts [38] 3 true (mb 6 e):=by
 obtain ⟨o,l,ks⟩:=e
 unfold mb TX
 by_cases h:o=6
 ·subst h;simp[Ex.op,Ex.kids,fJ,text,ew]
 ·have hl:fJ o≠2:=by
   unfold fJ
   repeat' split
   all_goals omega
  rw[ai (show¬(Ex.node o l ks).op=6 from h),BD]
  show ew o 2 _=ew o 3 _++[]
  rw[cU]
  unfold ew
  by_cases U:fJ o<2
  ·rw[aj U,aj (by omega)]
  ·rw[ai U,ai (by omega)]
theorem Uy (e:Ex):TX 3 e=texts [] 4 true (mb 5 e):=by
 obtain ⟨o,l,ks⟩:=e
 unfold mb TX
 by_cases h:o=5
 ·subst h;simp[Ex.op,Ex.kids,fJ,text,ew]
 ·have hl:fJ o≠3:=by
   unfold fJ
   repeat' split
   all_goals omega
  rw[ai (show¬(Ex.node o l ks).op=5 from h),BD]
  show ew o 3 _=ew o 4 _++[]
  rw[cU]
  unfold ew
  by_cases U:fJ o<3
  ·rw[aj U,aj (by omega)]
  ·rw[ai U,ai (by omega)]
theorem BE (l:Int) (k:Ex):TX 4 (.node 8 l [k])=33::TX 4 k:=by
 simp[TX,ew,Ex.op,fJ,text,texts]
theorem BF {e:Ex} (h:e.op≠8):TX 4 e=TX 5 e:=by
 unfold TX ew fJ
 repeat' split
 all_goals first|rfl|omega
theorem ago (l:Int) (k:Ex):TX 5 (.node 7 l [k])=TX 5 k++[42]:=by
 simp[TX,ew,Ex.op,fJ,text,texts]
theorem agp {e:Ex} (h:e.op≠7):TX 5 e=TX 6 e:=by
 unfold TX ew fJ
 repeat' split
 all_goals first|rfl|omega
theorem pJ {e:Ex} (h:4≤e.op∧e.op≤8):TX 6 e=40::(TX 1 e++[41]):=by
 unfold TX ew fJ
 repeat' split
 all_goals first|rfl|omega
theorem LD {e:Ex} (h:e.wf 6=true):(e= .node 1 0 []∨e= .node 2 0 []∨(∃l:Int,0≤l∧l<6∧e= .node 3 l []))∨(4≤e.op∧e.op≤8):=by
 obtain ⟨o,l,ks⟩:=e
 obtain ⟨h1,U⟩:=gn h
 simp only[Ex.op]
 rcases eu h1 with ⟨rfl,h,h3,h4⟩|⟨rfl,⟨rfl,h⟩|⟨rfl,h⟩|⟨rfl,h⟩|⟨rfl,h⟩|⟨rfl,h⟩|⟨rfl,h⟩|⟨rfl,h⟩⟩
 ·obtain rfl:=mB.1 (show ks.length=0 by omega)
  exact .inl (.inr (.inr ⟨l,h3,h4,rfl⟩))
 ·obtain rfl:=mB.1 (show ks.length=0 by omega)
  exact .inl (.inl rfl)
 ·obtain rfl:=mB.1 (show ks.length=0 by omega)
  exact .inl (.inr (.inl rfl))
 all_goals exact .inr (by omega)
def BG (c:UInt8):Prop:=c=48∨c=49∨c=40∨c=97∨c=98∨c=99∨c=100∨c=101∨c=102
theorem qY {l:Int} (h0:0≤l) (h1:l<6):UInt8.ofNat (97+l).toNat=97∧l=0∨UInt8.ofNat (97+l).toNat=98∧l=1∨UInt8.ofNat (97+l).toNat=99∧l=2∨UInt8.ofNat (97+l).toNat=100∧l=3∨UInt8.ofNat (97+l).toNat=101∧l=4∨UInt8.ofNat (97+l).toNat=102∧l=5:=by
 rcases (show l=0∨l=1∨l=2∨l=3∨l=4∨l=5 by omega) with rfl|rfl|rfl|rfl|rfl|rfl<;>decide
theorem agq {e:Ex} (h:e.wf 6=true): ∃c t,TX 6 e=c::t∧BG c:=by
 rcases LD h with (rfl|rfl|⟨l,h0,h1,rfl⟩)|h
 ·exact ⟨48,[],rfl,.inl rfl⟩
 ·exact ⟨49,[],rfl,.inr (.inl rfl)⟩
 ·refine ⟨UInt8.ofNat (97+l).toNat,[],by simp[TX,ew,fJ,Ex.op,text],?_⟩
  unfold BG
  rcases qY h0 h1 with h|h|h|h|h|h<;>simp[h.1]
 ·exact ⟨40,_,pJ h,.inr (.inr (.inl rfl))⟩
theorem BH {o l:Int} {ks:List Ex} (h:(Ex.node o l ks).wf 6=true) (ho:o=7∨o=8): ∃k,ks=[k]∧k.wf 6=true∧l=0:=by
 obtain ⟨h1,U⟩:=gn h
 rcases eu h1 with h|⟨h0,h⟩
 ·omega
 ·obtain ⟨k,rfl⟩:=u6.1 (show ks.length=1 by omega)
  exact ⟨k,rfl,U k (by simp),h0⟩
def LF (e:Ex):Nat→Ex
 | 0=>e
 | n+1=> .node 7 0 [LF e n]
theorem LG: ∀e:Ex,e.wf 6=true→∃(b:Ex) (n:Nat),e=LF b n∧b.op≠7∧b.wf 6=true∧TX 5 e=TX 6 b++List.replicate n 42:=ind fun o l ks ih h=>by
 by_cases ho:o=7
 ·subst ho
  obtain ⟨k,rfl,hk,rfl⟩:=BH h (.inl rfl)
  obtain ⟨b,n,h1,U,h3,h4⟩:=ih k (by simp) hk
  exact ⟨b,n+1,by rw[h1];rfl,U,h3,by rw[ago,h4,List.replicate_succ',cj]⟩
 ·exact ⟨.node o l ks,0,rfl,ho,h,by rw[agp (show (Ex.node o l ks).op≠7 from ho)];simp⟩
theorem LH {e:Ex} (h:e.wf 6=true): ∃c t,TX 5 e=c::t∧BG c:=by
 obtain ⟨b,n,_,_,h3,h4⟩:=LG e h
 obtain ⟨c,t,h5,h6⟩:=agq h3
 exact ⟨c,t++List.replicate n 42,by rw[h4,h5];rfl,h6⟩
theorem agr {e:Ex} (h:e.wf 6=true): ∃c t,TX 4 e=c::t∧(c=33∨BG c):=by
 by_cases ho:e.op=8
 ·obtain ⟨o,l,ks⟩:=e
  obtain rfl:o=8:=ho
  obtain ⟨k,rfl,_⟩:=BH h (.inr rfl)
  exact ⟨33,TX 4 k,BE _ _,.inl rfl⟩
 ·obtain ⟨c,t,h1,U⟩:=LH h
  exact ⟨c,t,by rw[BF ho,h1],.inr U⟩
def gr (m:Int) (c:UInt8):Prop:=if m=1 then c=41 else if m=2 then c=41∨c=124 else if m=3 then c=41∨c=124∨c=38 else if m=6 then True else c≠42
def fo (m:Int) (r:List UInt8):Prop:= ∀c t,r=c::t→gr m c
theorem Uz {m:Int}:fo m []:=fun c t h=>by cases h
theorem LI {m:Int} {c:UInt8} {t:List UInt8} (h:gr m c):fo m (c::t):=fun c' t' e=>by cases e;exact h
def jK (m:Int) (e:Ex):Prop:= ∀(e':Ex) (r r':List UInt8),e'.wf 6=true→fo m r→fo m r'→TX m e++r=TX m e'++r'→e=e'∧r=r'
theorem BI {o:Int} {e:Ex} (h:e.wf 6=true): ∀x∈mb o e,x.wf 6=true:=fun x hx=>by
 unfold mb at hx
 split at hx
 ·obtain ⟨o,l,ks⟩:=e
  exact (gn h).2 x hx
 ·rw[ef.1 hx];exact h
theorem UA {o:Int} {e:Ex} (ho:4≤o∧o≤6) (h:e.wf 6=true): ∃x xs,mb o e=x::xs:=by
 unfold mb
 split
 ·next lf=>
  obtain ⟨o,l,ks⟩:=e
  obtain ⟨h1,U⟩:=gn h
  simp only[Ex.op] at lf
  match ks,h1 with
  | [],h1=>rcases eu h1 with h|⟨_,h⟩<;>simp at h<;>omega
  | x::xs,_=>exact ⟨x,xs,rfl⟩
 ·exact ⟨e,[],rfl⟩
theorem ags {o:Int} {e e':Ex} (ho:4≤o∧o≤6) (h:e.wf 6=true) (h':e'.wf 6=true) (he:mb o e=mb o e'):e=e':=by
 have hl: ∀{x:Ex},x.wf 6=true→x.op=o→x.aY=0∧2≤x.kids.length:=fun {x} hx Ie=>by
  obtain ⟨o,l,ks⟩:=x
  obtain ⟨h1,U⟩:=gn hx
  simp only[Ex.op,Ex.aY,Ex.kids] at*
  rcases eu h1 with h|⟨_,h⟩<;>omega
 unfold mb at he
 by_cases h1:e.op=o
 ·obtain ⟨a1,a2⟩:=hl h h1
  rw[aj h1] at he
  by_cases U:e'.op=o
  ·obtain ⟨b1,b2⟩:=hl h' U
   rw[aj U] at he
   obtain ⟨o1,l1,k1⟩:=e
   obtain ⟨o2,l2,k2⟩:=e'
   simp only[Ex.op,Ex.aY,Ex.kids] at*
   subst he h1 U a1 b1
   rfl
  ·rw[ai U] at he
   rw[he] at a2
   simp at a2
 ·rw[ai h1] at he
  by_cases U:e'.op=o
  ·obtain ⟨b1,b2⟩:=hl h' U
   rw[aj U] at he
   rw[←he] at b2
   simp at b2
  ·rw[ai U] at he
   exact (fX he).1
section
variable {sep:List UInt8} {m:Int} (hh: ∀y:Ex,y.wf 6=true→∃c t,sep++TX m y=c::t∧gr m c∧¬gr (m-1) c) (hf: ∀c,gr (m-1) c→gr m c)
include hh hf
theorem F6 {ys:List Ex} {r:List UInt8} (hy: ∀y∈ys,y.wf 6=true) (hr:fo (m-1) r):fo m (texts sep m false ys++r):=by
 cases ys with
 | nil=>exact fun c t e=>hf c (hr c t e)
 | cons y ys=>
  obtain ⟨c,t,h1,U,h3⟩:=hh y (hy y (by simp))
  rw[BC,←cj sep,h1]
  exact LI U
theorem UB: ∀(xs ys:List Ex) (r r':List UInt8),(∀x∈xs,x.wf 6=true∧jK m x)→(∀y∈ys,y.wf 6=true)→fo (m-1) r→fo (m-1) r'→texts sep m false xs++r=texts sep m false ys++r'→xs=ys∧r=r'
 | [],[],r,r',_,_,_,_,h=>⟨rfl,h⟩
 | [],y::ys,r,r',_,hy,hr,_,h=>by
  obtain ⟨c,t,h1,U,h3⟩:=hh y (hy y (by simp))
  rw[BC,←cj sep,h1] at h
  exact absurd (hr c _ (by simpa[texts] using h)) h3
 | x::xs,[],r,r',hx,_,_,hr,h=>by
  obtain ⟨c,t,h1,U,h3⟩:=hh x (hx x (by simp)).1
  rw[BC,←cj sep,h1] at h
  exact absurd (hr c _ (by simpa[texts] using h.symm)) h3
 | x::xs,y::ys,r,r',hx,hy,hr,hG,h=>by
  rw[BC,BC,cj,cj,cj,cj] at h
  obtain ⟨rfl,U⟩:=(hx x (by simp)).2 y _ _ (hy y (by simp)) (F6 hh hf (fun z hz=>(hx z (by simp[hz])).1) hr) (F6 hh hf (fun z hz=>hy z (by simp[hz])) hG) (List.append_cancel_left h)
  obtain ⟨rfl,h3⟩:=UB xs ys r r' (fun z hz=>hx z (by simp[hz])) (fun z hz=>hy z (by simp[hz])) hr hG U
  exact ⟨rfl,h3⟩
theorem LJ {o:Int} (ho:4≤o∧o≤6) (ht: ∀e:Ex,TX (m-1) e=texts sep m true (mb o e)) {e:Ex} (he:e.wf 6=true) (ih: ∀x∈mb o e,jK m x):jK (m-1) e:=by
 intro e' r r' gE hr hG h
 rw[ht,ht] at h
 obtain ⟨x,xs,hx⟩:=UA ho he
 obtain ⟨y,ys,hy⟩:=UA ho gE
 have wx:=BI (o:=o) he
 have wy:=BI (o:=o) gE
 rw[hx] at wx ih
 rw[hy] at wy
 rw[hx,hy,BD,BD,cj,cj] at h
 obtain ⟨rfl,U⟩:=ih x (by simp) y _ _ (wy y (by simp)) (F6 hh hf (fun z hz=>wx z (by simp[hz])) hr) (F6 hh hf (fun z hz=>wy z (by simp[hz])) hG) h
 obtain ⟨rfl,h3⟩:=UB hh hf xs ys r r' (fun z hz=>⟨wx z (by simp[hz]),ih z (by simp[hz])⟩) (fun z hz=>wy z (by simp[hz])) hr hG U
 exact ⟨ags ho he gE (by rw[hx,hy]),h3⟩
end
theorem LL {c:UInt8} (h:BG c):c≠33∧c≠41∧c≠42∧c≠124∧c≠38:=by
 rcases h with rfl|rfl|rfl|rfl|rfl|rfl|rfl|rfl|rfl<;>decide
theorem agt {e:Ex} (he:e.wf 6=true) (ih: ∀x∈mb 4 e,jK 2 x):jK 1 e:=
 LJ (sep:=[124]) (m:=2) (fun y _=>⟨124,_,rfl,by simp[gr],by simp[gr]⟩) (fun c h=>by simp[gr] at h⊢;exact .inl h) (o:=4) (by omega) Uw he ih
theorem sS {e:Ex} (he:e.wf 6=true) (ih: ∀x∈mb 6 e,jK 3 x):jK 2 e:=
 LJ (sep:=[38]) (m:=3) (fun y _=>⟨38,_,rfl,by simp[gr],by simp[gr]⟩) (fun c h=>by simp[gr] at h⊢;rcases h with h|h<;>simp[h]) (o:=6) (by omega) Ux he ih
theorem agu {e:Ex} (he:e.wf 6=true) (ih: ∀x∈mb 5 e,jK 4 x):jK 3 e:=
 LJ (sep:=[]) (m:=4) (fun y hy=>by
  obtain ⟨c,t,h1,U⟩:=agr hy
  refine ⟨c,t,h1,?_⟩
  rcases U with rfl|U
  ·simp[gr]
  ·have:=LL U
   simp[gr,this]) (fun c h=>by simp[gr] at h⊢;rcases h with rfl|rfl|rfl<;>decide) (o:=5) (by omega) Uy he ih
theorem agv {e:Ex} (he:e.wf 6=true) (ih8: ∀k,e= .node 8 0 [k]→jK 4 k) (ih:e.op≠8→jK 5 e):jK 4 e:=by
 intro e' r r' gE hr hG h
 by_cases h1:e.op=8
 ·obtain ⟨o,l,ks⟩:=e
  obtain rfl:o=8:=h1
  obtain ⟨k,rfl,hk,rfl⟩:=BH he (.inr rfl)
  rw[BE] at h
  by_cases U:e'.op=8
  ·obtain ⟨o',l',bL⟩:=e'
   obtain rfl:o'=8:=U
   obtain ⟨k',rfl,cZ,rfl⟩:=BH gE (.inr rfl)
   rw[BE] at h
   obtain ⟨rfl,h3⟩:=ih8 k rfl k' r r' cZ hr hG (fX h).2
   exact ⟨rfl,h3⟩
  ·rw[BF U] at h
   obtain ⟨c,t,h3,h4⟩:=LH gE
   rw[h3] at h
   exact absurd (fX h).1.symm (LL h4).1
 ·rw[BF h1] at h
  by_cases U:e'.op=8
  ·obtain ⟨o',l',bL⟩:=e'
   obtain rfl:o'=8:=U
   obtain ⟨k',rfl,cZ,rfl⟩:=BH gE (.inr rfl)
   rw[BE] at h
   obtain ⟨c,t,h3,h4⟩:=LH he
   rw[h3] at h
   exact absurd (fX h).1 (LL h4).1
  ·rw[BF U] at h
   exact ih h1 e' r r' gE (by simpa[fo,gr] using hr) (by simpa[fo,gr] using hG) h
theorem UC {r r':List UInt8} (hr:fo 5 r) (hG:fo 5 r'): ∀{n n':Nat},List.replicate n 42++r=List.replicate n' 42++r'→n=n'∧r=r'
 | 0,0,h=>⟨rfl,h⟩
 | 0,n+1,h=>by
  have:=hr 42 (List.replicate n 42++r') (by simpa[List.replicate_succ] using h)
  simp[gr] at this
 | n+1,0,h=>by
  have:=hG 42 (List.replicate n 42++r) (by simpa[List.replicate_succ] using h.symm)
  simp[gr] at this
 | n+1,n'+1,h=>by
  rw[List.replicate_succ,List.replicate_succ] at h
  obtain ⟨rfl,U⟩:=UC hr hG (fX h).2
  exact ⟨rfl,U⟩
theorem UD (r:List UInt8):fo 6 r:=fun c t _=>by simp[gr]
theorem agw {b:Ex} {n:Nat} {e:Ex} (h1:e=LF b n) (U:TX 5 e=TX 6 b++List.replicate n 42) (ih:jK 6 b):jK 5 e:=by
 intro e' r r' gE hr hG h
 obtain ⟨b',n',e1,e2,e3,e4⟩:=LG e' gE
 rw[U,e4,cj,cj] at h
 obtain ⟨rfl,h3⟩:=ih b' _ _ e3 (UD _) (UD _) h
 obtain ⟨rfl,h4⟩:=UC hr hG h3
 exact ⟨by rw[h1,e1],h4⟩
theorem agx {e:Ex} (he:e.wf 6=true) (ih:4≤e.op∧e.op≤8→jK 1 e):jK 6 e:=by
 intro e' r r' gE hr hG h
 have hl: ∀l:Int,TX 6 (.node 3 l [])=[UInt8.ofNat (97+l).toNat]:=fun l=>by simp[TX,ew,fJ,Ex.op,text]
 have t1:TX 6 (.node 1 0 [])=[48]:=rfl
 have t2:TX 6 (.node 2 0 [])=[49]:=rfl
 rcases LD he with (rfl|rfl|⟨l,h0,h1,rfl⟩)|ho<;>rcases LD gE with (rfl|rfl|⟨l',vO,jr,rfl⟩)|iU
 ·exact ⟨rfl,List.append_cancel_left h⟩
 ·rw[t1,t2] at h;cases (fX h).1
 ·rw[t1,hl] at h
  have:=(fX h).1
  rcases qY vO jr with h|h|h|h|h|h<;>(rw[h.1] at this;cases this)
 ·rw[t1,pJ iU] at h;cases (fX h).1
 ·rw[t1,t2] at h;cases (fX h).1
 ·exact ⟨rfl,List.append_cancel_left h⟩
 ·rw[t2,hl] at h
  have:=(fX h).1
  rcases qY vO jr with h|h|h|h|h|h<;>(rw[h.1] at this;cases this)
 ·rw[t2,pJ iU] at h;cases (fX h).1
 ·rw[t1,hl] at h
  have:=(fX h).1
  rcases qY h0 h1 with h|h|h|h|h|h<;>(rw[h.1] at this;cases this)
 ·rw[t2,hl] at h
  have:=(fX h).1
  rcases qY h0 h1 with h|h|h|h|h|h<;>(rw[h.1] at this;cases this)
 ·rw[hl,hl] at h
  obtain ⟨U,h3⟩:=fX h
  refine ⟨?_,h3⟩
  have:l=l':=by
   rcases qY h0 h1 with ⟨a,rfl⟩|⟨a,rfl⟩|⟨a,rfl⟩|⟨a,rfl⟩|⟨a,rfl⟩|⟨a,rfl⟩<;>rcases qY vO jr with ⟨b,rfl⟩|⟨b,rfl⟩|⟨b,rfl⟩|⟨b,rfl⟩|⟨b,rfl⟩|⟨b,rfl⟩<;>first|rfl|(rw[a,b] at U;cases U)
  rw[this]
 ·rw[hl,pJ iU] at h
  have:=(fX h).1
  rcases qY h0 h1 with h|h|h|h|h|h<;>(rw[h.1] at this;cases this)
 ·rw[t1,pJ ho] at h;cases (fX h).1
 ·rw[t2,pJ ho] at h;cases (fX h).1
 ·rw[hl,pJ ho] at h
  have:=(fX h).1
  rcases qY vO jr with h|h|h|h|h|h<;>(rw[h.1] at this;cases this)
 ·rw[pJ ho,pJ iU] at h
  have U:(TX 1 e++[41])++r=(TX 1 e'++[41])++r':=(fX h).2
  rw[cj,cj] at U
  obtain ⟨h3,h4⟩:=ih ho e' _ _ gE (LI (by simp[gr])) (LI (by simp[gr])) U
  exact ⟨h3,(fX h4).2⟩
theorem F7 {sep:List UInt8} {m:Int}: ∀{xs:List Ex} {f:Bool} {x:Ex},x∈xs→(TX m x).length≤(texts sep m f xs).length
 | y::ys,f,x,h=>by
  simp only[texts,bU]
  rcases dg.1 h with rfl|h
  ·show (ew x.op m x.text).length≤_;omega
  ·have:=F7 (sep:=sep) (m:=m) (f:=false) h
   omega
theorem UE: ∀(n:Nat) (m:Int) (e:Ex),1≤m→m≤6→e.wf 6=true→8*(TX m e).length+(7-m).toNat<n→jK m e
 | 0,m,e,_,_,_,h=>by omega
 | n+1,m,e,h1,h6,he,h=>by
  have ih:=UE n
  rcases (show m=1∨m=2∨m=3∨m=4∨m=5∨m=6 by omega) with rfl|rfl|rfl|rfl|rfl|rfl
  ·refine agt he fun x hx=>ih 2 x (by omega) (by omega) (BI he x hx) ?_
   have:=F7 (sep:=[124]) (m:=2) (f:=true) hx
   rw[Uw] at h
   omega
  ·refine sS he fun x hx=>ih 3 x (by omega) (by omega) (BI he x hx) ?_
   have:=F7 (sep:=[38]) (m:=3) (f:=true) hx
   rw[Ux] at h
   omega
  ·refine agu he fun x hx=>ih 4 x (by omega) (by omega) (BI he x hx) ?_
   have:=F7 (sep:=[]) (m:=4) (f:=true) hx
   rw[Uy] at h
   omega
  ·refine agv he (fun k hk=> ?_) fun ho=> ?_
   ·subst hk
    rw[BE,List.length_cons] at h
    exact ih 4 k (by omega) (by omega) ((gn he).2 k (by simp)) (by omega)
   ·rw[BF ho] at h
    exact ih 5 e (by omega) (by omega) he (by omega)
  ·obtain ⟨b,k,e1,e2,e3,e4⟩:=LG e he
   refine agw e1 e4 (ih 6 b (by omega) (by omega) e3 ?_)
   rw[e4,bU] at h
   omega
  ·refine agx he fun ho=>ih 1 e (by omega) (by omega) he ?_
   rw[pJ ho,List.length_cons,bU] at h
   simp only[List.length_cons,List.length_nil] at h
   omega
theorem UF (e:Ex):TX 1 e=e.text:=by
 unfold TX ew
 rw[ai]
 unfold fJ
 repeat' split
 all_goals omega
theorem UG {a b:Ex} (ha:a.wf 6=true) (hb:b.wf 6=true) (h:a.text=b.text):a=b:=
 (UE _ 1 a (by omega) (by omega) ha (yd _) b [] [] hb Uz Uz (by rw[UF,UF,h])).1
end Go.AM
set_option maxRecDepth 100000
namespace Go.AM
open Go.Proofs
noncomputable def UH (C:ag) (af aq:Int) (ae:List V):Option (List V):=
 (C zZ [.int .i64 af,.int .i64 aq,.list aa ae]).bind fun r1=>
 bif !((V.nth r1 0).toBool) then
  some [.str []]
 else
  (C rW [.int .i64 af,.int .i64 aq,.list aa ae,.list cT ([]:List V)]).bind fun r2=>
  (C Ei [.list cT ((V.nth r2 0).toList)]).bind fun r3=>
  some [.str ((V.nth r3 0).toStr)]
theorem agy {af aq:Int} {ae:List V} {r:Option (List V)} (h:UH CC af aq ae=r):CC wz [.int .i64 af,.int .i64 aq,.list aa ae]=r:=
 bc (key:=60) (L:=cf) (bs:=[]) (by kernel_rfl) ax (a9 (by kernel_rfl) h)
noncomputable abbrev ig:Code:=cJ Try.prog (ay.ba 75)
noncomputable def F8 (C:ag) (t5:Int) (t28:Bool) (en dB:Int) (cP bE:List V) {β:Type} (kr:(List V)→Option β):Option β:=
 bif t28 then
  (C rY [.list aa cP,.str [38],.int .i64 3,.list cT bE]).bind fun r5=>
  kr ((V.nth r5 0).toList)
 else
  bif (t5:Int)==5 then
  (C rY [.list aa cP,.str [],.int .i64 4,.list cT bE]).bind fun r6=>
  kr ((V.nth r6 0).toList)
  else
  bif (t5:Int)==8 then
   (C pn [.int .u8 33,.list cT bE]).bind fun r7=>
   (C rY [.list aa cP,.str [],.int .i64 4,.list cT ((V.nth r7 0).toList)]).bind fun r8=>
   kr ((V.nth r8 0).toList)
  else
   bif (t5:Int)==7 then
   (C rY [.list aa cP,.str [],.int .i64 5,.list cT bE]).bind fun r9=>
   (C pn [.int .u8 42,.list cT ((V.nth r9 0).toList)]).bind fun cR=>
   kr ((V.nth cR 0).toList)
   else
   kr bE
noncomputable def F9 (C:ag) (t5:Int) (t22:Bool) (en dB:Int) (cP bE:List V) {β:Type} (kr:(List V)→Option β):Option β:=
 bif t22 then
  (C rY [.list aa cP,.str [124],.int .i64 2,.list cT bE]).bind fun r4=>
  kr ((V.nth r4 0).toList)
 else
  F8 C t5 ((t5:Int)==6) en dB cP bE (fun (uZ:List V)=>
   kr uZ)
noncomputable def Ga (C:ag) (t5:Int) (t14:Bool) (en dB:Int) (cP bE:List V) {β:Type} (kr:(List V)→Option β):Option β:=
 bif t14 then
  (C pn [.int .u8 (IntKind.wrap .u8 (97+(IntKind.wrap .u8 dB))),.list cT bE]).bind fun r3=>
  kr ((V.nth r3 0).toList)
 else
  F9 C t5 ((t5:Int)==4) en dB cP bE (fun (BJ:List V)=>
   kr BJ)
noncomputable def Gb (C:ag) (t5:Int) (t10:Bool) (en dB:Int) (cP bE:List V) {β:Type} (kr:(List V)→Option β):Option β:=
 bif t10 then
  (C pn [.int .u8 49,.list cT bE]).bind fun r2=>
  kr ((V.nth r2 0).toList)
 else
  Ga C t5 ((t5:Int)==3) en dB cP bE (fun (agz:List V)=>
   kr agz)
noncomputable def Gc (C:ag) (t5:Int) (t6:Bool) (en dB:Int) (cP bE:List V) {β:Type} (kr:(List V)→Option β):Option β:=
 bif t6 then
  (C pn [.int .u8 48,.list cT bE]).bind fun r1=>
  kr ((V.nth r1 0).toList)
 else
  Gb C t5 ((t5:Int)==2) en dB cP bE (fun (LM:List V)=>
   kr LM)
noncomputable def UI (C:ag):cz:=fun β n ds k=>
 bif Nat.beq n 463 then iJ Jl [[0]] (@F8 C) ds k else
 bif Nat.beq n 367 then iJ Jm [[0]] (@F9 C) ds k else
 bif Nat.beq n 239 then iJ Jn [[0]] (@Ga C) ds k else
 bif Nat.beq n 175 then iJ Jo [[0]] (@Gb C) ds k else
 bif Nat.beq n 111 then iJ Jp [[0]] (@Gc C) ds k else
 none
abbrev BK (C:ag) (b:ct):Prop:=cv Try.prog ay C (UI C) 75 (cL Try.prog (ay.ba 75)) (ay.sin 75).bh.length b
theorem agA (C:ag):BK C (.cond 28 (aw [1,1,0,1,1,1,1,1,1,1,1,1,0] ig) (aw [1,1,0,1,1,1,1,1,1,1,1,1,1] ig)):=
 iZ Jl [[0]] (@F8 C) (by kernel_rfl) (bq (bs:=[]) (by kernel_rfl) ax) (bq (bs:=[]) (by kernel_rfl) ax) (fun ds=>by kernel_rfl) (fun i β k=>by kernel_rfl) (fun β ds k=>by kernel_rfl)
theorem agB (C:ag):BK C (.cond 22 (aw [1,1,0,1,1,1,1,1,1,1,0] ig) (aw [1,1,0,1,1,1,1,1,1,1,1] ig)):=
 iZ Jm [[0]] (@F9 C) (by kernel_rfl) (bq (bs:=[]) (by kernel_rfl) ax) (bq (bs:=[.cond 28 (aw [1,1,0,1,1,1,1,1,1,1,1,1,0] ig) (aw [1,1,0,1,1,1,1,1,1,1,1,1,1] ig)]) (by kernel_rfl) (bD (agA C) ax)) (fun ds=>by kernel_rfl) (fun i β k=>by kernel_rfl) (fun β ds k=>by kernel_rfl)
theorem agC (C:ag):BK C (.cond 14 (aw [1,1,0,1,1,1,1,1,0] ig) (aw [1,1,0,1,1,1,1,1,1] ig)):=
 iZ Jn [[0]] (@Ga C) (by kernel_rfl) (bq (bs:=[]) (by kernel_rfl) ax) (bq (bs:=[.cond 22 (aw [1,1,0,1,1,1,1,1,1,1,0] ig) (aw [1,1,0,1,1,1,1,1,1,1,1] ig)]) (by kernel_rfl) (bD (agB C) ax)) (fun ds=>by kernel_rfl) (fun i β k=>by kernel_rfl) (fun β ds k=>by kernel_rfl)
theorem agD (C:ag):BK C (.cond 10 (aw [1,1,0,1,1,1,0] ig) (aw [1,1,0,1,1,1,1] ig)):=
 iZ Jo [[0]] (@Gb C) (by kernel_rfl) (bq (bs:=[]) (by kernel_rfl) ax) (bq (bs:=[.cond 14 (aw [1,1,0,1,1,1,1,1,0] ig) (aw [1,1,0,1,1,1,1,1,1] ig)]) (by kernel_rfl) (bD (agC C) ax)) (fun ds=>by kernel_rfl) (fun i β k=>by kernel_rfl) (fun β ds k=>by kernel_rfl)
theorem agE (C:ag):BK C (.cond 6 (aw [1,1,0,1,0] ig) (aw [1,1,0,1,1] ig)):=
 iZ Jp [[0]] (@Gc C) (by kernel_rfl) (bq (bs:=[]) (by kernel_rfl) ax) (bq (bs:=[.cond 10 (aw [1,1,0,1,1,1,0] ig) (aw [1,1,0,1,1,1,1] ig)]) (by kernel_rfl) (bD (agD C) ax)) (fun ds=>by kernel_rfl) (fun i β k=>by kernel_rfl) (fun β ds k=>by kernel_rfl)
noncomputable def UJ (C:ag) (af aq:Int) (ae bO:List V):Option (List V):=
 Gc C af ((af:Int)==1) af aq ae bO (fun (sk:List V)=>
  some [.list cT sk])
theorem agF {af aq:Int} {ae bO:List V} {r:Option (List V)} (h:UJ CC af aq ae bO=r):CC rW [.int .i64 af,.int .i64 aq,.list aa ae,.list cT bO]=r:=
 bc (key:=75) (L:=UI CC) (bs:=[.cond 6 (aw [1,1,0,1,0] ig) (aw [1,1,0,1,1] ig)]) (by kernel_rfl) (bD (agE CC) ax) (a9 (by kernel_rfl) h)
noncomputable abbrev xY:Code:=cJ Try.prog (ay.ba 91)
noncomputable def BL (C:ag) (separator:List UInt8) (least:Int) (t10:List V) (t11 t12:Int) (t18:Bool) (ai4 ai5:Int) (ai6 bE:List V) {β:Type} (kr:(List V)→Option β):Option β:=
 bif t18 then
  (C En [.str separator,.list cT bE]).bind fun r2=>
  kr ((V.nth (r2.drop 1) 0).toList)
 else
  kr bE
noncomputable def BM (C:ag) (separator:List UInt8) (least:Int) (t10:List V) (t11 t12:Int) (er:List V) {β:Type} (kn:(Int × (List V))→Option β) (kr:(Int × Bool × (List V))→Option β):Option β:=
 bif decide ((t12:Int)<t11) then
  (idx t10 t12).bind fun x1=>
  BL C separator least t10 t11 t12 (decide ((t12:Int)>0)) ((x1.cell 0).toInt) ((x1.cell 1).toInt) ((x1.cell 2).toList) er (fun (FV:List V)=>
   (C Eo [.int .i64 ((x1.cell 0).toInt)]).bind fun r4=>
   bif decide ((((V.nth r4 0).toInt):Int)≥least) then
   (C rW [.int .i64 ((x1.cell 0).toInt),.int .i64 ((x1.cell 1).toInt),.list aa ((x1.cell 2).toList),.list cT FV]).bind fun r5=>
   kn (IntKind.wrap .i64 (t12+1),(V.nth r5 0).toList)
   else
   (C pn [.int .u8 40,.list cT FV]).bind fun r6=>
   (C rW [.int .i64 ((x1.cell 0).toInt),.int .i64 ((x1.cell 1).toInt),.list aa ((x1.cell 2).toList),.list cT ((V.nth r6 0).toList)]).bind fun r7=>
   (C pn [.int .u8 41,.list cT ((V.nth r7 0).toList)]).bind fun r8=>
   kn (IntKind.wrap .i64 (t12+1),(V.nth r8 0).toList))
 else
  kr (t12,decide ((t12:Int)<t11),er)
noncomputable def BN (C:ag) (separator:List UInt8) (least:Int) (t10:List V) (t11:Int):(Int × (List V))→Option ((Int × (List V)) ⊕ (Int × Bool × (List V))):=un fun t12 er=>BM C separator least t10 t11 t12 er (fun y=>some (.inl y)) (fun r=>some (.inr r))
noncomputable def UK (C:ag):cz:=fun β n ds k=>
 bif Nat.beq n 303 then iJ Jr [[1,2,3,4,5,7,8,9,0]] (@BL C) ds k else
 bif Nat.beq n 17 then cb Js [false,false,false,false,true,true] [[1,2,3,4,0,0,0]] (@BM C) ds k else
 none
abbrev UL (C:ag) (b:ct):Prop:=cv Try.prog ay C (UK C) 91 (cL Try.prog (ay.ba 91)) (ay.sin 91).bh.length b
theorem agG (C:ag):UL C (.cond 18 (aw [1,0,0,1,1,0,0,1,0,1,0] xY) (aw [1,0,0,1,1,0,0,1,0,1,1] xY)):=
 iZ Jr [[1,2,3,4,5,7,8,9,0]] (@BL C) (by kernel_rfl) (bq (bs:=[]) (by kernel_rfl) ax) (bq (bs:=[]) (by kernel_rfl) ax) (fun ds=>by kernel_rfl) (fun i β k=>by kernel_rfl) (fun β ds k=>by kernel_rfl)
theorem agH (C:ag):UL C (.loop (aw [1,0,0] xY)):=
 ch Js [false,false,false,false,true,true] [[1,2,3,4,0,0,0]] (@BM C) (by kernel_rfl) (bq (bs:=[.cond 18 (aw [1,0,0,1,1,0,0,1,0,1,0] xY) (aw [1,0,0,1,1,0,0,1,0,1,1] xY)]) (by kernel_rfl) (bD (agG C) ax)) (fun ds=>by kernel_rfl) (fun i x=>by kernel_rfl) (fun i x β k=>by kernel_rfl) (fun β ds k=>by kernel_rfl)
noncomputable def UM (C:ag) (kids:List V) (separator:List UInt8) (least:Int) (bO:List V):Option (List V):=
 (Loop (BN C separator least kids (kids.length:Int)) (0,bO)).bind (un fun (sc:Int)=>un fun (J8:Bool) (uZ:List V)=>
  some [.list cT uZ])
theorem agI {kids:List V} {separator:List UInt8} {least:Int} {bO:List V} {r:Option (List V)} (h:UM CC kids separator least bO=r):CC rY [.list aa kids,.str separator,.int .i64 least,.list cT bO]=r:=
 bc (key:=91) (L:=UK CC) (bs:=[.loop (aw [1,0,0] xY)]) (by kernel_rfl) (bD (agH CC) ax) (a9 (by kernel_rfl) h)
noncomputable def UN (C:ag) (op:Int):Option (List V):=
 bif (op:Int)==4 then
  some [.int .i64 1]
 else
  bif (op:Int)==6 then
  some [.int .i64 2]
  else
  bif (op:Int)==5 then
   some [.int .i64 3]
  else
   bif (op:Int)==8 then
   some [.int .i64 4]
   else
   bif (op:Int)==7 then
    some [.int .i64 5]
   else
    some [.int .i64 6]
theorem agJ {op:Int} {r:Option (List V)} (h:UN CC op=r):CC Eo [.int .i64 op]=r:=
 bc (key:=104) (L:=cf) (bs:=[]) (by kernel_rfl) ax (a9 (by kernel_rfl) h)
noncomputable def UO (C:ag) (c:Int) (bO:List V):Option (List V):=
 bif Nat.ble ((bO.length+([.int .u8 c]:List V).length)*1) bS then
  some [.list cT (bO++([.int .u8 c]:List V))]
 else none
theorem agK {c:Int} {bO:List V} {r:Option (List V)} (h:UO CC c bO=r):CC pn [.int .u8 c,.list cT bO]=r:=
 bc (key:=90) (L:=cf) (bs:=[]) (by kernel_rfl) ax (a9 (by kernel_rfl) h)
noncomputable def UP (C:ag) (s:List UInt8) (bO:List V):Option (List V):=
 bif Nat.ble ((bO.length+(s.map dq).length)*1) bS then
  some [.int .i64 (s.length:Int),.list cT (bO++(s.map dq))]
 else none
theorem agL {s:List UInt8} {bO:List V} {r:Option (List V)} (h:UP CC s bO=r):CC En [.str s,.list cT bO]=r:=
 bc (key:=103) (L:=cf) (bs:=[]) (by kernel_rfl) ax (a9 (by kernel_rfl) h)
noncomputable def UQ (C:ag) (bO:List V):Option (List V):=
 bif Nat.blt 0 bO.length then
  bif decide (0<(bO.length:Int))&&(decide ((bO.length:Int)≤(bO.length:Int))&&(Nat.ble (((bO.length:Int):Int).toNat) rr&&(bO.take (((bO.length:Int):Int).toNat)).all vj)) then
  some [.str (kz (bO.take (((bO.length:Int):Int).toNat)))]
  else none
 else none
theorem agM {bO:List V} {r:Option (List V)} (h:UQ CC bO=r):CC Ei [.list cT bO]=r:=
 bc (key:=76) (L:=cf) (bs:=[]) (by kernel_rfl) ax (a9 (by kernel_rfl) h)
end Go.AM
set_option maxRecDepth 100000
namespace Go.AM
open Go.Proofs Ex
theorem u0 (c:UInt8) (b:List UInt8) (h:b.length<2^40):CC pn [.int .u8 c.toNat,.list cT (b.map dq)]=some [.list cT ((b++[c]).map dq)]:=by
 refine agK ?_
 unfold UO
 simp only[zQ]
 rw[aj (by simp[bS];omega)]
 simp[dq]
theorem agN (s b:List UInt8) (h:b.length+s.length<2^40):CC En [.str s,.list cT (b.map dq)]=some [.int .i64 s.length,.list cT ((b++s).map dq)]:=by
 refine agL ?_
 unfold UP
 simp only[zQ]
 rw[aj (by simp[bS];omega)]
 simp
theorem agO (b:List UInt8):kz (b.map dq)=b:=by
 unfold kz
 rw[List.map_map]
 have:((fun x:V=>UInt8.ofNat x.toInt.toNat) ∘ dq)=id:=by
  funext c
  simp[dq]
 rw[this,List.map_id]
theorem agP (b:List UInt8) (h0:b≠[]) (h:b.length<2^40):CC Ei [.list cT (b.map dq)]=some [.str b]:=by
 refine agM ?_
 unfold UQ
 have hp:0<b.length:=by cases b<;>simp at h0⊢
 have h1:Nat.blt 0 (b.map dq).length=true:=by rw[jM];simpa using hp
 have U:(((b.map dq).length:Int)).toNat=(b.map dq).length:=by simp
 have h3:Nat.ble (b.map dq).length rr=true:=Nat.ble_eq_true_of_le (by simp[rr];omega)
 have h4:(b.map dq).all vj=true:=by
  rw[fe]
  intro x hx
  obtain ⟨c,_,rfl⟩:=fY.1 hx
  have:=c.toNat_lt
  simp[vj,dq]
  omega
 rw[h1,U,pN,h3,h4,agO]
 simp[hp]
theorem agQ (op:Int):CC Eo [.int .i64 op]=some [.int .i64 (fJ op)]:=by
 refine agJ ?_
 unfold UN fJ
 simp only[db]
 repeat' split
 all_goals rfl
theorem agR {ks:List Ex} (hlen:ks.length≤maxLen) (ih: ∀k∈ks,∀b:List UInt8,b.length+k.text.length<2^40→CC rW (bG k [.list cT (b.map dq)])=some [.list cT ((b++k.text).map dq)]) (sep:List UInt8) (least:Int):
  ∀(av pre:List Ex) (b:List UInt8),ks=pre++av→b.length+(texts sep least pre.isEmpty av).length<2^40→
  ∃i t,Loop (BN CC sep least (ks.map enc) ((ks.map enc).length:Int)) (((pre.length:Nat):Int),b.map dq)=some (i,t,(b++texts sep least pre.isEmpty av).map dq):=by
 intro av
 induction av with
 | nil=>
  intro pre b aS hb
  subst aS
  refine ⟨((pre.length:Nat):Int),false,aX ?_⟩
  simp only[BN,BM,un,cU,aP,az,texts]
  rw[ai (by omega)]
  simp
 | cons k av et=>
  intro pre b aS hb
  have bQ:pre.length<ks.length:=by rw[aS];simp
  have hm:k∈ks:=by rw[aS];simp
  have:=pt
  have bV:idx (ks.map enc) (pre.length:Int)=some k.enc:=by rw[aS];exact fT _ _ _
  generalize gG:(if pre.isEmpty then [] else sep)=sp
  have ht:texts sep least pre.isEmpty (k::av)=sp++(ew k.op least k.text++texts sep least false av):=by simp only[texts,gG]
  rw[ht] at hb⊢
  simp only[bU] at hb
  have ej:BN CC sep least (ks.map enc) ((ks.map enc).length:Int) (((pre.length:Nat):Int),b.map dq)=some (.inl ((((pre++[k]).length:Nat):Int),(b++sp++ew k.op least k.text).map dq)):=by
   have h1: ∀{β:Type} (kr:List V→Option β) (o l:Int) (es:List V),BL CC sep least (ks.map enc) ((ks.length:Nat):Int) ((pre.length:Nat):Int) (decide (((pre.length:Nat):Int)>0)) o l es (b.map dq) kr=kr ((b++sp).map dq):=by
    intro β kr o l es
    unfold BL
    cases pre with
    | nil=>
     simp at gG
     subst gG
     simp
    | cons a pre=>
     simp at gG
     subst gG
     rw[agN _ _ (by omega)]
     have:(0:Int)<((a::pre).length:Int):=by simp only[List.length_cons];omega
     simp[this]
   simp only[BN,BM,un,aP,az]
   rw[aj (by omega),bV]
   simp only[Option.bind_some,aZ,bj,bd]
   rw[h1,agQ]
   simp only[Option.bind_some,V.aU,V.toInt_int,az]
   unfold ew at hb⊢
   by_cases hl:fJ k.op<least
   ·rw[ai (by omega),aj hl]
    rw[aj hl] at hb
    simp only[List.length_cons,bU,List.length_nil] at hb
    rw[show (V.int .u8 40)= .int .u8 (((40:UInt8).toNat:Nat):Int) by rfl,show (V.int .u8 41)= .int .u8 (((41:UInt8).toNat:Nat):Int) by rfl]
    rw[u0 _ _ (by simp;omega)]
    simp only[Option.bind_some,V.aU,V.j8]
    rw[ih k hm _ (by simp;omega)]
    simp only[Option.bind_some,V.aU,V.j8]
    rw[u0 _ _ (by simp;omega),wrap64 (by omega) (by omega)]
    simp
   ·rw[aj (by omega),ai hl]
    rw[ai hl] at hb
    rw[ih k hm _ (by simp;omega)]
    simp only[Option.bind_some,V.aU,V.j8]
    rw[wrap64 (by omega) (by omega)]
    simp
  rw[bR ej]
  have hE:(pre++[k]).isEmpty=false:=by cases pre<;>rfl
  have h3:=et (pre++[k]) (b++sp++ew k.op least k.text) (by rw[aS];simp)
  rw[hE] at h3
  obtain ⟨i,t,U⟩:=h3 (by simp only[bU];omega)
  refine ⟨i,t,U.trans ?_⟩
  simp
theorem agS {ks:List Ex} (hlen:ks.length≤maxLen) (ih: ∀k∈ks,∀b:List UInt8,b.length+k.text.length<2^40→CC rW (bG k [.list cT (b.map dq)])=some [.list cT ((b++k.text).map dq)]) (sep:List UInt8) (least:Int) (b:List UInt8)
  (hb:b.length+(texts sep least true ks).length<2^40):CC rY [.list aa (ks.map enc),.str sep,.int .i64 least,.list cT (b.map dq)]=some [.list cT ((b++texts sep least true ks).map dq)]:=by
 refine agI ?_
 unfold UM
 obtain ⟨i,t,h⟩:=agR hlen ih sep least ks [] b rfl hb
 simp only[List.length_nil,Int.ofNat_zero,Int.natCast_zero,List.isEmpty_nil] at h
 erw [h]
 rfl
theorem agT {l n:Int} (h:dC 3 l n 6=true):0≤l∧l<6:=by
 simp[dC] at h;omega
theorem UR {o l n letters:Int} (ho:o<1∨8<o):dC o l n letters=false:=by
 have n1:o≠1:=by omega
 have n2:o≠2:=by omega
 have n3:o≠3:=by omega
 have n7:o≠7:=by omega
 have n8:o≠8:=by omega
 have n9: ¬(4≤o∧o≤6∧2≤n):=by omega
 simp[dC,n1,n2,n3,n7,n8,n9]
theorem agU: ∀e:Ex,e.Ok→e.wf 6=true→∀b:List UInt8,b.length+e.text.length<2^40→CC rW (bG e [.list cT (b.map dq)])=some [.list cT ((b++e.text).map dq)]:=
 ind fun o l ks ih au zP b hb=>by
  obtain ⟨w1,w2⟩:=gn zP
  have hw:=fun sep least b=>agS au.len (fun k hk=>ih k hk (au.lA k hk) (w2 k hk)) sep least b
  refine agF ?_
  unfold UJ Gc Gb Ga F9 F8
  simp only[Ex.op,Ex.aY,Ex.kids]
  rcases w4 o with rfl|rfl|rfl|rfl|rfl|rfl|rfl|rfl|ho
  case inr.inr.inr.inr.inr.inr.inr.inr=>rw[UR ho] at w1;cases w1
  ·simp[text] at hb⊢
   rw[show (V.int .u8 48)= .int .u8 (((48:UInt8).toNat:Nat):Int) by rfl,u0 _ _ (by omega)]
   simp
  ·simp[text] at hb⊢
   rw[show (V.int .u8 49)= .int .u8 (((49:UInt8).toNat:Nat):Int) by rfl,u0 _ _ (by omega)]
   simp
  ·have hl:=agT w1
   simp[text] at hb⊢
   rw[D2 (x:=l) (by omega) (by omega),D2 (by omega) (by omega)]
   have:(V.int .u8 (97+l))= .int .u8 (((UInt8.ofNat (97+l).toNat).toNat:Nat):Int):=by
    have:(97+l).toNat<256:=by omega
    simp only[UInt8.toNat_ofNat']
    congr 1
    omega
   rw[this,u0 _ _ (by omega)]
   simp
  ·simp[text] at hb⊢
   rw[hw _ _ _ (by omega)]
   simp
  ·simp[text] at hb⊢
   rw[hw _ _ _ (by omega)]
   simp
  ·simp[text] at hb⊢
   rw[hw _ _ _ (by omega)]
   simp
  ·simp[text] at hb⊢
   rw[hw _ _ _ (by omega)]
   simp only[Option.bind_some,V.aU,V.j8]
   rw[show (V.int .u8 42)= .int .u8 (((42:UInt8).toNat:Nat):Int) by rfl,u0 _ _ (by simp;omega)]
   simp
  ·simp[text] at hb⊢
   rw[show (V.int .u8 33)= .int .u8 (((33:UInt8).toNat:Nat):Int) by rfl,u0 _ _ (by omega)]
   simp only[Option.bind_some,V.aU,V.j8]
   rw[hw _ _ _ (by simp;omega)]
   simp
theorem agV: ∀e:Ex,e.wf 6=true→e.text≠[]:=ind fun o l ks ih h=>by
 obtain ⟨w1,w2⟩:=gn h
 rcases w4 o with rfl|rfl|rfl|rfl|rfl|rfl|rfl|rfl|ho
 case inr.inr.inr.inr.inr.inr.inr.inr=>rw[UR ho] at w1;cases w1
 case inr.inr.inr.inl=>
  intro hh
  match ks,w1,hh with
  | [],w1,_=>simp[dC] at w1
  | [a],w1,_=>simp[dC] at w1
  | a::b::l,_,hh=>simp[text,texts] at hh
 case inr.inr.inr.inr.inr.inl=>
  intro hh
  match ks,w1,hh with
  | [],w1,_=>simp[dC] at w1
  | [a],w1,_=>simp[dC] at w1
  | a::b::l,_,hh=>simp[text,texts] at hh
 case inr.inr.inr.inr.inl=>
  intro hh
  match ks,w1,w2,hh,ih with
  | [],w1,_,_,_=>simp[dC] at w1
  | a::ks,_,w2,hh,ih=>
   have:=ih a (by simp) (w2 a (by simp))
   simp[text,texts,ew] at hh
   split at hh
   ·simp at hh
   ·exact this hh.1
 all_goals simp[text]
theorem agW (e:Ex) (h:e.Ok):CC wz (bG e [])=some [.str (if e.val 6=0 then e.text else [])]:=by
 refine agy ?_
 unfold UH
 rw[Rz e h]
 by_cases hv:e.val 6=0
 ·obtain ⟨_,U,h3⟩:=ni hv
  have hl:=Uv e
  have hw:=agU e h h3 [] (by simp;omega)
  simp only[fK,List.nil_append] at hw
  simp only[Option.bind_some,V.aU,V.ek,hv,ra,pP,cond_false,cF]
  rw[hw]
  simp only[Option.bind_some,V.aU,V.j8]
  rw[agP _ (agV e h3) (by omega)]
  simp
 ·simp[hv]
end Go.AM
set_option maxRecDepth 100000
namespace Go.AM
structure Da where
 L:Nat
 st:Nat
 F:List Bool
 N:List (List Nat)
deriving DecidableEq
namespace Da
def n (d:Da):Nat:=d.F.length
def nx (d:Da) (q x:Nat):Nat:=(d.N.getD q []).getD x 0
def fin (d:Da) (q:Nat):Bool:=d.F.getD q false
def run (d:Da) (q:Nat) (w:List Nat):Nat:=w.foldl d.nx q
def acc (d:Da) (q:Nat) (w:List Nat):Bool:=d.fin (d.run q w)
structure Ok (d:Da):Prop where
 l1:1≤d.L
 l6:d.L≤6
 nN:d.N.length=d.n
 row: ∀r∈d.N,r.length=d.L∧∀q∈r,q<d.n
 s:d.st<d.n
 cX:d.n≤512
end Da
def WL (L:Nat) (w:List Nat):Prop:= ∀x∈w,x<L
theorem WL.nil {L:Nat}:WL L []:=fun _ h=>by cases h
theorem WL.cons {L x:Nat} {w:List Nat} (h:x<L) (hw:WL L w):WL L (x::w):=fun y hy=>by
 rcases dg.1 hy with rfl|hy
 ·exact h
 ·exact hw y hy
theorem WL.tail {L x:Nat} {w:List Nat} (h:WL L (x::w)):WL L w:=fun y hy=>h y (by simp[hy])
theorem WL.app {L:Nat} {v w:List Nat}:WL L (v++w)↔WL L v∧WL L w:=by
 unfold WL
 simp only[ey]
 exact ⟨fun h=>⟨fun x hx=>h x (.inl hx),fun x hx=>h x (.inr hx)⟩,fun h x hx=>hx.elim (h.1 x) (h.2 x)⟩
namespace Da
def Ge (d:Da) (q:Nat) (d':Da) (q':Nat):Prop:= ∀w,WL d.L w→d.acc q w=d'.acc q' w
theorem Ge.nx {d d':Da} {q q' x:Nat} (h:d.Ge q d' q') (hx:x<d.L):d.Ge (d.nx q x) d' (d'.nx q' x):=fun w hw=>h (x::w) (hw.cons hx)
def pos (d:Da) (t:Nat):Nat:=d.nx (t/d.L) (t %d.L)
def mt (d:Da):Nat→Nat
 | 0=>1
 | t+1=>if d.pos t=d.mt t then d.mt t+1 else d.mt t
structure Num (d:Da):Prop where
 le: ∀t,t<d.n*d.L→d.pos t≤d.mt t
 row: ∀q,q<d.n→q<d.mt (q*d.L)
 all:d.mt (d.n*d.L)=d.n
structure Canon (d:Da) (L:Nat) (K:List Nat→Bool):Prop where
 ok:d.Ok
 hL:d.L=L
 st:d.st=0
 num:d.Num
 red: ∀p q,p<d.n→q<d.n→d.Ge p d q→p=q
 ai7: ∀w,WL L w→d.acc 0 w=K w
end Da
section
variable {α:Type} [DecidableEq α]
def agX (S:List α) (a:α):List α:=if a∈S then S else S++[a]
def US (next:α→Nat→α) (S:List α) (a:α):Nat→List α
 | 0=>S
 | x+1=>agX (US next S a x) (next a x)
def BO (L:Nat) (next:α→Nat→α) (a0:α):Nat→List α
 | 0=>[a0]
 | i+1=>match (BO L next a0 i)[i]? with
  | some a=>US next (BO L next a0 i) a L
  | none=>BO L next a0 i
variable {L:Nat} {next:α→Nat→α} {a0:α}
section
variable {k:Nat} (hd:(BO L next a0 k).length≤k)
include hd
end
section
variable {k:Nat} (hd:(BO L next a0 k).length≤k) {fin:α→Bool}
include hd
end
end
namespace Da
end Da
end Go.AM
set_option maxRecDepth 100000
namespace Go.AM
open Go.Proofs
section
variable {α:Type} (ke:α→V)
def lG (i:Nat):List α→List V
 | []=>[]
 | a::S=> .bm [ke a,iV (i:Int)]::lG (i+1) S
where iV (n:Int):V:= .int .i64 n
end
section
variable {α:Type} [DecidableEq α] {ke:α→V}
variable (hk: ∀a b,lK (ke a) (ke b)=decide (a=b))
include hk
theorem UT (x:α): ∀(S:List α) (i:Nat),kZ (ke x) (lG ke i S)=decide (x∈S)
 | [],_=>by simp[lG,kZ]
 | a::S,i=>by
  have c: ∀(p q:V),(V.bm [p,q]).comp 0=p:=fun p q=>rfl
  rw[lG,kZ,c,hk,UT x S (i+1)]
  rw[oQ]
  simp
theorem UU (x:α) (z:V): ∀(S:List α) (i:Nat),x∈S→lL (ke x) (lG ke i S) z= .int .i64 ((i+S.idxOf x:Nat):Int)
 | [],_,h=>by cases h
 | a::S,i,h=>by
  have c: ∀(p q:V),(V.bm [p,q]).comp 0=p:=fun p q=>rfl
  have c1: ∀(p q:V),(V.bm [p,q]).comp 1=q:=fun p q=>rfl
  rw[lG,lL,c,c1,hk]
  by_cases e:x=a
  ·subst e
   rw[dM rfl]
   simp[lG.iV]
  ·rw[cV e,cond_false,UU x z S (i+1) ((dg.1 h).resolve_left e),show (a::S).idxOf x=S.idxOf x+1 from by rw[List.idxOf_cons,show (a==x)=false from yi.2 fun h=>e h.symm];rfl]
   congr 2
   omega
theorem UW (x:α): ∀(S:List α) (i:Nat),x∉S→il (ke x) (.int .i64 ((i+S.length:Nat):Int)) (lG ke i S)=lG ke i (S++[x])
 | [],i,_=>by simp[lG,il,lG.iV]
 | a::S,i,h=>by
  have c: ∀(p q:V),(V.bm [p,q]).comp 0=p:=fun p q=>rfl
  have e:x≠a:=fun e=>h (by simp[e])
  rw[lG,il,c,hk,cV e,cond_false,List.cons_append,lG]
  congr 1
  have:=UW x S (i+1) fun hx=>h (by simp[hx])
  rw[←this]
  simp only[List.length_cons]
  congr 3
  omega
end
noncomputable def UX (C:ag) (af aq:Int) (ae:List V) (c8 dr:Int) (bO er bE:List V):Option (List V):=
 (C wz [.int .i64 af,.int .i64 aq,.list aa ae]).bind fun r1=>
 bif Nat.ble (((V.nth r1 0).toStr).length) maxLen&&true then
  bif Nat.ble ((bO.length+([.agg [.int .i64 0,.int .i64 0,.list aa ([]:List V)]]:List V).length)*40) bS then
  bif (decide (0≤(bO.length:Int)))&&(decide ((bO.length:Int)<((bO++([.agg [.int .i64 0,.int .i64 0,.list aa ([]:List V)]]:List V)).length:Int))) then
   ((bO++([.agg [.int .i64 0,.int .i64 0,.list aa ([]:List V)]]:List V))[((bO.length:Int):Int).toNat]?).bind fun x2=>
   some [.int .i64 (bO.length:Int),.int .i64 c8,.int .i64 dr,.list dR (il (.str ((V.nth r1 0).toStr)) (.int .i64 (bO.length:Int)) bE),.list aa ((bO++([.agg [.int .i64 0,.int .i64 0,.list aa ([]:List V)]]:List V)).set (((bO.length:Int):Int).toNat) (.agg [.int .i64 af,.int .i64 aq,.list aa ae])),.list dj er]
  else none
  else none
 else none
theorem agY {af aq:Int} {ae:List V} {c8 dr:Int} {bO er bE:List V} {r:Option (List V)} (h:UX CC af aq ae c8 dr bO er bE=r):CC zY [.int .i64 af,.int .i64 aq,.list aa ae,.int .i64 c8,.int .i64 dr,.list aa bO,.list dj er,.list dR bE]=r:=
 bc (key:=57) (L:=cf) (bs:=[]) (by kernel_rfl) ax (a9 (by kernel_rfl) h)
noncomputable def UY (C:ag) (af aq:Int) (ae:List V) (letters:Int):Option (List V):=
 (C zY [.int .i64 af,.int .i64 aq,.list aa ae,.int .i64 letters,.int .i64 0,.list aa ([]:List V),.list dj ([]:List V),.list dR ([]:List V)]).bind fun r1=>
 some [.int .i64 ((V.nth (r1.drop 1) 0).toInt),.int .i64 ((V.nth ((r1.drop 1).drop 1) 0).toInt),.list aa ((V.nth (((r1.drop 1).drop 2).drop 1) 0).toList),.list dj ((V.nth ((((r1.drop 1).drop 2).drop 1).drop 1) 0).toList),.list dR ((V.nth ((r1.drop 1).drop 2) 0).toList)]
theorem agZ {af aq:Int} {ae:List V} {letters:Int} {r:Option (List V)} (h:UY CC af aq ae letters=r):CC Ec [.int .i64 af,.int .i64 aq,.list aa ae,.int .i64 letters]=r:=
 bc (key:=40) (L:=cf) (bs:=[]) (by kernel_rfl) ax (a9 (by kernel_rfl) h)
noncomputable def UZ (C:ag) (c8 dr:Int) (bO er bE:List V):Option (List V):=
 some [.bool ((dr:Int)==(bO.length:Int)),.int .i64 c8,.int .i64 dr,.list dR bE,.list aa bO,.list dj er]
theorem ag0 {c8 dr:Int} {bO er bE:List V} {r:Option (List V)} (h:UZ CC c8 dr bO er bE=r):CC Ee [.int .i64 c8,.int .i64 dr,.list aa bO,.list dj er,.list dR bE]=r:=
 bc (key:=42) (L:=cf) (bs:=[]) (by kernel_rfl) ax (a9 (by kernel_rfl) h)
noncomputable abbrev U0:Code:=cJ Try.prog (ay.ba 43)
noncomputable def sL (C:ag) (t16 t17 c8 dr:Int) (bE rows dS eE:List V) {β:Type} (kn:(Int × Int × Int × (List V) × (List V) × (List V) × (List V))→Option β) (kr:((Int × Int × Int × (List V) × (List V) × (List V)) ⊕ (Int × Bool × Int × Int × (List V) × (List V) × (List V) × (List V)))→Option β):Option β:=
 bif decide ((t17:Int)<t16) then
  bif (decide (0≤dr))&&(decide (dr<(dS.length:Int))) then
  (dS[(dr:Int).toNat]?).bind fun x1=>
  (C Eg [.int .i64 ((x1.cell 0).toInt),.int .i64 ((x1.cell 1).toInt),.list aa ((x1.cell 2).toList),.int .i64 t17]).bind fun r2=>
  bif (((V.nth (r2.drop 3) 0).toInt):Int) != 0 then
   kr (.inl ((V.nth (r2.drop 3) 0).toInt,c8,dr,bE,dS,eE))
  else
   (C wz [.int .i64 ((V.nth r2 0).toInt),.int .i64 ((V.nth (r2.drop 1) 0).toInt),.list aa ((V.nth ((r2.drop 1).drop 1) 0).toList)]).bind fun r3=>
   bif Nat.ble (((V.nth r3 0).toStr).length) maxLen&&true then
   bif !(kZ (.str ((V.nth r3 0).toStr)) bE) then
    bif ((dS.length:Int):Int)==512 then
    kr (.inl (3,c8,dr,bE,dS,eE))
    else
    (C zY [.int .i64 ((V.nth r2 0).toInt),.int .i64 ((V.nth (r2.drop 1) 0).toInt),.list aa ((V.nth ((r2.drop 1).drop 1) 0).toList),.int .i64 c8,.int .i64 dr,.list aa dS,.list dj eE,.list dR bE]).bind fun r4=>
    bif (decide (0≤t17))&&(decide (t17<(rows.length:Int))) then
     (rows[(t17:Int).toNat]?).bind fun x5=>
     kn (IntKind.wrap .i64 (t17+1),(V.nth (r4.drop 1) 0).toInt,(V.nth ((r4.drop 1).drop 1) 0).toInt,(V.nth ((r4.drop 1).drop 2) 0).toList,rows.set ((t17:Int).toNat) (.int .i64 ((V.nth r4 0).toInt)),(V.nth (((r4.drop 1).drop 2).drop 1) 0).toList,(V.nth ((((r4.drop 1).drop 2).drop 1).drop 1) 0).toList)
    else none
   else
    bif (decide (0≤t17))&&(decide (t17<(rows.length:Int))) then
    (rows[(t17:Int).toNat]?).bind fun x6=>
    kn (IntKind.wrap .i64 (t17+1),c8,dr,bE,rows.set ((t17:Int).toNat) (.int .i64 ((lL (.str ((V.nth r3 0).toStr)) bE (.int .i64 0)).toInt)),dS,eE)
    else none
   else none
  else none
 else
  kr (.inr (t17,decide ((t17:Int)<t16),c8,dr,bE,rows,dS,eE))
noncomputable def oM (C:ag) (t16:Int):(Int × Int × Int × (List V) × (List V) × (List V) × (List V))→Option ((Int × Int × Int × (List V) × (List V) × (List V) × (List V)) ⊕ ((Int × Int × Int × (List V) × (List V) × (List V)) ⊕ (Int × Bool × Int × Int × (List V) × (List V) × (List V) × (List V)))):=un fun t17=>un fun c8=>un fun dr=>un fun bE=>un fun rows=>un fun dS eE=>sL C t16 t17 c8 dr bE rows dS eE (fun y=>some (.inl y)) (fun r=>some (.inr r))
noncomputable def U1 (C:ag):cz:=fun β n ds k=>
 bif Nat.beq n 49 then cb IZ [false,true,true,true,true,true,true,true] [[0,0,0,0,0,0],[1,0,0,0,0,0,0,0,0]] (@sL C) ds k else
 none
abbrev ag1 (C:ag) (b:ct):Prop:=cv Try.prog ay C (U1 C) 43 (cL Try.prog (ay.ba 43)) (ay.sin 43).bh.length b
theorem ag2 (C:ag):ag1 C (.loop (aw [1,1,0,1,0,0] U0)):=
 ch IZ [false,true,true,true,true,true,true,true] [[0,0,0,0,0,0],[1,0,0,0,0,0,0,0,0]] (@sL C) (by kernel_rfl) (bq (bs:=[]) (by kernel_rfl) ax) (fun ds=>by kernel_rfl) (fun i x=>by kernel_rfl) (fun i x β k=>by kernel_rfl) (fun β ds k=>by kernel_rfl)
noncomputable def U2 (C:ag) (c8 dr:Int) (bO er bE:List V):Option (List V):=
 bif (decide (0≤c8))&&((decide (c8≤c8))&&(Nat.ble (((c8:Int).toNat)*8) bS)) then
  (Loop (oM C ((List.replicate ((c8:Int).toNat) (V.int .i64 0)).length:Int)) (0,c8,dr,bE,List.replicate ((c8:Int).toNat) (V.int .i64 0),bO,er)).bind (cq (un fun (py:Int)=>un fun (LN:Int)=>un fun (BP:Int)=>un fun (BQ:List V)=>un fun (uZ:List V) (BJ:List V)=>
   some [.int .i64 py,.int .i64 LN,.int .i64 BP,.list dR BQ,.list aa uZ,.list dj BJ]) (un fun (J9:Int)=>un fun (wS:Bool)=>un fun (LO:Int)=>un fun (LP:Int)=>un fun (BB:List V)=>un fun (BR:List V)=>un fun (LQ:List V) (BT:List V)=>
   bif Nat.ble ((BT.length+([.list m8 BR]:List V).length)*24) bS then
   some [.int .i64 0,.int .i64 LO,.int .i64 (IntKind.wrap .i64 (LP+1)),.list dR BB,.list aa LQ,.list dj (BT++([.list m8 BR]:List V))]
   else none))
 else none
theorem ag3 {c8 dr:Int} {bO er bE:List V} {r:Option (List V)} (h:U2 CC c8 dr bO er bE=r):CC wq [.int .i64 c8,.int .i64 dr,.list aa bO,.list dj er,.list dR bE]=r:=
 bc (key:=43) (L:=U1 CC) (bs:=[.loop (aw [1,1,0,1,0,0] U0)]) (by kernel_rfl) (bD (ag2 CC) ax) (a9 (by kernel_rfl) h)
end Go.AM
set_option maxRecDepth 100000
namespace Go.AM
open Go.Proofs Ex
def pK (r:List Int):V:= .list m8 (r.map fun n=> .int .i64 n)
def fb (es:List Ex):List V:=lG V.str 0 (es.map Ex.text)
theorem LR (a b:List UInt8):lK (.str a) (.str b)=decide (a=b):=by
 simp only[lK,V.cells,sV,vd,Bool.and_true]
 rw[oQ]
 simp
theorem LU {es:List Ex} (h: ∀e∈es,Nv e) {d:Ex} (hd:Nv d):d.text∈es.map Ex.text↔d∈es:=by
 rw[fY]
 constructor
 ·rintro ⟨a,ha,he⟩
  rw[←UG (h a ha).1.2 hd.1.2 he];exact ha
 ·exact fun hx=>⟨d,hx,rfl⟩
theorem U3 {α β:Type} [DecidableEq α] [DecidableEq β] {f:α→β} {d:α}: ∀{es:List α},(∀e∈es,f e=f d→e=d)→(es.map f).idxOf (f d)=es.idxOf d
 | [],_=>rfl
 | e::es,h=>by
  rw[cw,List.idxOf_cons,List.idxOf_cons,U3 fun x hx=>h x (by simp[hx])]
  have:(f e==f d)=(e==d):=by
   rw[oQ,beq_iff_eq,beq_iff_eq]
   exact ⟨h e (by simp),fun h=>by rw[h]⟩
  rw[this]
theorem Gf {e:Ex} (h:e.val 6=0):(Nat.ble e.text.length maxLen&&true)=true:=by
 have a:=Uv e
 have b:=ni h
 rw[Bool.and_true,dm]
 unfold maxLen
 omega
theorem Gg {e:Ex} (h:Nv e):CC wz (bG e [])=some [.str e.text]:=by
 rw[agW e (ag4 h),aj h.2]
where ag4 {e:Ex} (h:Nv e):e.Ok:=qK (by omega) e h.1.2 (by have:=ni h.2;omega)
def xZ (s:Dv):List V:=[.int .i64 s.L,.int .i64 s.dn,.list aa (s.es.map enc),.list dj (s.nx.map pK),.list dR (fb s.es)]
def LV (s:Dv):List V:=[.int .i64 s.L,.int .i64 s.dn,.list dR (fb s.es),.list aa (s.es.map enc),.list dj (s.nx.map pK)]
theorem ag5 {es:List Ex} (h: ∀e∈es,Nv e) {d:Ex} (hd:Nv d) (hn:d∉es):il (.str d.text) (.int .i64 (es.length:Int)) (fb es)=fb (es++[d]):=by
 have:=UW (ke:=V.str) LR d.text (es.map Ex.text) 0 fun hx=>hn ((LU h hd).1 hx)
 rw[aP,gu] at this
 unfold fb
 rw[this,eP]
 rfl
theorem ag6 {α:Type} (a:List α) (x y:α):(a++[x]).set a.length y=a++[y]:=by
 simp[List.set_append_right]
theorem U4 {L dn:Int} {es:List Ex} {d:Ex} {nx:List V} (h: ∀e∈es,Nv e) (hd:Nv d) (hn:d∉es) (hl:es.length≤1000):
  CC zY (bG d [.int .i64 L,.int .i64 dn,.list aa (es.map enc),.list dj nx,.list dR (fb es)])=some [.int .i64 (es.length:Int),.int .i64 L,.int .i64 dn,.list dR (fb (es++[d])),.list aa ((es++[d]).map enc),.list dj nx]:=by
 refine agY ?_
 unfold UX
 refine bs (Gg hd) ?_
 refine bT (Gf hd.2) ?_
 refine bT (xT (by simp;omega)) ?_
 refine (sE (i:=(es.map enc).length) (v:= .agg [.int .i64 0,.int .i64 0,.list aa ([]:List V)]) (by simp)).trans ?_
 rw[Int.toNat_natCast,ag6]
 have h1:=ag5 h hd hn
 rw[aP]
 show some [V.int .i64 (es.length:Int),.int .i64 L,.int .i64 dn,.list dR (il (.str d.text) (.int .i64 (es.length:Int)) (fb es)),.list aa (es.map enc++[.agg [.int .i64 d.op,.int .i64 d.aY,.list aa (d.kids.map enc)]]),.list dj nx]=_
 rw[h1,afT,eP]
 rfl
theorem ag7 {e:Ex} {L:Int} (h:Nv e):CC Ec (bG e [.int .i64 L])=some (xZ ⟨L,[e],[],0⟩):=by
 refine agZ ?_
 unfold UY
 refine bs (U4 (L:=L) (dn:=0) (es:=[]) (d:=e) (nx:=[]) (by simp) h (by simp) (by simp)) ?_
 rfl
theorem LW (s:Dv):CC Ee (xZ s)=some (.bool (s.dn==s.es.length)::LV s):=by
 refine ag0 ?_
 unfold UZ
 rw[aP]
 rfl
theorem LX {L dn:Int} {e:Ex} {k:Nat} {nx:List V} (hk:dn=(k:Int)) (he:Nv e): ∀(n x:Nat) (es:List Ex) (row:List Int),L=((x+n:Nat):Int)→x+n≤10→Es es→k<es.length→es.getD k bf=e→row.length=x→
  (∀p,nE e n x es row=some p→Loop (oM CC L) (((x:Nat):Int),L,dn,fb es,(row.map fun n=>V.int .i64 n)++List.replicate n (.int .i64 0),es.map enc,nx)=some (.inr (L,false,L,dn,fb p.1,(p.2.map fun n=>V.int .i64 n),p.1.map enc,nx)))
  ∧(nE e n x es row=none→∃y,Loop (oM CC L) (((x:Nat):Int),L,dn,fb es,(row.map fun n=>V.int .i64 n)++List.replicate n (.int .i64 0),es.map enc,nx)=some (.inl (3,y)))
 | 0,x,es,row,hL,hx,oa,hX,tB,hr=>by
  refine ⟨fun p hp=> ?_,fun hp=>by simp[nE] at hp⟩
  cases hp
  refine aX ?_
  simp only[oM,sL,un]
  rw[az,ai (by omega),cV (by omega),show L=((x:Nat):Int) by omega]
  simp
 | n+1,x,es,row,hL,hx,oa,hX,tB,hr=>by
  subst hk
  have aO:decide ((x:Int)<L)=true:=dM (by omega)
  have bV:(es.map enc)[k]? =some e.enc:=by
   rw[gv,bM hX,←tB,jO,bM hX];rfl
  have hb:=agf he (x:Int)
  have ag8:pI (aJ (bC x e))=match qW e x with|some d=>(d,0)|none=>(bf,3):=by
   unfold pI qW;split<;>rfl
  rw[ag8] at hb
  have Gh:x=(row.map fun n=>V.int .i64 n).length:=by simp[hr]
  rw[nE]
  cases bP:qW e x with
  | none=>
   rw[bP] at hb
   refine ⟨fun p hp=>(by cases hp),fun _=>⟨(L,(k:Int),fb es,es.map enc,nx),aX ?_⟩⟩
   ·simp only[oM,sL,un]
    refine bT aO ((sE bV).trans ?_)
    rw[aZ,bj,bd]
    refine bs hb ?_
    exact bT rfl rfl
  | some d=>
   rw[bP] at hb
   have hd:=(T2 he bP).1
   have LY:kZ (.str d.text) (fb es)=decide (d∈es):=by
    unfold fb
    rw[UT LR,decide_eq_decide]
    exact LU oa.nv hd
   simp only[Option.bind_some]
   by_cases hm:d∈es
   ·rw[aj hm]
    have V7:es.idxOf d<es.length:=List.idxOf_lt_length_iff.2 hm
    obtain ⟨i1,i2⟩:=LX (L:=L) (e:=e) (k:=k) (nx:=nx) rfl he n (x+1) es (row++[(es.idxOf d:Int)]) (by omega) (by omega) oa hX tB (by simp[hr])
    have ej:oM CC L (((x:Nat):Int),L,(k:Int),fb es,(row.map fun n=>V.int .i64 n)++List.replicate (n+1) (.int .i64 0),es.map enc,nx)=some (.inl (((x+1:Nat):Int),L,(k:Int),fb es,((row++[(es.idxOf d:Int)]).map fun n=>V.int .i64 n)++List.replicate n (.int .i64 0),es.map enc,nx)):=by
     simp only[oM,sL,un]
     refine bT aO ((sE bV).trans ?_)
     rw[aZ,bj,bd]
     refine bs hb (bF rfl (bs (Gg hd) (bT (Gf hd.2) ?_)))
     refine bF (by rw[V.aU,V.D1,LY,dM hm];rfl) ?_
     refine (sI Gh).trans ?_
     rw[Int.toNat_natCast,sJ Gh,nC (by omega),V.aU,V.D1]
     have hg:lL (.str d.text) (fb es) (.int .i64 0)= .int .i64 (es.idxOf d:Int):=by
      unfold fb
      rw[UU LR _ _ _ _ ((LU oa.nv hd).2 hm),U3 fun x hx=>UG (oa.nv x hx).1.2 hd.1.2,gu]
     rw[hg,V.toInt_int,eP]
     rfl
    exact ⟨fun p hp=>(bR ej).trans (i1 p hp),fun hp=>by obtain ⟨y,hy⟩:=i2 hp;exact ⟨y,(bR ej).trans hy⟩⟩
   ·rw[ai hm]
    by_cases Gi:es.length=512
    ·rw[aj Gi]
     refine ⟨fun p hp=>(by cases hp),fun _=>⟨(L,(k:Int),fb es,es.map enc,nx),aX ?_⟩⟩
     ·simp only[oM,sL,un]
      refine bT aO ((sE bV).trans ?_)
      rw[aZ,bj,bd]
      refine bs hb (bF rfl (bs (Gg hd) (bT (Gf hd.2) ?_)))
      refine bT (by rw[V.aU,V.D1,LY,cV hm];rfl) ?_
      exact bT (by rw[aP,Gi];rfl) rfl
    ·rw[ai Gi]
     have hl:=oa.le
     obtain ⟨i1,i2⟩:=LX (L:=L) (e:=e) (k:=k) (nx:=nx) rfl he n (x+1) (es++[d]) (row++[(es.length:Int)]) (by omega) (by omega) (oa.snoc hd hm Gi) (by simp;omega) (by rw[F0 hX,tB]) (by simp[hr])
     have ej:oM CC L (((x:Nat):Int),L,(k:Int),fb es,(row.map fun n=>V.int .i64 n)++List.replicate (n+1) (.int .i64 0),es.map enc,nx)=some (.inl (((x+1:Nat):Int),L,(k:Int),fb (es++[d]),((row++[(es.length:Int)]).map fun n=>V.int .i64 n)++List.replicate n (.int .i64 0),(es++[d]).map enc,nx)):=by
      simp only[oM,sL,un]
      refine bT aO ((sE bV).trans ?_)
      rw[aZ,bj,bd]
      refine bs hb (bF rfl (bs (Gg hd) (bT (Gf hd.2) ?_)))
      refine bT (by rw[V.aU,V.D1,LY,cV hm];rfl) ?_
      refine bF (by rw[aP,yi];omega) ?_
      refine bs (U4 oa.nv hd hm (by omega)) ?_
      refine (sI Gh).trans ?_
      rw[Int.toNat_natCast,sJ Gh,nC (by omega),eP (l₁:=row)]
      rfl
     exact ⟨fun p hp=>(bR ej).trans (i1 p hp),fun hp=>by obtain ⟨y,hy⟩:=i2 hp;exact ⟨y,(bR ej).trans hy⟩⟩
theorem ag9 {s:Dv} (hs:Gs s) (hd:s.dn<s.es.length):
  (∀t,proc s=some t→CC wq (xZ s)=some (.int .i64 0::LV t))∧(proc s=none→∃l,CC wq (xZ s)=some (.int .i64 3::l)):=by
 have T8:=hs.dn
 have hL:=hs.L
 have hq:s.dn.toNat<s.es.length:=by omega
 have lk:=hs.nl
 have hle:=hs.es.le
 have hN:((s.L.toNat:Nat):Int)=s.L:=by omega
 obtain ⟨l1,l2⟩:=LX (L:=s.L) (dn:=s.dn) (e:=s.es.getD s.dn.toNat bf) (k:=s.dn.toNat) (nx:=s.nx.map pK) (by omega) (hs.es.nv _ (T4 hq)) s.L.toNat 0 s.es [] (by omega) (by omega) hs.es hq rfl rfl
 have hf: ∀{r:Option (List V)},((Loop (oM CC s.L) (((0:Nat):Int),s.L,s.dn,fb s.es,List.replicate s.L.toNat (V.int .i64 0),s.es.map enc,s.nx.map pK)).bind (cq (un fun (py:Int)=>un fun (LN:Int)=>un fun (BP:Int)=>un fun (BQ:List V)=>un fun (uZ:List V) (BJ:List V)=>some [V.int .i64 py,.int .i64 LN,.int .i64 BP,.list dR BQ,.list aa uZ,.list dj BJ]) (un fun (J9:Int)=>un fun (wS:Bool)=>un fun (LO:Int)=>un fun (LP:Int)=>un fun (BB:List V)=>un fun (BR:List V)=>un fun (LQ:List V) (BT:List V)=>bif Nat.ble ((BT.length+([.list m8 BR]:List V).length)*24) bS then some [.int .i64 0,.int .i64 LO,.int .i64 (IntKind.wrap .i64 (LP+1)),.list dR BB,.list aa LQ,.list dj (BT++([.list m8 BR]:List V))] else none)))=r→CC wq (xZ s)=r:=fun h=>by
  refine ag3 ?_
  unfold U2
  refine bT ?_ ?_
  ·refine sR.2 ⟨dM (by omega),sR.2 ⟨dM (by omega),?_⟩⟩
   rw[dm,kg];omega
  ·rw[sN,hN]
   exact h
 refine ⟨fun t ht=>hf ?_,fun ht=> ?_⟩
 ·obtain ⟨p,hp,rfl⟩:=T6 ht
  refine bs (l1 p hp) ?_
  simp only[cq,un]
  refine bT (by rw[dm,kg];simp;omega) ?_
  rw[wrap64 (by omega) (by omega)]
  unfold LV
  simp only[eP]
  rfl
 ·have hr:nE (s.es.getD s.dn.toNat bf) s.L.toNat 0 s.es []=none:=by
   unfold proc at ht
   rwa [Option.map_eq_none_iff] at ht
  obtain ⟨y,hy⟩:=l2 hr
  exact ⟨_,hf (bs hy rfl)⟩
end Go.AM
set_option maxRecDepth 100000
namespace Go.AM
open Go.Proofs
noncomputable abbrev U5:Code:=cJ Try.prog (ay.ba 44)
noncomputable def BU (C:ag) (t22 U6 U7:Int) (bE:List V) (jB jC oK oL:Int) (Gj uw U8 U9:List V) (t23:Int) (BV:List V) {β:Type} (kn:(Int × (List V))→Option β) (kr:(Int × Bool × (List V))→Option β):Option β:=
 bif decide ((t23:Int)<t22) then
  bif (decide (0≤t23))&&(decide (t23<(Gj.length:Int))) then
  (Gj[(t23:Int).toNat]?).bind fun x1=>
  (C ka [.int .i64 ((x1.cell 0).toInt),.int .i64 ((x1.cell 1).toInt),.list aa ((x1.cell 2).toList)]).bind fun r2=>
  bif Nat.ble ((BV.length+([.bool ((V.nth r2 0).toBool)]:List V).length)*1) bS then
   kn (IntKind.wrap .i64 (t23+1),BV++([.bool ((V.nth r2 0).toBool)]:List V))
  else none
  else none
 else
  kr (t23,decide ((t23:Int)<t22),BV)
noncomputable def Gk (C:ag) (t22 U6 U7:Int) (bE:List V) (jB jC oK oL:Int) (Gj uw U8 U9:List V):(Int × (List V))→Option ((Int × (List V)) ⊕ (Int × Bool × (List V))):=un fun t23 BV=>BU C t22 U6 U7 bE jB jC oK oL Gj uw U8 U9 t23 BV (fun y=>some (.inl y)) (fun r=>some (.inr r))
noncomputable def Va (C:ag):cz:=fun β n ds k=>
 bif Nat.beq n 49 then cb I0 [false,true,false,false,false,false,false,false,false,false,false,false,false,true] [[1,0,0,3,4,5,6,7,8,9,10,11,12,13,0]] (@BU C) ds k else
 none
abbrev aha (C:ag) (b:ct):Prop:=cv Try.prog ay C (Va C) 44 (cL Try.prog (ay.ba 44)) (ay.sin 44).bh.length b
theorem ahb (C:ag):aha C (.loop (aw [1,1,0,1,0,0] U5)):=
 ch I0 [false,true,false,false,false,false,false,false,false,false,false,false,false,true] [[1,0,0,3,4,5,6,7,8,9,10,11,12,13,0]] (@BU C) (by kernel_rfl) (bq (bs:=[]) (by kernel_rfl) ax) (fun ds=>by kernel_rfl) (fun i x=>by kernel_rfl) (fun i x β k=>by kernel_rfl) (fun β ds k=>by kernel_rfl)
noncomputable def Vb (C:ag) (c8 dr:Int) (bO er bE:List V):Option (List V):=
 (Loop (Gk C (bO.length:Int) c8 dr bE 0 0 c8 0 bO er ([]:List V) ([]:List V)) (0,([]:List V))).bind (un fun (jy:Int)=>un fun (mg:Bool) (LA:List V)=>
  some [.int .i64 c8,.int .i64 0,.int .i64 c8,.int .i64 dr,.list dR bE,.list ly LA,.list dj er,.list aa bO])
theorem ahc {c8 dr:Int} {bO er bE:List V} {r:Option (List V)} (h:Vb CC c8 dr bO er bE=r):CC Ef [.int .i64 c8,.int .i64 dr,.list aa bO,.list dj er,.list dR bE]=r:=
 bc (key:=44) (L:=Va CC) (bs:=[.loop (aw [1,1,0,1,0,0] U5)]) (by kernel_rfl) (bD (ahb CC) ax) (a9 (by kernel_rfl) h)
noncomputable abbrev Vc:Code:=cJ Try.prog (ay.ba 14)
noncomputable def ya (C:ag) (je jf:Int) (er bE:List V) (c8 dr:Int) (pG dS eE:List V) {β:Type} (kn:(Int × Int × (List V) × (List V) × (List V))→Option β) (kr:((Int × Int × Int × (List V) × (List V)) ⊕ (Bool × Int × Int × (List V) × (List V) × (List V)))→Option β):Option β:=
 (C Ee [.int .i64 c8,.int .i64 dr,.list aa pG,.list dj dS,.list dR eE]).bind fun r4=>
 bif !((V.nth r4 0).toBool) then
  (C wq [.int .i64 ((V.nth (r4.drop 1) 0).toInt),.int .i64 ((V.nth ((r4.drop 1).drop 1) 0).toInt),.list aa ((V.nth (((r4.drop 1).drop 2).drop 1) 0).toList),.list dj ((V.nth ((((r4.drop 1).drop 2).drop 1).drop 1) 0).toList),.list dR ((V.nth ((r4.drop 1).drop 2) 0).toList)]).bind fun r5=>
  bif (((V.nth r5 0).toInt):Int) != 0 then
  kr (.inl ((V.nth r5 0).toInt,0,0,([]:List V),([]:List V)))
  else
  kn ((V.nth (r5.drop 1) 0).toInt,(V.nth ((r5.drop 1).drop 1) 0).toInt,(V.nth (((r5.drop 1).drop 2).drop 1) 0).toList,(V.nth ((((r5.drop 1).drop 2).drop 1).drop 1) 0).toList,(V.nth ((r5.drop 1).drop 2) 0).toList)
 else
  kr (.inr (!((V.nth r4 0).toBool),(V.nth (r4.drop 1) 0).toInt,(V.nth ((r4.drop 1).drop 1) 0).toInt,(V.nth (((r4.drop 1).drop 2).drop 1) 0).toList,(V.nth ((((r4.drop 1).drop 2).drop 1).drop 1) 0).toList,(V.nth ((r4.drop 1).drop 2) 0).toList))
noncomputable def u3 (C:ag) (je jf:Int) (er bE:List V):(Int × Int × (List V) × (List V) × (List V))→Option ((Int × Int × (List V) × (List V) × (List V)) ⊕ ((Int × Int × Int × (List V) × (List V)) ⊕ (Bool × Int × Int × (List V) × (List V) × (List V)))):=un fun c8=>un fun dr=>un fun pG=>un fun dS eE=>ya C je jf er bE c8 dr pG dS eE (fun y=>some (.inl y)) (fun r=>some (.inr r))
noncomputable def Vd (C:ag):cz:=fun β n ds k=>
 bif Nat.beq n 81 then cb IV [false,false,true,true,false,false,true,true,true] [[0,0,0,0,0],[0,1,2,0,0,5,6,0,0,0]] (@ya C) ds k else
 none
abbrev ahd (C:ag) (b:ct):Prop:=cv Try.prog ay C (Vd C) 14 (cL Try.prog (ay.ba 14)) (ay.sin 14).bh.length b
theorem ahe (C:ag):ahd C (.loop (aw [1,1,1,0,0,0] Vc)):=
 ch IV [false,false,true,true,false,false,true,true,true] [[0,0,0,0,0],[0,1,2,0,0,5,6,0,0,0]] (@ya C) (by kernel_rfl) (bq (bs:=[]) (by kernel_rfl) ax) (fun ds=>by kernel_rfl) (fun i x=>by kernel_rfl) (fun i x β k=>by kernel_rfl) (fun β ds k=>by kernel_rfl)
noncomputable def Ve (C:ag) (af aq:Int) (ae:List V) (letters:Int):Option (List V):=
 (C tX [.int .i64 af,.int .i64 aq,.list aa ae,.int .i64 letters]).bind fun r1=>
 bif (((V.nth r1 0).toInt):Int) != 0 then
  some [.int .i64 0,.int .i64 0,.int .i64 ((V.nth r1 0).toInt),.list ly ([]:List V),.list dj ([]:List V)]
 else
  (C Ed [.int .i64 af,.int .i64 aq,.list aa ae]).bind fun r2=>
  (C Ec [.int .i64 ((V.nth r2 0).toInt),.int .i64 ((V.nth (r2.drop 1) 0).toInt),.list aa ((V.nth ((r2.drop 1).drop 1) 0).toList),.int .i64 letters]).bind fun r3=>
  (Loop (u3 C 0 0 ([]:List V) ([]:List V)) ((V.nth r3 0).toInt,(V.nth (r3.drop 1) 0).toInt,(V.nth (r3.drop 2) 0).toList,(V.nth ((r3.drop 2).drop 1) 0).toList,(V.nth (((r3.drop 2).drop 1).drop 1) 0).toList)).bind (cq (un fun (nf:Int)=>un fun (ahf:Int)=>un fun (ahg:Int)=>un fun (BP:List V) (BQ:List V)=>
   some [.int .i64 ahf,.int .i64 ahg,.int .i64 nf,.list ly BP,.list dj BQ]) (un fun (ET:Bool)=>un fun (ahh:Int)=>un fun (ahi:Int)=>un fun (LM:List V)=>un fun (sk:List V) (ahj:List V)=>
   (C Ef [.int .i64 ahh,.int .i64 ahi,.list aa LM,.list dj sk,.list dR ahj]).bind fun dF=>
   some [.int .i64 ((V.nth dF 0).toInt),.int .i64 ((V.nth (dF.drop 1) 0).toInt),.int .i64 0,.list ly ((V.nth (((dF.drop 2).drop 2).drop 1) 0).toList),.list dj ((V.nth ((((dF.drop 2).drop 2).drop 1).drop 1) 0).toList)]))
theorem ahk {af aq:Int} {ae:List V} {letters:Int} {r:Option (List V)} (h:Ve CC af aq ae letters=r):CC D8 [.int .i64 af,.int .i64 aq,.list aa ae,.int .i64 letters]=r:=
 bc (key:=14) (L:=Vd CC) (bs:=[.loop (aw [1,1,1,0,0,0] Vc)]) (by kernel_rfl) (bD (ahe CC) ax) (a9 (by kernel_rfl) h)
end Go.AM
set_option maxRecDepth 100000
namespace Go.AM
open Go.Proofs Ex
structure Dv.Ok (d:Dv):Prop where
 es: ∀e∈d.es,e.Ok
 el:d.es.length≤maxLen
 nl:d.nx.length≤maxLen
 rl: ∀r∈d.nx,r.length≤maxLen
abbrev Gl (s:Dv):Int × Int × List V × List V × List V:=(s.L,s.dn,s.es.map enc,s.nx.map pK,fb s.es)
theorem ahl {e:Ex} {L:Int} (h:e.val L=0):Nv (aJ e):=⟨mi e (ni (FZ h)).2.2,TZ (FZ h)⟩
structure Fa where
 L:Int
 F:List Bool
 N:List (List Int)
abbrev faE (p:Fa × Int):List V:=[.int .i64 p.1.L,.int .i64 0,.int .i64 p.2,.list ly (p.1.F.map V.bool),.list dj (p.1.N.map pK)]
def Fa.zero:Fa:=⟨0,[],[]⟩
def ahm (d:Dv):Fa:=⟨d.L,d.es.map Ex.cE,d.nx⟩
theorem ahn {es:List Ex} (hn:es.length≤1000) (ho: ∀e∈es,Nv e) {a b c1 c2 c3 c4:Int} {l1 l2 l3 l4:List V}: ∀(av pre:List Ex),es=pre++av→
  Loop (Gk CC (es.length:Int) a b l1 c1 c2 c3 c4 (es.map enc) l2 l3 l4) (((pre.length:Nat):Int),(pre.map Ex.cE).map V.bool)=some ((es.length:Int),false,(es.map Ex.cE).map V.bool):=by
 intro av
 induction av with
 | nil=>
  intro pre e
  rw[cU] at e
  subst e
  refine aX ?_
  simp only[Gk,BU,un]
  rw[az,ai (by omega),cV (by omega)]
 | cons k av et=>
  intro pre e
  have bQ:pre.length<es.length:=by rw[e];simp
  have hk:k∈es:=by rw[e];simp
  have bV:(es.map enc)[pre.length]? =some k.enc:=by rw[e];simp
  have hv:=ni (ho k hk).2
  refine (bR ?_).trans (et (pre++[k]) (by simp[e]))
  simp only[Gk,BU,un]
  refine bT (uV bQ) ((sE bV).trans ?_)
  rw[aZ,bj,bd]
  refine bs (acC (letters:=6) k (qK (by omega) k hv.2.2 (by omega)) hv.2.2) ?_
  refine bT (by rw[dm,kg];simp;omega) ?_
  rw[nC (by omega)]
  simp only[eP,cw,fK,bU,List.length_cons,List.length_nil]
  rfl
theorem aho {s:Dv} (hs:Gs s): ∃l,CC Ef (xZ s)=some l∧(V.nth l 0).toInt=s.L∧(V.nth (l.drop 1) 0).toInt=0∧(V.nth (((l.drop 2).drop 2).drop 1) 0).toList=(s.es.map Ex.cE).map V.bool∧(V.nth ((((l.drop 2).drop 2).drop 1).drop 1) 0).toList=s.nx.map pK:=by
 have hl:=hs.es.le
 refine ⟨[.int .i64 s.L,.int .i64 0,.int .i64 s.L,.int .i64 s.dn,.list dR (fb s.es),.list ly ((s.es.map Ex.cE).map V.bool),.list dj (s.nx.map pK),.list aa (s.es.map enc)],ahc ?_,?_⟩
 ·unfold Vb
  rw[aP]
  refine bs (ahn (by omega) hs.es.nv s.es [] rfl) ?_
  simp only[un]
 ·exact ⟨rfl,rfl,rfl,rfl⟩
def BW (e:Ex) (L:Int):Fa × Int:=if e.val L=0 then (match sK 513 (qX e L) with|some t=>(ahm t,0)|none=>(.zero,3)) else (.zero,e.val L)
theorem Vf {a b:Int} {l1 l2:List V}: ∀(n:Nat) (s:Dv),Gs s→513≤s.dn+n→
  (∀t,sK n s=some t→Loop (u3 CC a b l1 l2) (Gl s)=some (.inr (false,t.L,t.dn,t.es.map enc,t.nx.map pK,fb t.es)))∧(sK n s=none→Loop (u3 CC a b l1 l2) (Gl s)=some (.inl (3,0,0,[],[])))
 | 0,s,hs,hn=>by have:=hs.dn;have:=hs.es.le;omega
 | n+1,s,hs,hn=>by
  rw[sK]
  have T8:=hs.dn
  by_cases hd:s.dn<s.es.length
  ·rw[aj hd]
   obtain ⟨p1,p2⟩:=ag9 hs hd
   have hf:(!(s.dn==(s.es.length:Int)))=true:=by rw[my,yi];omega
   cases hp:proc s with
   | none=>
    obtain ⟨l,hl⟩:=p2 hp
    refine ⟨fun t ht=>(by cases ht),fun _=>aX ?_⟩
    simp only[u3,ya,un]
    refine bs (LW s) (bT hf ?_)
    refine bs hl ?_
    rfl
   | some u=>
    obtain ⟨g,_,g2,_⟩:=T7 hs hd hp
    obtain ⟨i1,i2⟩:=Vf (a:=a) (b:=b) (l1:=l1) (l2:=l2) n u g (by omega)
    have ej:u3 CC a b l1 l2 (Gl s)=some (.inl (Gl u)):=by
     simp only[u3,ya,un]
     refine bs (LW s) (bT hf ?_)
     refine bs (p1 u hp) ?_
     rfl
    exact ⟨fun t ht=>(bR ej).trans (i1 t ht),fun ht=>(bR ej).trans (i2 ht)⟩
  ·rw[ai hd]
   refine ⟨fun t ht=> ?_,fun ht=>(by cases ht)⟩
   cases ht
   refine aX ?_
   have hf:(!(s.dn==(s.es.length:Int)))=false:=by rw[Bool.not_eq_false',beq_iff_eq];omega
   simp only[u3,ya,un]
   refine bs (LW s) (bF hf ?_)
   exact congrArg (fun b=>some (Sum.inr (Sum.inr (b,s.L,s.dn,s.es.map enc,s.nx.map pK,fb s.es)))) hf
theorem ahp {e:Ex} (h:e.Ok) (L:Int):CC D8 (bG e [.int .i64 L])=some (faE (BW e L)):=by
 refine ahk ?_
 unfold Ve BW
 refine bs (EX e h L) ?_
 by_cases hv:e.val L=0
 ·rw[aj hv]
  refine bF (by rw[V.aU,V.toInt_int,hv];rfl) ?_
  have hN:=afr e h
  rw[aj (FZ hv)] at hN
  refine bs hN (bs (ag7 (L:=L) (ahl hv)) ?_)
  obtain ⟨l1,l2⟩:=Vf (a:=0) (b:=0) (l1:=[]) (l2:=[]) 513 (qX e L) (Ua hv) (by show 513≤(0:Int)+_;omega)
  cases hp:sK 513 (qX e L) with
  | none=>exact bs (l2 hp) rfl
  | some t=>
   refine bs (l1 t hp) ?_
   obtain ⟨l,a1,a2,a3,a4,a5⟩:=aho (T9 513 _ _ (Ua hv) hp).1
   refine bs a1 ?_
   rw[a2,a3,a4,a5]
   rfl
 ·rw[ai hv]
  refine bT ?_ rfl
  rw[V.aU,V.toInt_int,bne_iff_ne];exact hv
end Go.AM
set_option maxRecDepth 100000
namespace Go.AM
open Go.Proofs
noncomputable def Vg (C:ag):Option (List V):=
 some [.int .i64 7,.int .i64 0,.list aa ([.agg [.int .i64 5,.int .i64 0,.list aa ([.agg [.int .i64 3,.int .i64 0,.list aa ([]:List V)],.agg [.int .i64 3,.int .i64 1,.list aa ([]:List V)]]:List V)]]:List V)]
theorem ahq {r:Option (List V)} (h:Vg CC=r):CC Eb []=r:=
 bc (key:=38) (L:=cf) (bs:=[]) (by kernel_rfl) ax (a9 (by kernel_rfl) h)
noncomputable def Vh (C:ag):Option (List V):=
 (C Eb []).bind fun r1=>
 (C D8 [.int .i64 ((V.nth r1 0).toInt),.int .i64 ((V.nth (r1.drop 1) 0).toInt),.list aa ((V.nth (r1.drop 2) 0).toList),.int .i64 2]).bind fun r2=>
 bif (((V.nth (r2.drop 2) 0).toInt):Int)==0 then
  bif ((((V.nth (r2.drop 3) 0).toList).length:Int):Int)==3 then
  bif decide (0<(((V.nth (r2.drop 3) 0).toList).length:Int)) then
   (((V.nth (r2.drop 3) 0).toList)[0]?).bind fun x3=>
   bif x3.toBool then
   bif decide (1<(((V.nth (r2.drop 3) 0).toList).length:Int)) then
    (((V.nth (r2.drop 3) 0).toList)[1]?).bind fun x4=>
    some [.bool (!x4.toBool)]
   else none
   else
   some [.bool false]
  else none
  else
  some [.bool false]
 else
  some [.bool false]
theorem ahr {r:Option (List V)} (h:Vh CC=r):CC wk []=r:=
 bc (key:=13) (L:=cf) (bs:=[]) (by kernel_rfl) ax (a9 (by kernel_rfl) h)
end Go.AM
set_option maxRecDepth 100000
namespace Go.AM
open Go.Proofs Ex
def yb:Ex:= .node 7 0 [.node 5 0 [.node 3 0 [],.node 3 1 []]]
theorem ahs:yb.Ok:=by
 refine .node (by omega) (by omega) (by unfold maxLen;simp) fun k hk=> ?_
 rw[ef.1 hk]
 refine .node (by omega) (by omega) (by unfold maxLen;simp) fun k hk=> ?_
 rcases dg.1 hk with rfl|hk
 ·exact .node (by omega) (by omega) (by simp) (by simp)
 ·rw[ef.1 hk]
  exact .node (by omega) (by omega) (by simp) (by simp)
theorem aht:(BW yb 2).2=0∧(BW yb 2).1.F=[true,false,false]:=by decide+kernel
theorem LZ:CC wk []=some [.bool true]:=by
 refine ahr ?_
 unfold Vh
 have eY:CC Eb []=some (eo yb):=by
  refine ahq ?_
  unfold Vg yb
  simp only[eo,Ex.op,Ex.aY,Ex.kids,cw,fK,dc]
 refine bs eY ?_
 refine bs (ahp ahs 2) ?_
 obtain ⟨h1,U⟩:=aht
 generalize BW yb 2=p at h1 U
 obtain ⟨⟨L,F,N⟩,f⟩:=p
 simp only at h1 U
 subst h1 U
 rfl
end Go.AM
set_option maxRecDepth 100000
namespace Go.AM
open Go.Proofs
noncomputable def Vi (C:ag) (af aq:Int) (ae:List V) (aY:Int):Option (List V):=
 (C D9 [.int .i64 af,.int .i64 aq,.list aa ae]).bind fun r1=>
 bif (V.nth r1 0).toBool then
  (C D7 [.int .i64 af,.int .i64 aq,.list aa ae]).bind fun r2=>
  bif decide ((((V.nth r2 0).toInt):Int)>120) then
  (C wk []).bind fun r3=>
  some [.bool ((V.nth r3 0).toBool)]
  else
  (C zV [.int .i64 af,.int .i64 aq,.list aa ae,.int .i64 aY]).bind fun r4=>
  (C zW [.int .i64 af,.int .i64 aq,.list aa ae,.int .i64 aY]).bind fun r5=>
  bif (((V.nth (r4.drop 3) 0).toInt):Int)==((V.nth (r5.drop 3) 0).toInt) then
   (C wm [.int .i64 ((V.nth r4 0).toInt),.int .i64 ((V.nth (r4.drop 1) 0).toInt),.list aa ((V.nth ((r4.drop 1).drop 1) 0).toList),.int .i64 ((V.nth r5 0).toInt),.int .i64 ((V.nth (r5.drop 1) 0).toInt),.list aa ((V.nth ((r5.drop 1).drop 1) 0).toList)]).bind fun r6=>
   bif (V.nth r6 0).toBool then
   (C wk []).bind fun r7=>
   some [.bool ((V.nth r7 0).toBool)]
   else
   some [.bool false]
  else
   some [.bool false]
 else
  (C zV [.int .i64 af,.int .i64 aq,.list aa ae,.int .i64 aY]).bind fun r8=>
  (C zW [.int .i64 af,.int .i64 aq,.list aa ae,.int .i64 aY]).bind fun r9=>
  bif (((V.nth (r8.drop 3) 0).toInt):Int)==((V.nth (r9.drop 3) 0).toInt) then
  (C wm [.int .i64 ((V.nth r8 0).toInt),.int .i64 ((V.nth (r8.drop 1) 0).toInt),.list aa ((V.nth ((r8.drop 1).drop 1) 0).toList),.int .i64 ((V.nth r9 0).toInt),.int .i64 ((V.nth (r9.drop 1) 0).toInt),.list aa ((V.nth ((r9.drop 1).drop 1) 0).toList)]).bind fun cR=>
  bif (V.nth cR 0).toBool then
   (C wk []).bind fun ee=>
   some [.bool ((V.nth ee 0).toBool)]
  else
   some [.bool false]
  else
  some [.bool false]
theorem ahu {af aq:Int} {ae:List V} {aY:Int} {r:Option (List V)} (h:Vi CC af aq ae aY=r):CC IM [.int .i64 af,.int .i64 aq,.list aa ae,.int .i64 aY]=r:=
 bc (key:=6) (L:=cf) (bs:=[]) (by kernel_rfl) ax (a9 (by kernel_rfl) h)
end Go.AM
set_option maxRecDepth 100000
namespace Go.AM
open Go.Proofs Ex
theorem Vo (e:Ex) (h:e.Ok) (c:Int):CC IM (bG e [.int .i64 c])=some [.bool true]:=by
 refine ahu ?_
 unfold Vi
 have hk:=agm e c
 have hs:=agl hk hk
 refine bs (acy e h) ?_
 by_cases hv:e.val 6=0
 ·refine bT (dM hv) (bs (acD e h (ni hv).2.1) ?_)
  rw[V.aU,V.toInt_int,az]
  by_cases h1:(e.size:Int)>120
  ·rw[aj h1]
   exact bs LZ rfl
  ·rw[ai h1]
   exact bs (Up e h c) (bs (Us e h c) (bT (yn _) (bs hs (bT (dM rfl) (bs LZ rfl)))))
 ·refine bF (cV hv) ?_
  exact bs (Up e h c) (bs (Us e h c) (bT (yn _) (bs hs (bT (dM rfl) (bs LZ rfl)))))
end Go.AM
set_option maxRecDepth 100000
namespace Go.AM
theorem WT.Vn {P:Program} {t:TypeId} {x:V} (hu:P.underlying t=some (.int .i64)) (h:WT P t x): ∃n:Int,x= .int .i64 n∧ -9223372036854775808≤n∧n≤9223372036854775807:=by
 obtain ⟨n,rfl,h1,U⟩:=h.dI hu
 have e1:IntKind.min .i64= -9223372036854775808:=by decide
 have e2:IntKind.max .i64=9223372036854775807:=by decide
 rw[e1] at h1
 rw[e2] at U
 exact ⟨n,rfl,h1,U⟩
theorem WT.HK {P:Program} {t:TypeId} {x:V} (hu:P.underlying t=some (.int .u8)) (h:WT P t x): ∃n:Int,x= .int .u8 n∧0≤n∧n≤255:=by
 obtain ⟨n,rfl,h1,U⟩:=h.dI hu
 have e1:IntKind.min .u8=0:=by decide
 have e2:IntKind.max .u8=255:=by decide
 rw[e1] at h1
 rw[e2] at U
 exact ⟨n,rfl,h1,U⟩
end Go.AM
