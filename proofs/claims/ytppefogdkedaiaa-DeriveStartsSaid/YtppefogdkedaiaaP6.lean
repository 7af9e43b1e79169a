/-
  Functions of the program, lifted to plain data.
-/
import Derived.Test.YtppefogdkedaiaaP5
set_option linter.unusedVariables false
set_option linter.unusedSimpArgs false
set_option maxRecDepth 100000
namespace Go.AM
open Go.Proofs
noncomputable def Tf (C:ag) (kids:List V):Option (List V):=
 (C IH [.list aa kids]).bind fun r1=>
 bif (V.nth r1 0).toBool then
  (C sa []).bind fun r2=>
  some [.int .i64 ((V.nth r2 0).toInt),.int .i64 ((V.nth (r2.drop 1) 0).toInt),.list aa ((V.nth (r2.drop 2) 0).toList)]
 else
  (C wK [.int .i64 4,.list aa kids]).bind fun r3=>
  (C EC [.list aa ((V.nth r3 0).toList)]).bind fun r4=>
  bif (V.nth r4 0).toBool then
  (C ud [.list aa ((V.nth (r4.drop 1) 0).toList)]).bind fun r5=>
  bif (V.nth r5 0).toBool then
   (C po []).bind fun r6=>
   (C mc [.int .i64 4,.list aa ((V.nth (r5.drop 1) 0).toList),.int .i64 ((V.nth r6 0).toInt),.int .i64 ((V.nth (r6.drop 1) 0).toInt),.list aa ((V.nth (r6.drop 2) 0).toList)]).bind fun r7=>
   some [.int .i64 ((V.nth r7 0).toInt),.int .i64 ((V.nth (r7.drop 1) 0).toInt),.list aa ((V.nth ((r7.drop 1).drop 1) 0).toList)]
  else
   (C po []).bind fun r8=>
   (C mc [.int .i64 4,.list aa ((V.nth (r5.drop 1) 0).toList),.int .i64 ((V.nth r8 0).toInt),.int .i64 ((V.nth (r8.drop 1) 0).toInt),.list aa ((V.nth (r8.drop 2) 0).toList)]).bind fun r9=>
   some [.int .i64 ((V.nth r9 0).toInt),.int .i64 ((V.nth (r9.drop 1) 0).toInt),.list aa ((V.nth ((r9.drop 1).drop 1) 0).toList)]
  else
  (C ud [.list aa ((V.nth (r4.drop 1) 0).toList)]).bind fun dZ=>
  bif (V.nth dZ 0).toBool then
   (C po []).bind fun eH=>
   (C mc [.int .i64 4,.list aa ((V.nth (dZ.drop 1) 0).toList),.int .i64 ((V.nth eH 0).toInt),.int .i64 ((V.nth (eH.drop 1) 0).toInt),.list aa ((V.nth (eH.drop 2) 0).toList)]).bind fun gr=>
   some [.int .i64 ((V.nth gr 0).toInt),.int .i64 ((V.nth (gr.drop 1) 0).toInt),.list aa ((V.nth ((gr.drop 1).drop 1) 0).toList)]
  else
   (C po []).bind fun ib=>
   (C mc [.int .i64 4,.list aa ((V.nth (dZ.drop 1) 0).toList),.int .i64 ((V.nth ib 0).toInt),.int .i64 ((V.nth (ib.drop 1) 0).toInt),.list aa ((V.nth (ib.drop 2) 0).toList)]).bind fun mi=>
   some [.int .i64 ((V.nth mi 0).toInt),.int .i64 ((V.nth (mi.drop 1) 0).toInt),.list aa ((V.nth ((mi.drop 1).drop 1) 0).toList)]
theorem ae3 {kids:List V} {r:Option (List V)} (h:Tf CC kids=r):CC Ek [.list aa kids]=r:=
 bn (key:=78) (L:=cq) (bs:=[]) (by kernel_rfl) aw (bc (by kernel_rfl) h)
noncomputable def Tg (C:ag) (kids:List V):Option (List V):=
 (C rZ [.list aa kids]).bind fun r1=>
 bif (V.nth r1 0).toBool then
  (C po []).bind fun r2=>
  some [.int .i64 ((V.nth r2 0).toInt),.int .i64 ((V.nth (r2.drop 1) 0).toInt),.list aa ((V.nth (r2.drop 2) 0).toList)]
 else
  (C wK [.int .i64 5,.list aa kids]).bind fun r3=>
  (C EA [.list aa ((V.nth r3 0).toList)]).bind fun r4=>
  bif (V.nth r4 0).toBool then
  (C uc []).bind fun r5=>
  (C mc [.int .i64 5,.list aa ((V.nth (r4.drop 1) 0).toList),.int .i64 ((V.nth r5 0).toInt),.int .i64 ((V.nth (r5.drop 1) 0).toInt),.list aa ((V.nth (r5.drop 2) 0).toList)]).bind fun r6=>
  some [.int .i64 ((V.nth r6 0).toInt),.int .i64 ((V.nth (r6.drop 1) 0).toInt),.list aa ((V.nth ((r6.drop 1).drop 1) 0).toList)]
  else
  (C uc []).bind fun r7=>
  (C mc [.int .i64 5,.list aa ((V.nth (r4.drop 1) 0).toList),.int .i64 ((V.nth r7 0).toInt),.int .i64 ((V.nth (r7.drop 1) 0).toInt),.list aa ((V.nth (r7.drop 2) 0).toList)]).bind fun r8=>
  some [.int .i64 ((V.nth r8 0).toInt),.int .i64 ((V.nth (r8.drop 1) 0).toInt),.list aa ((V.nth ((r8.drop 1).drop 1) 0).toList)]
theorem ae4 {kids:List V} {r:Option (List V)} (h:Tg CC kids=r):CC El [.list aa kids]=r:=
 bn (key:=79) (L:=cq) (bs:=[]) (by kernel_rfl) aw (bc (by kernel_rfl) h)
noncomputable def Th (C:ag) (kids:List V):Option (List V):=
 (C rZ [.list aa kids]).bind fun r1=>
 bif (V.nth r1 0).toBool then
  (C po []).bind fun r2=>
  some [.int .i64 ((V.nth r2 0).toInt),.int .i64 ((V.nth (r2.drop 1) 0).toInt),.list aa ((V.nth (r2.drop 2) 0).toList)]
 else
  (C wK [.int .i64 6,.list aa kids]).bind fun r3=>
  (C wJ [.list aa ((V.nth r3 0).toList)]).bind fun r4=>
  bif (V.nth r4 0).toBool then
  (C ud [.list aa ((V.nth (r4.drop 1) 0).toList)]).bind fun r5=>
  bif (V.nth r5 0).toBool then
   (C sa []).bind fun r6=>
   (C mc [.int .i64 6,.list aa ((V.nth (r5.drop 1) 0).toList),.int .i64 ((V.nth r6 0).toInt),.int .i64 ((V.nth (r6.drop 1) 0).toInt),.list aa ((V.nth (r6.drop 2) 0).toList)]).bind fun r7=>
   some [.int .i64 ((V.nth r7 0).toInt),.int .i64 ((V.nth (r7.drop 1) 0).toInt),.list aa ((V.nth ((r7.drop 1).drop 1) 0).toList)]
  else
   (C sa []).bind fun r8=>
   (C mc [.int .i64 6,.list aa ((V.nth (r5.drop 1) 0).toList),.int .i64 ((V.nth r8 0).toInt),.int .i64 ((V.nth (r8.drop 1) 0).toInt),.list aa ((V.nth (r8.drop 2) 0).toList)]).bind fun r9=>
   some [.int .i64 ((V.nth r9 0).toInt),.int .i64 ((V.nth (r9.drop 1) 0).toInt),.list aa ((V.nth ((r9.drop 1).drop 1) 0).toList)]
  else
  (C ud [.list aa ((V.nth (r4.drop 1) 0).toList)]).bind fun dZ=>
  bif (V.nth dZ 0).toBool then
   (C sa []).bind fun eH=>
   (C mc [.int .i64 6,.list aa ((V.nth (dZ.drop 1) 0).toList),.int .i64 ((V.nth eH 0).toInt),.int .i64 ((V.nth (eH.drop 1) 0).toInt),.list aa ((V.nth (eH.drop 2) 0).toList)]).bind fun gr=>
   some [.int .i64 ((V.nth gr 0).toInt),.int .i64 ((V.nth (gr.drop 1) 0).toInt),.list aa ((V.nth ((gr.drop 1).drop 1) 0).toList)]
  else
   (C sa []).bind fun ib=>
   (C mc [.int .i64 6,.list aa ((V.nth (dZ.drop 1) 0).toList),.int .i64 ((V.nth ib 0).toInt),.int .i64 ((V.nth (ib.drop 1) 0).toInt),.list aa ((V.nth (ib.drop 2) 0).toList)]).bind fun mi=>
   some [.int .i64 ((V.nth mi 0).toInt),.int .i64 ((V.nth (mi.drop 1) 0).toInt),.list aa ((V.nth ((mi.drop 1).drop 1) 0).toList)]
theorem ae5 {kids:List V} {r:Option (List V)} (h:Th CC kids=r):CC Em [.list aa kids]=r:=
 bn (key:=80) (L:=cq) (bs:=[]) (by kernel_rfl) aw (bc (by kernel_rfl) h)
noncomputable def Lf (C:ag) (op:Int) (kids:List V):Option (List V):=
 bif (op:Int)==4 then
  (C Ek [.list aa kids]).bind fun r1=>
  some [.int .i64 ((V.nth r1 0).toInt),.int .i64 ((V.nth (r1.drop 1) 0).toInt),.list aa ((V.nth ((r1.drop 1).drop 1) 0).toList)]
 else
  bif (op:Int)==5 then
  (C El [.list aa kids]).bind fun r2=>
  some [.int .i64 ((V.nth r2 0).toInt),.int .i64 ((V.nth (r2.drop 1) 0).toInt),.list aa ((V.nth ((r2.drop 1).drop 1) 0).toList)]
  else
  bif (op:Int)==6 then
   (C Em [.list aa kids]).bind fun r3=>
   some [.int .i64 ((V.nth r3 0).toInt),.int .i64 ((V.nth (r3.drop 1) 0).toInt),.list aa ((V.nth ((r3.drop 1).drop 1) 0).toList)]
  else
   bif ((kids.length:Int):Int) != 1 then
   some [.int .i64 0,.int .i64 0,.list aa ([]:List V)]
   else
   (kids[0]?).bind fun x4=>
   bif (op:Int)==8 then
    bif (((x4.cell 0).toInt):Int)==8 then
    bif ((((x4.cell 2).toList).length:Int):Int)==1 then
     (((x4.cell 2).toList)[0]?).bind fun x5=>
     some [.int .i64 ((x5.cell 0).toInt),.int .i64 ((x5.cell 1).toInt),.list aa ((x5.cell 2).toList)]
    else
     some [.int .i64 8,.int .i64 0,.list aa ([.agg [.int .i64 ((x4.cell 0).toInt),.int .i64 ((x4.cell 1).toInt),.list aa ((x4.cell 2).toList)]]:List V)]
    else
    some [.int .i64 8,.int .i64 0,.list aa ([.agg [.int .i64 ((x4.cell 0).toInt),.int .i64 ((x4.cell 1).toInt),.list aa ((x4.cell 2).toList)]]:List V)]
   else
    bif (op:Int)==7 then
    bif (((x4.cell 0).toInt):Int)==1 then
     (C uc []).bind fun r6=>
     some [.int .i64 ((V.nth r6 0).toInt),.int .i64 ((V.nth (r6.drop 1) 0).toInt),.list aa ((V.nth (r6.drop 2) 0).toList)]
    else
     bif (((x4.cell 0).toInt):Int)==2 then
     (C uc []).bind fun r7=>
     some [.int .i64 ((V.nth r7 0).toInt),.int .i64 ((V.nth (r7.drop 1) 0).toInt),.list aa ((V.nth (r7.drop 2) 0).toList)]
     else
     bif (((x4.cell 0).toInt):Int)==7 then
      some [.int .i64 ((x4.cell 0).toInt),.int .i64 ((x4.cell 1).toInt),.list aa ((x4.cell 2).toList)]
     else
      (C l9 [.int .i64 ((x4.cell 0).toInt),.int .i64 ((x4.cell 1).toInt),.list aa ((x4.cell 2).toList)]).bind fun r8=>
      bif (V.nth r8 0).toBool then
      some [.int .i64 ((x4.cell 0).toInt),.int .i64 ((x4.cell 1).toInt),.list aa ((x4.cell 2).toList)]
      else
      some [.int .i64 7,.int .i64 0,.list aa ([.agg [.int .i64 ((x4.cell 0).toInt),.int .i64 ((x4.cell 1).toInt),.list aa ((x4.cell 2).toList)]]:List V)]
    else
    some [.int .i64 0,.int .i64 0,.list aa ([]:List V)]
theorem Ti {op:Int} {kids:List V} {r:Option (List V)} (h:Lf CC op kids=r):CC j7 [.int .i64 op,.list aa kids]=r:=
 bn (key:=69) (L:=cq) (bs:=[]) (by kernel_rfl) aw (bc (by kernel_rfl) h)
noncomputable abbrev Tj:Code:=cL Try.prog (ax.aZ 59)
noncomputable def Bk (C:ag) (t20:List V) (t21 fl et:Int) (dN:List V) (jA jB:Int) (bM:List V) (t22:Int) (nk:List V) {β:Type} (kn:(Int × (List V))→Option β) (kr:(Int × Bool × (List V))→Option β):Option β:=
 bif decide ((t22:Int)<t21) then
  (idx t20 t22).bind fun x1=>
  (C ub [.int .i64 ((x1.cell 0).toInt),.int .i64 ((x1.cell 1).toInt),.list aa ((x1.cell 2).toList)]).bind fun r2=>
  bif (decide (0≤t22))&&(decide (t22<(nk.length:Int))) then
  (nk[(t22:Int).toNat]?).bind fun x3=>
  kn (IntKind.wrap .i64 (t22+1),nk.set ((t22:Int).toNat) (.agg [.int .i64 ((V.nth r2 0).toInt),.int .i64 ((V.nth (r2.drop 1) 0).toInt),.list aa ((V.nth ((r2.drop 1).drop 1) 0).toList)]))
  else none
 else
  kr (t22,decide ((t22:Int)<t21),nk)
noncomputable def FG (C:ag) (t20:List V) (t21 fl et:Int) (dN:List V) (jA jB:Int) (bM:List V):(Int × (List V))→Option ((Int × (List V)) ⊕ (Int × Bool × (List V))):=un fun t22 nk=>Bk C t20 t21 fl et dN jA jB bM t22 nk (fun y=>some (.inl y)) (fun r=>some (.inr r))
noncomputable def Tk (C:ag):cD:=fun β n ds k=>
 bif Nat.beq n 81 then ca Ja [false,false,true,false,false,false,false,false,true,false] [[1,2,0,0,4,5,6,7,8,0,10]] (@Bk C) ds k else
 none
abbrev ae6 (C:ag) (b:cA):Prop:=cB Try.prog ax C (Tk C) 59 (cQ Try.prog (ax.aZ 59)) (ax.sin 59).ba.length b
theorem ae7 (C:ag):ae6 C (.loop (av [1,1,1,0,1,0,0] Tj)):=
 cg Ja [false,false,true,false,false,false,false,false,true,false] [[1,2,0,0,4,5,6,7,8,0,10]] (@Bk C) (by kernel_rfl) (bm (bs:=[]) (by kernel_rfl) aw) (fun ds=>by kernel_rfl) (fun i x=>by kernel_rfl) (fun i x β k=>by kernel_rfl) (fun β ds k=>by kernel_rfl)
noncomputable def Tl (C:ag) (ah ar:Int) (ae:List V):Option (List V):=
 bif ((ae.length:Int):Int)==0 then
  some [.int .i64 ah,.int .i64 ar,.list aa ([]:List V)]
 else
  bif (decide (0≤(ae.length:Int)))&&((decide ((ae.length:Int)≤(ae.length:Int)))&&(Nat.ble ((((ae.length:Int):Int).toNat)*40) bS)) then
  (Loop (FG C ae (ae.length:Int) ah ar ae 0 0 ([]:List V)) (0,List.replicate (((ae.length:Int):Int).toNat) (V.agg [.int .i64 0,.int .i64 0,.list aa ([]:List V)]))).bind (un fun (ly:Int)=>un fun (pw:Bool) (ae8:List V)=>
   (C j7 [.int .i64 ah,.list aa ae8]).bind fun r7=>
   some [.int .i64 ((V.nth r7 0).toInt),.int .i64 ((V.nth (r7.drop 1) 0).toInt),.list aa ((V.nth ((r7.drop 1).drop 1) 0).toList)])
  else none
theorem ae9 {ah ar:Int} {ae:List V} {r:Option (List V)} (h:Tl CC ah ar ae=r):CC ub [.int .i64 ah,.int .i64 ar,.list aa ae]=r:=
 bn (key:=59) (L:=Tk CC) (bs:=[.loop (av [1,1,1,0,1,0,0] Tj)]) (by kernel_rfl) (bD (ae7 CC) aw) (bc (by kernel_rfl) h)
noncomputable def Tm (C:ag) (ah ar:Int) (ae:List V):Option (List V):=
 (C zY [.int .i64 ah,.int .i64 ar,.list aa ae]).bind fun r1=>
 bif !((V.nth r1 0).toBool) then
  some [.int .i64 0,.int .i64 0,.list aa ([]:List V)]
 else
  (C ub [.int .i64 ah,.int .i64 ar,.list aa ae]).bind fun r2=>
  some [.int .i64 ((V.nth r2 0).toInt),.int .i64 ((V.nth (r2.drop 1) 0).toInt),.list aa ((V.nth ((r2.drop 1).drop 1) 0).toList)]
theorem afa {ah ar:Int} {ae:List V} {r:Option (List V)} (h:Tm CC ah ar ae=r):CC zW [.int .i64 ah,.int .i64 ar,.list aa ae]=r:=
 bn (key:=41) (L:=cq) (bs:=[]) (by kernel_rfl) aw (bc (by kernel_rfl) h)
end Go.AM
set_option maxRecDepth 100000
namespace Go.AM
open Go.Proofs Ex
theorem uX:CC po []=some (eO dY):=abY rfl
theorem FH:CC uc []=some (eO jd):=ab0 rfl
theorem Bl:CC sa []=some (eO iL):=by
 refine ab1 ?_
 unfold Q7
 refine bs uX ?_
 simp[eO,dY,iL,Ex.op,Ex.ch,Ex.kids,dD]
theorem Tn (o:Int) (l:List Ex):(l.filter fun k=> !(decide (k.op=o)))=l.filter fun k=>decide (k.op≠o):=by
 congr 1;funext k;simp
theorem To {ks:List Ex} (hlen:ks.length≤1000000):CC rZ [.list aa (ks.map enc)]=some [.bool (ks.any fun k=>decide (k.op=1))]:=ac4 hlen
theorem afb {ks:List Ex} (hn:ks.length≤1000000): ∃b,CC EC [.list aa (ks.map enc)]=some [.bool b,.list aa ((ks.filter (fun k=>decide (k.op≠1))).map enc)]:=by
 rw[←Tn];exact ac6 hn
theorem afc {ks:List Ex} (hn:ks.length≤1000000): ∃b,CC EA [.list aa (ks.map enc)]=some [.bool b,.list aa ((ks.filter (fun k=>decide (k.op≠2))).map enc)]:=by
 rw[←Tn];exact ada hn
theorem FI {o:Int} {ks:List Ex} (h: ∀k∈ks,k.Ok): ∀k∈bj o ks,k.Ok:=fun x hx=>by
 obtain ⟨k,h1,U|U⟩:=nn.1 hx
 ·have:=h k h1
  obtain ⟨o2,l2,jc⟩:=k
  exact this.mf x U.2
 ·rw[U.2];exact h k h1
theorem afd {n:Int} {ks:List Ex} (hk: ∀k∈ks,Gd n k) (hs:aJ ks≤1000000):CC El [.list aa (ks.map enc)]=some (eO (dz 5 0 ks)):=by
 have hl:=kN ks
 have a1:=qJ 5 ks
 have a2:=kN (bj 5 ks)
 refine ae4 ?_
 unfold Tg
 rw[sy,KG hk]
 refine bs (To (by omega)) ?_
 cases hu:ks.any fun k=>decide (k.op=1) with
 | true=>
  refine bT rfl ?_
  refine bs uX ?_
  rfl
 | false=>
  refine bF rfl ?_
  refine bs (Kp (by omega) (by omega)) ?_
  obtain ⟨b,e⟩:=afc (ks:=bj 5 ks) (by omega)
  refine bs e ?_
  cases b
  ·exact bF rfl (bs FH (bs (pz (z:=jd)) rfl))
  ·exact bT rfl (bs FH (bs (pz (z:=jd)) rfl))
section
variable {n:Int} {ks:List Ex} (hk: ∀k∈ks,Gd n k) (au: ∀k∈ks,k.Ok) (hs:aJ ks≤1000000)
include hk au hs
theorem afe:CC Ek [.list aa (ks.map enc)]=some (eO (dz 4 0 ks)):=by
 have hl:=kN ks
 have a1:=qJ 4 ks
 have a2:=kN (bj 4 ks)
 refine ae3 ?_
 unfold Tf
 rw[uB,Rz hk]
 refine bs (ade (by omega)) ?_
 cases hu:ks.any univ with
 | true=>
  refine bT rfl ?_
  refine bs Bl ?_
  rfl
 | false=>
  refine bF rfl ?_
  refine bs (Kp (by omega) (by omega)) ?_
  obtain ⟨b,e⟩:=afb (ks:=bj 4 ks) (by omega)
  refine bs e ?_
  obtain ⟨b2,e2⟩:=Te (l:=(bj 4 ks).filter fun k=>decide (k.op≠1)) (by have:=sW (fun k:Ex=>decide (k.op≠1)) (bj 4 ks);omega) fun k h=>FI au k (nL.1 h).1
  cases b
  ·refine bF rfl ?_
   refine bs e2 ?_
   cases b2
   ·exact bF rfl (bs uX (bs (pz (z:=dY)) rfl))
   ·exact bT rfl (bs uX (bs (pz (z:=dY)) rfl))
  ·refine bT rfl ?_
   refine bs e2 ?_
   cases b2
   ·exact bF rfl (bs uX (bs (pz (z:=dY)) rfl))
   ·exact bT rfl (bs uX (bs (pz (z:=dY)) rfl))
theorem aff:CC Em [.list aa (ks.map enc)]=some (eO (dz 6 0 ks)):=by
 have hl:=kN ks
 have a1:=qJ 6 ks
 have a2:=kN (bj 6 ks)
 refine ae5 ?_
 unfold Th
 rw[xg,acz hk]
 refine bs (To (by omega)) ?_
 cases hu:ks.any fun k=>decide (k.op=1) with
 | true=>
  refine bT rfl ?_
  refine bs uX ?_
  rfl
 | false=>
  refine bF rfl ?_
  refine bs (Kp (by omega) (by omega)) ?_
  obtain ⟨b,e⟩:=adg (ks:=bj 6 ks) (by omega)
  refine bs e ?_
  obtain ⟨b2,e2⟩:=Te (l:=(bj 6 ks).filter fun k=> !(univ k)) (by have:=sW (fun k:Ex=> !(univ k)) (bj 6 ks);omega) fun k h=>FI au k (nL.1 h).1
  cases b
  ·refine bF rfl ?_
   refine bs e2 ?_
   cases b2
   ·exact bF rfl (bs Bl (bs (pz (z:=iL)) rfl))
   ·exact bT rfl (bs Bl (bs (pz (z:=iL)) rfl))
  ·refine bT rfl ?_
   refine bs e2 ?_
   cases b2
   ·exact bF rfl (bs Bl (bs (pz (z:=iL)) rfl))
   ·exact bT rfl (bs Bl (bs (pz (z:=iL)) rfl))
theorem qS {o:Int} (ho:o=4∨o=5∨o=6):CC j7 [.int .i64 o,.list aa (ks.map enc)]=some (eO (dz o 0 ks)):=by
 refine Ti ?_
 unfold Lf
 rcases ho with rfl|rfl|rfl
 ·exact bT rfl (bs (afe hk au hs) rfl)
 ·exact bF rfl (bT rfl (bs (afd hk hs) rfl))
 ·exact bF rfl (bF rfl (bT rfl (bs (aff hk au hs) rfl)))
end
theorem Lg (k:Ex):[V.agg [.int .i64 k.op,.int .i64 k.ch,.list aa (k.kids.map enc)]]=[k].map enc:=by rw[←dD];rfl
theorem FJ {n o:Int} {k:Ex} (hk:Gd n k) (ho:o=7∨o=8):CC j7 [.int .i64 o,.list aa ([k].map enc)]=some (eO (dz o 0 [k])):=by
 refine Ti ?_
 unfold Lf
 rcases ho with rfl|rfl
 ·refine bF rfl (bF rfl (bF rfl (bF rfl (bs (a:=k.enc) rfl (bF rfl (bT rfl ?_))))))
  rw[xh,a9,bp,bh,c9,c9,c9]
  by_cases h1:k.op=1
  ·rw[aj h1,aj (.inl h1)];exact bs FH rfl
  ·rw[ai h1]
   by_cases U:k.op=2
   ·rw[aj U,aj (.inr U)];exact bs FH rfl
   ·rw[ai U,ai (show¬(k.op=1∨k.op=2) by omega)]
    by_cases h7:k.op=7
    ·rw[aj h7,aj (.inl h7)];rfl
    ·rw[ai h7]
     refine bs (AJ k) ?_
     cases hu:univ k with
     | true=>rw[aj (.inr rfl)];exact bT rfl rfl
     | false=>
      rw[ai (by rintro (h|h);exact h7 h;cases h)]
      refine bF rfl ?_
      rw[Lg];rfl
 ·refine bF rfl (bF rfl (bF rfl (bF rfl (bs (a:=k.enc) rfl (bT rfl ?_)))))
  rw[xi,a9,bp,bh,c9]
  by_cases h8:k.op=8
  ·rw[aj h8,aj h8]
   have hs:=ew hk.shape
   obtain ⟨o2,l2,jc⟩:=k
   simp only[Ex.op,Ex.kids,Ex.ch] at*
   match jc,(show (jc.length:Int)=1 by omega) with
   | [x],_=>
    refine bT (by simp) (bs (a:=x.enc) rfl ?_)
    rw[a9,bp,bh];rfl
  ·rw[ai h8,ai h8,Lg];rfl
theorem Tp {α:Type} (a:List α) (x y:α) (b:List α) {i:Nat} (h:i=a.length):(a++x::b).set i y=(a++[y])++b:=by
 subst h;simp[List.set_append_right]
theorem afg {ks:List Ex} {a b c d:Int} {l1 l2:List V} (hn:ks.length≤1000000) (ih: ∀k∈ks,CC ub (bN k [])=some (eO (aL k))):
  ∀(aB pre:List Ex),ks=pre++aB→∃t,Loop (FG CC (ks.map enc) ((ks.map enc).length:Int) a b l1 c d l2) (((pre.length:Nat):Int),(pre.map aL).map enc++List.replicate aB.length (V.agg [.int .i64 0,.int .i64 0,.list aa ([]:List V)]))=some (((ks.map enc).length:Int),t,(ks.map aL).map enc):=by
 intro aB
 induction aB with
 | nil=>
  intro pre e
  rw[c6] at e
  subst e
  refine ⟨false,aX ?_⟩
  simp only[FG,Bk,un,aQ]
  rw[ay,ai (by omega),cK (by omega)]
  simp
 | cons k aB eZ=>
  intro pre e
  have bZ:pre.length<ks.length:=by rw[e];simp
  have bP:idx (ks.map enc) (pre.length:Int)=some k.enc:=by rw[e];exact hY _ _ _
  obtain ⟨t,ht⟩:=eZ (pre++[k]) (by simp[e])
  refine ⟨t,(bO ?_).trans ht⟩
  simp only[FG,Bk,un,aQ]
  rw[ay,aj (by omega),bP]
  simp only[Option.bind_some,a9,bp,bh]
  refine bs (ih k (by rw[e];simp)) ?_
  refine bT (by simp only[aK,dR,bR,aQ,sS,List.length_cons];omega) ?_
  refine bs (a:=V.agg [.int .i64 0,.int .i64 0,.list aa ([]:List V)]) ?_ ?_
  ·rw[Int.toNat_natCast,ik (by simp)]
   simp
  ·rw[wrap64 (by omega) (by omega),Int.toNat_natCast,List.length_cons,List.replicate_succ,Tp _ _ _ _ (by simp)]
   show some (Sum.inl _)=some (Sum.inl _)
   refine congrArg (fun x=>some (Sum.inl x)) (Prod.ext ?_ ?_)
   ·simp
   ·simp only[eS,cF,fM]
    rw[dD (aL k)];rfl
theorem Tq {n:Int} (hn:n≤6): ∀e:Ex,e.wf n=true→e.size≤1000000→CC ub (bN e [])=some (eO (aL e)):=
 ind fun o l ks ih hw hs=>by
  obtain ⟨h1,U⟩:=gN hw
  have hl:=kN ks
  simp only[size] at hs
  have h3:=ew h1
  refine ae9 ?_
  unfold Tl
  simp only[Ex.op,Ex.kids,Ex.ch,aQ,c9]
  rw[lB]
  by_cases h0:ks=[]
  ·subst h0
   rw[aj (by simp),jD (by simp only[List.length_nil] at h3;omega)]
   rfl
  ·have hp:0<ks.length:=List.length_pos_iff.2 h0
   rw[ai (by omega)]
   refine bT (by simp only[aK,dR,di,j8,Int.toNat_natCast];omega) ?_
   obtain ⟨t,ht⟩:=afg (a:=o) (b:=l) (c:=0) (d:=0) (l1:=ks.map enc) (l2:=[]) (ks:=ks) (by omega) (fun k hk=>ih k hk (U k hk) (by have:=uz hk;omega)) ks [] rfl
   rw[aQ] at ht
   refine bs ht ?_
   have hg: ∀k∈ks.map aL,Gd n k:=fun x hx=>by
    obtain ⟨k,hk,rfl⟩:=gd.1 hx
    exact ml k (U k hk)
   have hz:aJ (ks.map aL)≤aJ ks:=by
    clear ht h3 h1 hw ih hp h0 hl hs hg
    induction ks with
    | nil=>simp[aJ]
    | cons k ks ih=>have a:=xk k (U k (by simp));have b:=ih fun k hk=>U k (by simp[hk]);simp only[cF,aJ];omega
   have au: ∀k∈ks.map aL,k.Ok:=fun k hk=>qL hn k (hg k hk).2 (by have:=uz hk;omega)
   rcases (show (o=4∨o=5∨o=6)∨(o=7∨o=8) by omega) with ho|ho
   ·obtain rfl:l=0:=by omega
    exact bs (qS hg au (by omega) ho) rfl
   ·obtain rfl:l=0:=by omega
    have h5:ks.length=1:=by omega
    match ks,h5 with
    | [k],_=>exact bs (FJ (hg (aL k) (by simp)) ho) rfl
theorem Tr (e:Ex) (h:e.Ok):CC zW (bN e [])=some (eO (if e.val 6=0 then aL e else aW)):=by
 refine afa ?_
 unfold Tm
 refine bs (Rv e h) ?_
 by_cases hv:e.val 6=0
 ·have:=pA hv
  rw[aj hv]
  refine bF (by simp[hv]) ?_
  exact bs (Tq (by omega) e this.2.2 (by omega)) rfl
 ·rw[ai hv]
  refine bT (by simp[hv]) ?_
  rfl
theorem afh {ks:List Ex} {a b c d:Int} {l1 l2:List V} (hn:ks.length≤1000000) (ih: ∀k∈ks,CC wz (bN k [])=some (eO (aL k))):
  ∀(aB pre:List Ex),ks=pre++aB→∃t,Loop (EZ CC (ks.map enc) ((ks.map enc).length:Int) a b l1 c d l2) (((pre.length:Nat):Int),(pre.map aL).map enc)=some (((ks.map enc).length:Int),t,(ks.map aL).map enc):=by
 intro aB
 induction aB with
 | nil=>
  intro pre e
  rw[c6] at e
  subst e
  refine ⟨false,aX ?_⟩
  simp only[EZ,Az,un,aQ]
  rw[ay,ai (by omega),cK (by omega)]
 | cons k aB eZ=>
  intro pre e
  have bZ:pre.length<ks.length:=by rw[e];simp
  have bP:idx (ks.map enc) (pre.length:Int)=some k.enc:=by rw[e];exact hY _ _ _
  obtain ⟨t,ht⟩:=eZ (pre++[k]) (by simp[e])
  refine ⟨t,(bO ?_).trans ht⟩
  simp only[EZ,Az,un,aQ]
  rw[ay,aj (by omega),bP]
  simp only[Option.bind_some,a9,bp,bh]
  refine bs (ih k (by rw[e];simp)) ?_
  refine bT (by simp only[di,j8,aQ,List.length_singleton];omega) ?_
  rw[wrap64 (by omega) (by omega)]
  show some (Sum.inl _)=some (Sum.inl _)
  refine congrArg (fun x=>some (Sum.inl x)) (Prod.ext ?_ ?_)
  ·simp
  ·simp only[eS,cF,fM]
   rw[dD (aL k)];rfl
theorem Lh {op z:Int} {r:List Ex} {lz:List V} {e:Ex} (he:eO e=[.int .i64 z,.int .i64 0,.list aa lz]):
  (bif (((r.map enc).length:Int):Int)==0 then some [V.int .i64 z,V.int .i64 0,V.list aa lz] else bif (((r.map enc).length:Int):Int)==1 then ((r.map enc)[0]?).bind fun x=>some [V.int .i64 ((x.cell 0).toInt),V.int .i64 ((x.cell 1).toInt),V.list aa ((x.cell 2).toList)] else some [V.int .i64 op,V.int .i64 0,V.list aa (r.map enc)])=some (eO (gM op r e)):=by
 simp only[c9,aQ]
 match r with
 | []=>rw[aj (by simp),←he];rfl
 | [k]=>rw[ai (by simp),aj (by simp)];simp[gM,eO,a9,bp,bh]
 | k::k2::r=>
  rw[ai (by simp only[List.length_cons];omega),ai (by simp only[List.length_cons];omega)]
  rfl
theorem afi {n:Int} (hn:n≤6): ∀e:Ex,e.wf n=true→e.size≤1000000→CC wz (bN e [])=some (eO (aL e)):=
 ind fun o l ks ih hw hs=>by
  obtain ⟨h1,U⟩:=gN hw
  have hl:=kN ks
  simp only[size] at hs
  have h3:=ew h1
  refine acd ?_
  unfold Rj
  obtain ⟨t,ht⟩:=afh (a:=o) (b:=l) (c:=0) (d:=0) (l1:=ks.map enc) (l2:=[]) (ks:=ks) (by omega) (fun k hk=>ih k hk (U k hk) (by have:=uz hk;omega)) ks [] rfl
  refine bs ht ?_
  have hg: ∀k∈ks.map aL,Gd n k:=fun x hx=>by
   obtain ⟨k,hk,rfl⟩:=gd.1 hx
   exact ml k (U k hk)
  have hz:aJ (ks.map aL)≤aJ ks:=by
   clear ht h3 h1 hw ih hl hs hg
   induction ks with
   | nil=>simp[aJ]
   | cons k ks ih=>have a:=xk k (U k (by simp));have b:=ih fun k hk=>U k (by simp[hk]);simp only[cF,aJ];omega
  have au: ∀k∈ks.map aL,k.Ok:=fun k hk=>qL hn k (hg k hk).2 (by have:=uz hk;omega)
  have hlen:(ks.map aL).length=ks.length:=by simp
  rw[lB]
  simp only[un,Ex.op,Ex.ch,Ex.kids]
  generalize ks.map aL=ns at*
  have jh:=kN ns
  rcases h3 with ⟨rfl,h4,_⟩|⟨rfl,⟨rfl,h4⟩|⟨rfl,h4⟩|⟨rfl,h4⟩|⟨rfl,h4⟩|⟨rfl,h4⟩|⟨rfl,h4⟩|⟨rfl,h4⟩⟩
  ·obtain rfl:ns=[]:=mE.1 (by omega)
   rw[jD (by omega)]
   exact bF rfl (bF rfl (bF rfl (bF rfl (bF rfl rfl))))
  ·obtain rfl:ns=[]:=mE.1 (by omega)
   rw[jD (by omega)]
   exact bF rfl (bF rfl (bF rfl (bF rfl (bF rfl rfl))))
  ·obtain rfl:ns=[]:=mE.1 (by omega)
   rw[jD (by omega)]
   exact bF rfl (bF rfl (bF rfl (bF rfl (bF rfl rfl))))
  ·refine bF rfl (bF rfl (bF rfl (bT rfl ?_)))
   have a1:=qJ 4 ns
   have a2:=kN (bj 4 ns)
   refine bs (Ko (by omega) (by omega)) ?_
   refine bs (acf (by omega) (FI au) (bj 4 ns) [] [] rfl (bW _) (by simp)) ?_
   rw[uB]
   cases (bj 4 ns).any univ with
   | true=>simp only[cE];rfl
   | false=>
    simp only[yq,fa]
    exact Lh rfl
  ·refine bF rfl (bF rfl (bT rfl ?_))
   have a1:=qJ 5 ns
   have a2:=kN (bj 5 ns)
   refine bs (Ko (by omega) (by omega)) ?_
   refine bs (ace (by omega) (bj 5 ns) [] [] rfl (bW _)) ?_
   rw[sy]
   cases (bj 5 ns).any (fun k=>decide (k.op=1)) with
   | true=>simp only[cE];rfl
   | false=>
    simp only[yq,fa,List.nil_append]
    exact Lh rfl
  ·refine bF rfl (bF rfl (bF rfl (bF rfl (bT rfl ?_))))
   have a1:=qJ 6 ns
   have a2:=kN (bj 6 ns)
   refine bs (Ko (by omega) (by omega)) ?_
   refine bs (acg (by omega) (FI au) (bj 6 ns) [] [] rfl (bW _) (by simp)) ?_
   rw[xg]
   cases (bj 6 ns).any (fun k=>decide (k.op=1)) with
   | true=>simp only[cE];rfl
   | false=>
    simp only[yq,fa]
    refine Lh ?_
    simp[eO,iL,dY,Ex.op,Ex.ch,Ex.kids,dD]
  ·match ns,(show ns.length=1 by omega) with
   | [k],_=>
    refine bF rfl (bT rfl (bT rfl (bs (a:=k.enc) rfl ?_)))
    rw[xh,a9,bp,bh,c9,c9,c9]
    by_cases h1:k.op=1
    ·rw[aj h1,aj (.inl h1)];rfl
    ·rw[ai h1]
     by_cases U:k.op=2
     ·rw[aj U,aj (.inr U)];rfl
     ·rw[ai U,ai (show¬(k.op=1∨k.op=2) by omega)]
      by_cases h7:k.op=7
      ·rw[aj h7,aj (.inl h7)];rfl
      ·rw[ai h7]
       refine bs (Km k) ?_
       cases hu:univ k with
       | true=>rw[aj (.inr rfl)];exact bT rfl rfl
       | false=>
        rw[ai (by rintro (h|h);exact h7 h;cases h)]
        exact bF rfl rfl
  ·match ns,(show ns.length=1 by omega) with
   | [k],_=>
    refine bT rfl (bT rfl (bs (a:=k.enc) rfl ?_))
    rw[xi,a9,c9]
    by_cases h8:k.op=8
    ·rw[aj h8,aj h8]
     have hs:=ew (hg k (by simp)).shape
     obtain ⟨o2,l2,jc⟩:=k
     simp only[Ex.op,Ex.kids,Ex.ch] at*
     match jc,(show (jc.length:Int)=1 by omega) with
     | [x],_=>
      refine bT (by simp) (bs (a:=_) rfl (bs (a:=x.enc) (by rw[bh];rfl) ?_))
      rw[a9,bp,bh];rfl
    ·rw[ai h8,ai h8];rfl
end Go.AM
set_option maxRecDepth 100000
namespace Go.AM
open Go.Proofs
def tab {α:Type} (n:Nat) (g:Nat→α):List α:=(List.range n).map g
section
variable {α β:Type} {n i:Nat} {g h:Nat→α}
@[simp] theorem aiQ:(tab n g).length=n:=by simp[tab]
end
section
variable {γ:Type} {n i:Nat} {g:Nat→V}
theorem sI {es:List V} {v:V} (hi:es[i]? =some v) {K:V→Option γ}:(bif (decide (0≤(i:Int)))&&(decide ((i:Int)<(es.length:Int))) then (es[((i:Int)).toNat]?).bind K else none)=K v:=by
 have hl:i<es.length:=by
  rcases oN i es.length with h|h
  ·exact h
  ·rw[yk h] at hi;cases hi
 rw[Int.toNat_natCast,hi,u7.2 ⟨eT (by omega),eT (by omega)⟩]
 rfl
end
theorem cap {a b m:Nat} (h:a+b≤10000000) (hm:m≤1000):Nat.ble ((a+b)*m) bS=true:=by
 rw[di,j8]
 have:=Nat.mul_le_mul h hm
 omega
theorem afj {n m:Nat} (h:n≤10000000) (hm:m≤1000):((decide (0≤(n:Int)))&&((decide ((n:Int)≤(n:Int)))&&(Nat.ble (((n:Int).toNat)*m) bS)))=true:=by
 have U:=Nat.mul_le_mul h hm
 rw[Int.toNat_natCast]
 refine u7.2 ⟨eT (by omega),u7.2 ⟨eT (by omega),?_⟩⟩
 rw[di,j8]
 omega
theorem pH {i:Nat} (h:i≤1000000000):IntKind.wrap .i64 ((i:Int)+1)=((i+1:Nat):Int):=by rw[wrap64 (by omega) (by omega)];omega
theorem sJ {i n:Nat} (h:i<n):decide ((i:Int)<(n:Int))=true:=eT (by omega)
end Go.AM
set_option maxRecDepth 100000
namespace Go.AM
open Go.Proofs Ex
def oneOf (o:Int):List Ex→Ex
 | [k]=>k
 | l=> .node o 0 l
mutual
def cd (c:Int):Ex→Ex
 | .node o l ks=>
  if o=3 then (if l=c then jd else dY)
  else if o=4∨o=6∨o=8 then .node o 0 (xR c ks)
  else if o=7 then .node 5 0 [(xR c ks).getD 0 aW,.node o l ks]
  else if o=5 then oneOf 4 (iP c ks)
  else dY
def xR (c:Int):List Ex→List Ex
 | []=>[]
 | k::ks=>cd c k::xR c ks
def iP (c:Int):List Ex→List Ex
 | []=>[]
 | k::ks=>oneOf 5 (cd c k::ks)::(if k.da=true then iP c ks else [])
end
theorem Ts {c:Int}: ∀ks,xR c ks=ks.map (cd c)
 | []=>by simp only[xR,fM]
 | k::ks=>by simp only[xR,cF,Ts ks]
theorem xS {c o l:Int} {ks:List Ex}:cd c (.node o l ks)=if o=3 then (if l=c then jd else dY) else if o=4∨o=6∨o=8 then .node o 0 (ks.map (cd c)) else if o=7 then .node 5 0 [(ks.map (cd c)).getD 0 aW,.node o l ks] else if o=5 then oneOf 4 (iP c ks) else dY:=by
 rw[cd,Ts]
theorem FK {c:Int} {k:Ex} {ks:List Ex}:iP c (k::ks)=oneOf 5 (cd c k::ks)::(if k.da=true then iP c ks else []):=by rw[iP]
theorem afk {o:Int} {k:Ex} {l:List Ex}:oneOf o (k::l)=if l=[] then k else .node o 0 (k::l):=by
 cases l with
 | nil=>rfl
 | cons x l=>rw[ai (by simp)];rfl
theorem Tt {n:Int}:dY.wf n=true:=uA (by simp[dy]) (by simp)
theorem afl {n:Int}:jd.wf n=true:=uA (by simp[dy]) (by simp)
theorem afm {n o l len:Int} (h:dy o l len n=true) (ho:o=4∨o=6∨o=8):dy o 0 len n=true:=by
 rcases ew h with h|⟨rfl,h⟩
 ·omega
 ·assumption
theorem Tu {n:Int} {o:Int} (ho:o=4∨o=5) {len:Int} (h:2≤len):dy o 0 len n=true:=by
 unfold dy
 rcases ho with rfl|rfl<;>simp[h]
theorem Tv {n:Int} {o:Int} (ho:o=4∨o=5) {l:List Ex} (hl:l≠[]) (h: ∀k∈l,k.wf n=true):(oneOf o l).wf n=true:=by
 match l,hl with
 | [k],_=>exact h k (by simp)
 | k::k2::l,_=>exact uA (Tu ho (by simp only[List.length_cons];omega)) h
theorem Tw {c:Int} {ks:List Ex} (h:ks≠[]):iP c ks≠[]:=by
 cases ks with
 | nil=>exact absurd rfl h
 | cons k ks=>rw[FK];simp
theorem FL {n c:Int}: ∀{ks:List Ex},(∀k∈ks,k.wf n=true)→(∀k∈ks,(cd c k).wf n=true)→∀x∈iP c ks,x.wf n=true
 | [],_,_,x,hx=>by rw[iP] at hx;cases hx
 | k::ks,h1,U,x,hx=>by
  rw[FK] at hx
  rcases dc.1 hx with rfl|hx
  ·refine Tv (.inr rfl) (by simp) fun y hy=> ?_
   rcases dc.1 hy with rfl|hy
   ·exact U k (by simp)
   ·exact h1 y (by simp[hy])
  ·split at hx
   ·exact FL (fun y hy=>h1 y (by simp[hy])) (fun y hy=>U y (by simp[hy])) x hx
   ·cases hx
theorem uY {n c:Int}: ∀e:Ex,e.wf n=true→(cd c e).wf n=true:=ind fun o l ks ih hw=>by
 obtain ⟨h1,U⟩:=gN hw
 have hk: ∀k∈ks,(cd c k).wf n=true:=fun k hk=>ih k hk (U k hk)
 rw[xS]
 split
 ·split
  ·exact afl
  ·exact Tt
 split
 ·next _ ho=>
  refine uA (by rw[aQ];exact afm h1 ho) fun x hx=> ?_
  obtain ⟨k,lZ,rfl⟩:=gd.1 hx
  exact hk k lZ
 split
 ·next _ _ ho=>
  subst ho
  have hl:ks.length=1:=by rcases ew h1 with h|⟨_,h|h|h|h|h|h|h⟩<;>omega
  obtain ⟨k,rfl⟩:=yv.1 hl
  refine uA (Tu (.inr rfl) (by simp)) fun x hx=> ?_
  rcases dc.1 hx with rfl|hx
  ·exact hk k (by simp)
  ·rw[eb.1 hx];exact hw
 split
 ·next _ _ _ ho=>
  subst ho
  have hl:2≤ks.length:=by rcases ew h1 with h|⟨_,h|h|h|h|h|h|h⟩<;>omega
  exact Tv (.inl rfl) (Tw (by intro h;rw[h] at hl;simp at hl)) (FL U hk)
 ·exact Tt
theorem Tx {o:Int} {l:List Ex}:(oneOf o l).size≤1+aJ l:=by
 match l with
 | []=>simp[oneOf,size,aJ]
 | [k]=>simp[oneOf,aJ]
 | k::k2::l=>simp[oneOf,size]
theorem Li {f:Ex→Ex}: ∀{ks:List Ex},(∀k∈ks,(f k).size≤k.size*k.size)→aJ (ks.map f)≤aJ ks*aJ ks
 | [],_=>by simp[aJ]
 | k::ks,h=>by
  have ih:=Li (f:=f) (ks:=ks) fun x hx=>h x (by simp[hx])
  have hk:=h k (by simp)
  simp only[cF,aJ,db,Nat.mul_add]
  omega
theorem Lj {c:Int}: ∀{ks:List Ex},(∀k∈ks,(cd c k).size≤k.size*k.size)→1+aJ (iP c ks)≤(1+aJ ks)*(1+aJ ks)
 | [],_=>by rw[iP];simp[aJ]
 | k::ks,h=>by
  have ih:=Lj (c:=c) (ks:=ks) fun x hx=>h x (by simp[hx])
  have hk:=h k (by simp)
  have h1:(oneOf 5 (cd c k::ks)).size≤1+((cd c k).size+aJ ks):=Tx
  have hp:=k.size_pos
  have U:aJ (if k.da=true then iP c ks else [])≤aJ (iP c ks):=by
   split
   ·exact bW _
   ·simp[aJ]
  have h3:1*aJ ks≤k.size*aJ ks:=dp _ hp
  have h4:aJ ks*k.size=k.size*aJ ks:=nJ _ _
  rw[FK]
  simp only[aJ,db,Nat.mul_add] at*
  omega
theorem Tz {c:Int}: ∀e:Ex,(∀n,e.wf n=true→(cd c e).size≤e.size*e.size):=ind fun o l ks ih n hw=>by
 obtain ⟨h1,U⟩:=gN hw
 have hk: ∀k∈ks,(cd c k).size≤k.size*k.size:=fun k hk=>ih k hk n (U k hk)
 have h3:1*1≤(Ex.node o l ks).size*(Ex.node o l ks).size:=Nat.mul_le_mul (size_pos _) (size_pos _)
 rw[xS]
 split
 ·split
  ·exact h3
  ·exact h3
 split
 ·have:=Li hk
  simp only[size,db,Nat.mul_add] at*
  omega
 split
 ·next _ _ ho=>
  subst ho
  have hl:ks.length=1:=by rcases ew h1 with h|⟨_,h|h|h|h|h|h|h⟩<;>omega
  obtain ⟨k,rfl⟩:=yv.1 hl
  have:=hk k (by simp)
  have hp:=k.size_pos
  simp only[cF,fM,yr,size,aJ,db,Nat.mul_add,Nat.add_zero] at*
  omega
 split
 ·have h4:=Lj hk
  have h5:(oneOf 4 (iP c ks)).size≤1+aJ (iP c ks):=Tx
  show _≤(1+aJ ks)*(1+aJ ks)
  omega
 ·exact h3
section
variable {n c:Int}
theorem afn {o l:Int} {ks:List Ex} (ho:o=4∨o=6∨o=8):aL (cd c (.node o l ks))=dz o 0 (ks.map fun k=>aL (cd c k)):=by
 rw[xS,ai (by omega),aj ho,lB,List.map_map]
 rfl
theorem afo {l:Int} {k:Ex}:aL (cd c (.node 7 l [k]))=dz 5 0 [aL (cd c k),aL (.node 7 l [k])]:=by
 rw[xS,ai (by omega),ai (by omega),aj rfl,lB]
 rfl
def FM (c:Int) (k:Ex) (ks:List Ex):Ex:=if (aL (cd c k)).op=1 then aL (cd c k) else dz 5 0 (aL (cd c k)::ks.map aL)
theorem afp {k:Ex} {ks:List Ex} (hk:k.wf n=true) (aY: ∀x∈ks,x.wf n=true):FM c k ks=aL (oneOf 5 (cd c k::ks)):=by
 have hg:=ml (n:=n) _ (uY (c:=c) k hk)
 unfold FM
 rw[afk]
 by_cases hn:ks=[]
 ·subst hn
  rw[aj rfl,fM,acL hg]
  split<;>rfl
 ·rw[ai hn,lB,cF]
  by_cases h1:(aL (cd c k)).op=1
  ·rw[aj h1,sy,aj,empty_eq hg h1]
   have Dm: ∀x∈aL (cd c k)::ks.map aL,Gd n x:=fun x hx=>by
    rcases dc.1 hx with rfl|hx
    ·exact hg
    ·obtain ⟨y,hy,rfl⟩:=gd.1 hx
     exact ml y (aY y hy)
   rw[KG Dm]
   simp[h1]
  ·rw[ai h1]
def sK (c:Int):List Ex→List Ex
 | []=>[]
 | k::ks=>FM c k ks::(if k.da=true then sK c ks else [])
theorem parts_eq: ∀{ks:List Ex},(∀x∈ks,x.wf n=true)→sK c ks=(iP c ks).map aL
 | [],_=>by rw[iP];rfl
 | k::ks,h=>by
  have ih:=parts_eq (ks:=ks) fun x hx=>h x (by simp[hx])
  rw[FK,cF,←afp (h k (by simp)) (fun x hx=>h x (by simp[hx]))]
  unfold sK
  refine congrArg _ ?_
  split
  ·exact ih
  ·rfl
theorem afq {l:Int} {ks:List Ex} (bz:ks≠[]) (hk: ∀x∈ks,x.wf n=true):aL (cd c (.node 5 l ks))=dz 4 0 (sK c ks):=by
 rw[xS,ai (by omega),ai (by omega),ai (by omega),aj rfl,parts_eq hk]
 have hw:=FL (c:=c) hk fun k lZ=>uY k (hk k lZ)
 have hn:=Tw (c:=c) bz
 generalize iP c ks=L at*
 match L,hn with
 | [x],_=>exact (acK (ml x (hw x (by simp)))).symm
 | x::y::L,_=>
  show aL (.node 4 0 _)=_
  rw[lB]
end
end Go.AM
set_option maxRecDepth 100000
namespace Go.AM
open Go.Proofs
noncomputable def TA (C:ag) (dP:Int) (dQ:Bool) (ah ar:Int) (ae:List V):Option (List V):=
 bif dQ then
  some [.int .i64 ah,.int .i64 ar,.list aa ae]
 else
  (C ub [.int .i64 ah,.int .i64 ar,.list aa ae]).bind fun r1=>
  some [.int .i64 ((V.nth r1 0).toInt),.int .i64 ((V.nth (r1.drop 1) 0).toInt),.list aa ((V.nth ((r1.drop 1).drop 1) 0).toList)]
theorem afr {dP:Int} {dQ:Bool} {ah ar:Int} {ae:List V} {r:Option (List V)} (h:TA CC dP dQ ah ar ae=r):CC z0 [.int .i64 dP,.bool dQ,.int .i64 ah,.int .i64 ar,.list aa ae]=r:=
 bn (key:=83) (L:=cq) (bs:=[]) (by kernel_rfl) aw (bc (by kernel_rfl) h)
noncomputable abbrev TB:Code:=cL Try.prog (ax.aZ 68)
noncomputable def Bm (C:ag) (t21:List V) (t22 oJ:Int) (oK:Bool) (fl et:Int) (dN:List V) (nD nE qT qU:Int) (qV:Bool) (dO eu:List V) (Bn t23:Int) (lF fq:List V) {β:Type} (kn:(Int × Int × (List V) × (List V))→Option β) (kr:(Int × Int × Bool × (List V) × (List V))→Option β):Option β:=
 bif decide ((t23:Int)<t22) then
  (idx t21 t23).bind fun x1=>
  (C ot [.int .i64 oJ,.bool oK,.int .i64 ((x1.cell 0).toInt),.int .i64 ((x1.cell 1).toInt),.list aa ((x1.cell 2).toList)]).bind fun r2=>
  bif (decide (0≤t23))&&(decide (t23<(lF.length:Int))) then
  (lF[(t23:Int).toNat]?).bind fun x3=>
  bif (decide (0≤t23))&&(decide (t23<(fq.length:Int))) then
   (fq[(t23:Int).toNat]?).bind fun x4=>
   bif (V.nth ((((((r2.drop 1).drop 1).drop 1).drop 1).drop 1).drop 1) 0).toBool then
   kn (IntKind.wrap .i64 (Bn+1),IntKind.wrap .i64 (t23+1),lF.set ((t23:Int).toNat) (.agg [.int .i64 ((V.nth r2 0).toInt),.int .i64 ((V.nth (r2.drop 1) 0).toInt),.list aa ((V.nth ((r2.drop 1).drop 1) 0).toList)]),fq.set ((t23:Int).toNat) (.agg [.int .i64 ((V.nth (((r2.drop 1).drop 1).drop 1) 0).toInt),.int .i64 ((V.nth ((((r2.drop 1).drop 1).drop 1).drop 1) 0).toInt),.list aa ((V.nth (((((r2.drop 1).drop 1).drop 1).drop 1).drop 1) 0).toList)]))
   else
   kn (Bn,IntKind.wrap .i64 (t23+1),lF.set ((t23:Int).toNat) (.agg [.int .i64 ((V.nth r2 0).toInt),.int .i64 ((V.nth (r2.drop 1) 0).toInt),.list aa ((V.nth ((r2.drop 1).drop 1) 0).toList)]),fq.set ((t23:Int).toNat) (.agg [.int .i64 ((V.nth (((r2.drop 1).drop 1).drop 1) 0).toInt),.int .i64 ((V.nth ((((r2.drop 1).drop 1).drop 1).drop 1) 0).toInt),.list aa ((V.nth (((((r2.drop 1).drop 1).drop 1).drop 1).drop 1) 0).toList)]))
  else none
  else none
 else
  kr (Bn,t23,decide ((t23:Int)<t22),lF,fq)
noncomputable def FN (C:ag) (t21:List V) (t22 oJ:Int) (oK:Bool) (fl et:Int) (dN:List V) (nD nE qT qU:Int) (qV:Bool) (dO eu:List V):(Int × Int × (List V) × (List V))→Option ((Int × Int × (List V) × (List V)) ⊕ (Int × Int × Bool × (List V) × (List V))):=un fun Bn=>un fun t23=>un fun lF fq=>Bm C t21 t22 oJ oK fl et dN nD nE qT qU qV dO eu Bn t23 lF fq (fun y=>some (.inl y)) (fun r=>some (.inr r))
noncomputable def TC (C:ag):cD:=fun β n ds k=>
 bif Nat.beq n 65 then ca Je [true,false,false,true,false,false,false,false,false,false,false,false,false,false,true,true,false,false] [[0,2,3,0,0,5,6,7,8,9,10,11,12,13,14,0,0,17,18]] (@Bm C) ds k else
 none
abbrev afs (C:ag) (b:cA):Prop:=cB Try.prog ax C (TC C) 68 (cQ Try.prog (ax.aZ 68)) (ax.sin 68).ba.length b
theorem aft (C:ag):afs C (.loop (av [1,1,1,0,1,0,0] TB)):=
 cg Je [true,false,false,true,false,false,false,false,false,false,false,false,false,false,true,true,false,false] [[0,2,3,0,0,5,6,7,8,9,10,11,12,13,14,0,0,17,18]] (@Bm C) (by kernel_rfl) (bm (bs:=[]) (by kernel_rfl) aw) (fun ds=>by kernel_rfl) (fun i x=>by kernel_rfl) (fun i x β k=>by kernel_rfl) (fun β ds k=>by kernel_rfl)
noncomputable def TD (C:ag) (dP:Int) (dQ:Bool) (ah ar:Int) (ae:List V):Option (List V):=
 bif (decide (0≤(ae.length:Int)))&&((decide ((ae.length:Int)≤(ae.length:Int)))&&(Nat.ble ((((ae.length:Int):Int).toNat)*40) bS)) then
  bif (decide (0≤(ae.length:Int)))&&((decide ((ae.length:Int)≤(ae.length:Int)))&&(Nat.ble ((((ae.length:Int):Int).toNat)*40) bS)) then
  (Loop (FN C ae (ae.length:Int) dP dQ ah ar ae 0 0 0 0 false ([]:List V) ([]:List V)) (0,0,List.replicate (((ae.length:Int):Int).toNat) (V.agg [.int .i64 0,.int .i64 0,.list aa ([]:List V)]),List.replicate (((ae.length:Int):Int).toNat) (V.agg [.int .i64 0,.int .i64 0,.list aa ([]:List V)]))).bind (un fun (Lk:Int)=>un fun (nh:Int)=>un fun (py:Bool)=>un fun (afu:List V) (afv:List V)=>
   (C j7 [.int .i64 ah,.list aa afu]).bind fun dZ=>
   (C j7 [.int .i64 ah,.list aa afv]).bind fun eH=>
   bif (ah:Int)==4 then
    some [.int .i64 ((V.nth dZ 0).toInt),.int .i64 ((V.nth (dZ.drop 1) 0).toInt),.list aa ((V.nth ((dZ.drop 1).drop 1) 0).toList),.int .i64 ((V.nth eH 0).toInt),.int .i64 ((V.nth (eH.drop 1) 0).toInt),.list aa ((V.nth ((eH.drop 1).drop 1) 0).toList),.bool (decide ((Lk:Int)>0))]
   else
    bif (ah:Int)==6 then
    some [.int .i64 ((V.nth dZ 0).toInt),.int .i64 ((V.nth (dZ.drop 1) 0).toInt),.list aa ((V.nth ((dZ.drop 1).drop 1) 0).toList),.int .i64 ((V.nth eH 0).toInt),.int .i64 ((V.nth (eH.drop 1) 0).toInt),.list aa ((V.nth ((eH.drop 1).drop 1) 0).toList),.bool ((Lk:Int)==(ae.length:Int))]
    else
    bif (ah:Int)==8 then
     some [.int .i64 ((V.nth dZ 0).toInt),.int .i64 ((V.nth (dZ.drop 1) 0).toInt),.list aa ((V.nth ((dZ.drop 1).drop 1) 0).toList),.int .i64 ((V.nth eH 0).toInt),.int .i64 ((V.nth (eH.drop 1) 0).toInt),.list aa ((V.nth ((eH.drop 1).drop 1) 0).toList),.bool ((Lk:Int)==0)]
    else
     some [.int .i64 ((V.nth dZ 0).toInt),.int .i64 ((V.nth (dZ.drop 1) 0).toInt),.list aa ((V.nth ((dZ.drop 1).drop 1) 0).toList),.int .i64 ((V.nth eH 0).toInt),.int .i64 ((V.nth (eH.drop 1) 0).toInt),.list aa ((V.nth ((eH.drop 1).drop 1) 0).toList),.bool false])
  else none
 else none
theorem afw {dP:Int} {dQ:Bool} {ah ar:Int} {ae:List V} {r:Option (List V)} (h:TD CC dP dQ ah ar ae=r):CC wF [.int .i64 dP,.bool dQ,.int .i64 ah,.int .i64 ar,.list aa ae]=r:=
 bn (key:=68) (L:=TC CC) (bs:=[.loop (av [1,1,1,0,1,0,0] TB)]) (by kernel_rfl) (bD (aft CC) aw) (bc (by kernel_rfl) h)
noncomputable abbrev FO:Code:=cL Try.prog (ax.aZ 70)
noncomputable def xT (C:ag) (t20:List V) (t21 oJ:Int) (oK:Bool) (nD nE qT qU:Int) (qV:Bool) (pI dO:List V) (sL:Bool) (t22:Int) (lF fq:List V) {β:Type} (kn:(Bool × Int × (List V) × (List V))→Option β) (kr:(Bool × Int × Bool × (List V) × (List V))→Option β):Option β:=
 bif decide ((t22:Int)<t21) then
  (idx t20 t22).bind fun x1=>
  bif !sL then
  (C z0 [.int .i64 oJ,.bool oK,.int .i64 ((x1.cell 0).toInt),.int .i64 ((x1.cell 1).toInt),.list aa ((x1.cell 2).toList)]).bind fun r2=>
  bif (decide (0≤t22))&&(decide (t22<(fq.length:Int))) then
   (fq[(t22:Int).toNat]?).bind fun x3=>
   kn (sL,IntKind.wrap .i64 (t22+1),lF,fq.set ((t22:Int).toNat) (.agg [.int .i64 ((V.nth r2 0).toInt),.int .i64 ((V.nth (r2.drop 1) 0).toInt),.list aa ((V.nth ((r2.drop 1).drop 1) 0).toList)]))
  else none
  else
  (C ot [.int .i64 oJ,.bool oK,.int .i64 ((x1.cell 0).toInt),.int .i64 ((x1.cell 1).toInt),.list aa ((x1.cell 2).toList)]).bind fun r4=>
  bif Nat.ble ((lF.length+([.agg [.int .i64 ((V.nth r4 0).toInt),.int .i64 ((V.nth (r4.drop 1) 0).toInt),.list aa ((V.nth ((r4.drop 1).drop 1) 0).toList)]]:List V).length)*40) bS then
   bif (decide (0≤t22))&&(decide (t22<(fq.length:Int))) then
   (fq[(t22:Int).toNat]?).bind fun x5=>
   kn ((V.nth ((((((r4.drop 1).drop 1).drop 1).drop 1).drop 1).drop 1) 0).toBool,IntKind.wrap .i64 (t22+1),lF++([.agg [.int .i64 ((V.nth r4 0).toInt),.int .i64 ((V.nth (r4.drop 1) 0).toInt),.list aa ((V.nth ((r4.drop 1).drop 1) 0).toList)]]:List V),fq.set ((t22:Int).toNat) (.agg [.int .i64 ((V.nth (((r4.drop 1).drop 1).drop 1) 0).toInt),.int .i64 ((V.nth ((((r4.drop 1).drop 1).drop 1).drop 1) 0).toInt),.list aa ((V.nth (((((r4.drop 1).drop 1).drop 1).drop 1).drop 1) 0).toList)]))
   else none
  else none
 else
  kr (sL,t22,decide ((t22:Int)<t21),lF,fq)
noncomputable def Bo (C:ag) (t20:List V) (t21 oJ:Int) (oK:Bool) (nD nE qT qU:Int) (qV:Bool) (pI dO:List V):(Bool × Int × (List V) × (List V))→Option ((Bool × Int × (List V) × (List V)) ⊕ (Bool × Int × Bool × (List V) × (List V))):=un fun sL=>un fun t22=>un fun lF fq=>xT C t20 t21 oJ oK nD nE qT qU qV pI dO sL t22 lF fq (fun y=>some (.inl y)) (fun r=>some (.inr r))
noncomputable def Bp (C:ag) (sL:Bool) (t55 nD nE qT qU:Int) (qV:Bool) (fq FP pI dO:List V) (t56:Int) (gp:List V) {β:Type} (kn:(Int × (List V))→Option β) (kr:(Int × Bool × (List V))→Option β):Option β:=
 bif decide ((t56:Int)<t55) then
  bif (decide (0≤t56))&&(decide (t56<(FP.length:Int))) then
  (FP[(t56:Int).toNat]?).bind fun ez=>
  bif (((ez.cell 0).toInt):Int)==1 then
   bif (decide (0≤t56))&&(decide (t56<(gp.length:Int))) then
   (gp[(t56:Int).toNat]?).bind fun kM=>
   kn (IntKind.wrap .i64 (t56+1),gp.set ((t56:Int).toNat) (.agg [.int .i64 ((ez.cell 0).toInt),.int .i64 ((ez.cell 1).toInt),.list aa ((ez.cell 2).toList)]))
   else none
  else
   bif (decide (0≤(IntKind.wrap .i64 (t56+1))))&&(decide ((IntKind.wrap .i64 (t56+1))≤(fq.length:Int))) then
   bif Nat.ble ((([.agg [.int .i64 ((ez.cell 0).toInt),.int .i64 ((ez.cell 1).toInt),.list aa ((ez.cell 2).toList)]]:List V).length+((fq.drop ((IntKind.wrap .i64 (t56+1):Int).toNat)).take (fq.length-((IntKind.wrap .i64 (t56+1):Int).toNat))).length)*40) bS then
    (C j7 [.int .i64 5,.list aa (([.agg [.int .i64 ((ez.cell 0).toInt),.int .i64 ((ez.cell 1).toInt),.list aa ((ez.cell 2).toList)]]:List V)++((fq.drop ((IntKind.wrap .i64 (t56+1):Int).toNat)).take (fq.length-((IntKind.wrap .i64 (t56+1):Int).toNat))))]).bind fun ib=>
    bif (decide (0≤t56))&&(decide (t56<(gp.length:Int))) then
    (gp[(t56:Int).toNat]?).bind fun nt=>
    kn (IntKind.wrap .i64 (t56+1),gp.set ((t56:Int).toNat) (.agg [.int .i64 ((V.nth ib 0).toInt),.int .i64 ((V.nth (ib.drop 1) 0).toInt),.list aa ((V.nth ((ib.drop 1).drop 1) 0).toList)]))
    else none
   else none
   else none
  else none
 else
  kr (t56,decide ((t56:Int)<t55),gp)
noncomputable def FQ (C:ag) (sL:Bool) (t55 nD nE qT qU:Int) (qV:Bool) (fq FP pI dO:List V):(Int × (List V))→Option ((Int × (List V)) ⊕ (Int × Bool × (List V))):=un fun t56 gp=>Bp C sL t55 nD nE qT qU qV fq FP pI dO t56 gp (fun y=>some (.inl y)) (fun r=>some (.inr r))
noncomputable def TE (C:ag):cD:=fun β n ds k=>
 bif Nat.beq n 81 then ca Jf [true,false,false,true,false,false,false,false,false,false,false,true,true,false,false] [[0,2,3,0,0,5,6,7,8,9,10,11,0,0,14,15]] (@xT C) ds k else
 bif Nat.beq n 225 then ca Jg [false,false,true,false,false,false,false,false,false,true,false,false,false] [[1,2,0,0,4,5,6,7,8,9,0,11,12,13]] (@Bp C) ds k else
 none
abbrev TF (C:ag) (b:cA):Prop:=cB Try.prog ax C (TE C) 70 (cQ Try.prog (ax.aZ 70)) (ax.sin 70).ba.length b
theorem afx (C:ag):TF C (.loop (av [1,1,1,1,0,1,0,0] FO)):=
 cg Jf [true,false,false,true,false,false,false,false,false,false,false,true,true,false,false] [[0,2,3,0,0,5,6,7,8,9,10,11,0,0,14,15]] (@xT C) (by kernel_rfl) (bm (bs:=[]) (by kernel_rfl) aw) (fun ds=>by kernel_rfl) (fun i x=>by kernel_rfl) (fun i x β k=>by kernel_rfl) (fun β ds k=>by kernel_rfl)
theorem afy (C:ag):TF C (.loop (av [1,1,1,1,1,1,0,1,0,0] FO)):=
 cg Jg [false,false,true,false,false,false,false,false,false,true,false,false,false] [[1,2,0,0,4,5,6,7,8,9,0,11,12,13]] (@Bp C) (by kernel_rfl) (bm (bs:=[]) (by kernel_rfl) aw) (fun ds=>by kernel_rfl) (fun i x=>by kernel_rfl) (fun i x β k=>by kernel_rfl) (fun β ds k=>by kernel_rfl)
noncomputable def TG (C:ag) (dP:Int) (dQ:Bool) (ah ar:Int) (ae:List V):Option (List V):=
 bif (decide (0≤(ae.length:Int)))&&((decide ((ae.length:Int)≤(ae.length:Int)))&&(Nat.ble ((((ae.length:Int):Int).toNat)*40) bS)) then
  (Loop (Bo C ae (ae.length:Int) dP dQ 0 0 0 0 false ([]:List V) ([]:List V)) (true,0,([]:List V),List.replicate (((ae.length:Int):Int).toNat) (V.agg [.int .i64 0,.int .i64 0,.list aa ([]:List V)]))).bind (un fun (TH:Bool)=>un fun (py:Int)=>un fun (Qo:Bool)=>un fun (uZ:List V) (TI:List V)=>
   bif (decide (0≤(uZ.length:Int)))&&((decide ((uZ.length:Int)≤(uZ.length:Int)))&&(Nat.ble ((((uZ.length:Int):Int).toNat)*40) bS)) then
   (Loop (FQ C TH (uZ.length:Int) 0 0 0 0 false TI uZ ([]:List V) ([]:List V)) (0,List.replicate (((uZ.length:Int):Int).toNat) (V.agg [.int .i64 0,.int .i64 0,.list aa ([]:List V)]))).bind (un fun (wW:Int)=>un fun (J9:Bool) (afz:List V)=>
    (C j7 [.int .i64 4,.list aa afz]).bind fun jG=>
    (C j7 [.int .i64 5,.list aa TI]).bind fun ef=>
    some [.int .i64 ((V.nth jG 0).toInt),.int .i64 ((V.nth (jG.drop 1) 0).toInt),.list aa ((V.nth ((jG.drop 1).drop 1) 0).toList),.int .i64 ((V.nth ef 0).toInt),.int .i64 ((V.nth (ef.drop 1) 0).toInt),.list aa ((V.nth ((ef.drop 1).drop 1) 0).toList),.bool TH])
   else none)
 else none
theorem afA {dP:Int} {dQ:Bool} {ah ar:Int} {ae:List V} {r:Option (List V)} (h:TG CC dP dQ ah ar ae=r):CC wG [.int .i64 dP,.bool dQ,.int .i64 ah,.int .i64 ar,.list aa ae]=r:=
 bn (key:=70) (L:=TE CC) (bs:=[.loop (av [1,1,1,1,0,1,0,0] FO),.loop (av [1,1,1,1,1,1,0,1,0,0] FO)]) (by kernel_rfl) (bD (afx CC) (bD (afy CC) aw)) (bc (by kernel_rfl) h)
noncomputable abbrev FR:Code:=cL Try.prog (ax.aZ 50)
noncomputable def FT (C:ag) (t24:Bool) (fl et:Int) (dN:List V) (nD nE qT qU:Int) (qV:Bool) (afB Ll afC afD:Int) (pI dO eu uy:List V) {β:Type} (kr:(Int × Int × (List V))→Option β):Option β:=
 bif t24 then
  kr (afC,afD,uy)
 else
  kr (afB,Ll,eu)
noncomputable def TJ (C:ag):cD:=fun β n ds k=>
 bif Nat.beq n 399 then iJ I8 [[2,3,4,5,6,7,8,9,0,0,14,15,0]] (@FT C) ds k else
 none
abbrev afE (C:ag) (b:cA):Prop:=cB Try.prog ax C (TJ C) 50 (cQ Try.prog (ax.aZ 50)) (ax.sin 50).ba.length b
theorem afF (C:ag):afE C (.cond 24 (av [1,1,0,1,0,1,1,1,0,0,1,0] FR) (av [1,1,0,1,0,1,1,1,0,0,1,1] FR)):=
 jb I8 [[2,3,4,5,6,7,8,9,0,0,14,15,0]] (@FT C) (by kernel_rfl) (bm (bs:=[]) (by kernel_rfl) aw) (bm (bs:=[]) (by kernel_rfl) aw) (fun ds=>by kernel_rfl) (fun i β k=>by kernel_rfl) (fun β ds k=>by kernel_rfl)
noncomputable def TK (C:ag) (dP:Int) (dQ:Bool) (ah ar:Int) (ae:List V):Option (List V):=
 bif (ah:Int)==2 then
  some [.int .i64 1,.int .i64 0,.list aa ([]:List V),.int .i64 2,.int .i64 0,.list aa ([]:List V),.bool true]
 else
  bif (ah:Int)==3 then
  FT C ((ar:Int)==dP) ah ar ae 0 0 0 0 false 1 0 2 0 ([]:List V) ([]:List V) ([]:List V) ([]:List V) (un fun (Ll:Int)=>un fun (afG:Int) (FU:List V)=>
   some [.int .i64 Ll,.int .i64 afG,.list aa FU,.int .i64 3,.int .i64 ar,.list aa ([]:List V),.bool false])
  else
  bif (ah:Int)==4 then
   bif (ah:Int)==4 then
   (C wF [.int .i64 dP,.bool dQ,.int .i64 ah,.int .i64 ar,.list aa ae]).bind fun r4=>
   some [.int .i64 ((V.nth r4 0).toInt),.int .i64 ((V.nth (r4.drop 1) 0).toInt),.list aa ((V.nth ((r4.drop 1).drop 1) 0).toList),.int .i64 ((V.nth (((r4.drop 1).drop 1).drop 1) 0).toInt),.int .i64 ((V.nth ((((r4.drop 1).drop 1).drop 1).drop 1) 0).toInt),.list aa ((V.nth (((((r4.drop 1).drop 1).drop 1).drop 1).drop 1) 0).toList),.bool ((V.nth ((((((r4.drop 1).drop 1).drop 1).drop 1).drop 1).drop 1) 0).toBool)]
   else
   bif (ah:Int)==7 then
    (ae[0]?).bind fun x5=>
    (C ot [.int .i64 dP,.bool dQ,.int .i64 ((x5.cell 0).toInt),.int .i64 ((x5.cell 1).toInt),.list aa ((x5.cell 2).toList)]).bind fun r6=>
    (C j7 [.int .i64 7,.list aa ([.agg [.int .i64 ((V.nth (((r6.drop 1).drop 1).drop 1) 0).toInt),.int .i64 ((V.nth ((((r6.drop 1).drop 1).drop 1).drop 1) 0).toInt),.list aa ((V.nth (((((r6.drop 1).drop 1).drop 1).drop 1).drop 1) 0).toList)]]:List V)]).bind fun r7=>
    (C j7 [.int .i64 5,.list aa ([.agg [.int .i64 ((V.nth r6 0).toInt),.int .i64 ((V.nth (r6.drop 1) 0).toInt),.list aa ((V.nth ((r6.drop 1).drop 1) 0).toList)],.agg [.int .i64 ((V.nth r7 0).toInt),.int .i64 ((V.nth (r7.drop 1) 0).toInt),.list aa ((V.nth ((r7.drop 1).drop 1) 0).toList)]]:List V)]).bind fun r8=>
    some [.int .i64 ((V.nth r8 0).toInt),.int .i64 ((V.nth (r8.drop 1) 0).toInt),.list aa ((V.nth ((r8.drop 1).drop 1) 0).toList),.int .i64 ((V.nth r7 0).toInt),.int .i64 ((V.nth (r7.drop 1) 0).toInt),.list aa ((V.nth ((r7.drop 1).drop 1) 0).toList),.bool true]
   else
    bif (ah:Int)==5 then
    (C wG [.int .i64 dP,.bool dQ,.int .i64 ah,.int .i64 ar,.list aa ae]).bind fun r9=>
    some [.int .i64 ((V.nth r9 0).toInt),.int .i64 ((V.nth (r9.drop 1) 0).toInt),.list aa ((V.nth ((r9.drop 1).drop 1) 0).toList),.int .i64 ((V.nth (((r9.drop 1).drop 1).drop 1) 0).toInt),.int .i64 ((V.nth ((((r9.drop 1).drop 1).drop 1).drop 1) 0).toInt),.list aa ((V.nth (((((r9.drop 1).drop 1).drop 1).drop 1).drop 1) 0).toList),.bool ((V.nth ((((((r9.drop 1).drop 1).drop 1).drop 1).drop 1).drop 1) 0).toBool)]
    else
    some [.int .i64 1,.int .i64 0,.list aa ([]:List V),.int .i64 1,.int .i64 0,.list aa ([]:List V),.bool false]
  else
   bif (ah:Int)==6 then
   bif (ah:Int)==6 then
    (C wF [.int .i64 dP,.bool dQ,.int .i64 ah,.int .i64 ar,.list aa ae]).bind fun dZ=>
    some [.int .i64 ((V.nth dZ 0).toInt),.int .i64 ((V.nth (dZ.drop 1) 0).toInt),.list aa ((V.nth ((dZ.drop 1).drop 1) 0).toList),.int .i64 ((V.nth (((dZ.drop 1).drop 1).drop 1) 0).toInt),.int .i64 ((V.nth ((((dZ.drop 1).drop 1).drop 1).drop 1) 0).toInt),.list aa ((V.nth (((((dZ.drop 1).drop 1).drop 1).drop 1).drop 1) 0).toList),.bool ((V.nth ((((((dZ.drop 1).drop 1).drop 1).drop 1).drop 1).drop 1) 0).toBool)]
   else
    bif (ah:Int)==7 then
    (ae[0]?).bind fun ez=>
    (C ot [.int .i64 dP,.bool dQ,.int .i64 ((ez.cell 0).toInt),.int .i64 ((ez.cell 1).toInt),.list aa ((ez.cell 2).toList)]).bind fun gr=>
    (C j7 [.int .i64 7,.list aa ([.agg [.int .i64 ((V.nth (((gr.drop 1).drop 1).drop 1) 0).toInt),.int .i64 ((V.nth ((((gr.drop 1).drop 1).drop 1).drop 1) 0).toInt),.list aa ((V.nth (((((gr.drop 1).drop 1).drop 1).drop 1).drop 1) 0).toList)]]:List V)]).bind fun ib=>
    (C j7 [.int .i64 5,.list aa ([.agg [.int .i64 ((V.nth gr 0).toInt),.int .i64 ((V.nth (gr.drop 1) 0).toInt),.list aa ((V.nth ((gr.drop 1).drop 1) 0).toList)],.agg [.int .i64 ((V.nth ib 0).toInt),.int .i64 ((V.nth (ib.drop 1) 0).toInt),.list aa ((V.nth ((ib.drop 1).drop 1) 0).toList)]]:List V)]).bind fun mi=>
    some [.int .i64 ((V.nth mi 0).toInt),.int .i64 ((V.nth (mi.drop 1) 0).toInt),.list aa ((V.nth ((mi.drop 1).drop 1) 0).toList),.int .i64 ((V.nth ib 0).toInt),.int .i64 ((V.nth (ib.drop 1) 0).toInt),.list aa ((V.nth ((ib.drop 1).drop 1) 0).toList),.bool true]
    else
    bif (ah:Int)==5 then
     (C wG [.int .i64 dP,.bool dQ,.int .i64 ah,.int .i64 ar,.list aa ae]).bind fun nu=>
     some [.int .i64 ((V.nth nu 0).toInt),.int .i64 ((V.nth (nu.drop 1) 0).toInt),.list aa ((V.nth ((nu.drop 1).drop 1) 0).toList),.int .i64 ((V.nth (((nu.drop 1).drop 1).drop 1) 0).toInt),.int .i64 ((V.nth ((((nu.drop 1).drop 1).drop 1).drop 1) 0).toInt),.list aa ((V.nth (((((nu.drop 1).drop 1).drop 1).drop 1).drop 1) 0).toList),.bool ((V.nth ((((((nu.drop 1).drop 1).drop 1).drop 1).drop 1).drop 1) 0).toBool)]
    else
     some [.int .i64 1,.int .i64 0,.list aa ([]:List V),.int .i64 1,.int .i64 0,.list aa ([]:List V),.bool false]
   else
   bif (ah:Int)==8 then
    (C wF [.int .i64 dP,.bool dQ,.int .i64 ah,.int .i64 ar,.list aa ae]).bind fun pG=>
    some [.int .i64 ((V.nth pG 0).toInt),.int .i64 ((V.nth (pG.drop 1) 0).toInt),.list aa ((V.nth ((pG.drop 1).drop 1) 0).toList),.int .i64 ((V.nth (((pG.drop 1).drop 1).drop 1) 0).toInt),.int .i64 ((V.nth ((((pG.drop 1).drop 1).drop 1).drop 1) 0).toInt),.list aa ((V.nth (((((pG.drop 1).drop 1).drop 1).drop 1).drop 1) 0).toList),.bool ((V.nth ((((((pG.drop 1).drop 1).drop 1).drop 1).drop 1).drop 1) 0).toBool)]
   else
    bif (ah:Int)==7 then
    (ae[0]?).bind fun qM=>
    (C ot [.int .i64 dP,.bool dQ,.int .i64 ((qM.cell 0).toInt),.int .i64 ((qM.cell 1).toInt),.list aa ((qM.cell 2).toList)]).bind fun jG=>
    (C j7 [.int .i64 7,.list aa ([.agg [.int .i64 ((V.nth (((jG.drop 1).drop 1).drop 1) 0).toInt),.int .i64 ((V.nth ((((jG.drop 1).drop 1).drop 1).drop 1) 0).toInt),.list aa ((V.nth (((((jG.drop 1).drop 1).drop 1).drop 1).drop 1) 0).toList)]]:List V)]).bind fun ef=>
    (C j7 [.int .i64 5,.list aa ([.agg [.int .i64 ((V.nth jG 0).toInt),.int .i64 ((V.nth (jG.drop 1) 0).toInt),.list aa ((V.nth ((jG.drop 1).drop 1) 0).toList)],.agg [.int .i64 ((V.nth ef 0).toInt),.int .i64 ((V.nth (ef.drop 1) 0).toInt),.list aa ((V.nth ((ef.drop 1).drop 1) 0).toList)]]:List V)]).bind fun ia=>
    some [.int .i64 ((V.nth ia 0).toInt),.int .i64 ((V.nth (ia.drop 1) 0).toInt),.list aa ((V.nth ((ia.drop 1).drop 1) 0).toList),.int .i64 ((V.nth ef 0).toInt),.int .i64 ((V.nth (ef.drop 1) 0).toInt),.list aa ((V.nth ((ef.drop 1).drop 1) 0).toList),.bool true]
    else
    bif (ah:Int)==5 then
     (C wG [.int .i64 dP,.bool dQ,.int .i64 ah,.int .i64 ar,.list aa ae]).bind fun oH=>
     some [.int .i64 ((V.nth oH 0).toInt),.int .i64 ((V.nth (oH.drop 1) 0).toInt),.list aa ((V.nth ((oH.drop 1).drop 1) 0).toList),.int .i64 ((V.nth (((oH.drop 1).drop 1).drop 1) 0).toInt),.int .i64 ((V.nth ((((oH.drop 1).drop 1).drop 1).drop 1) 0).toInt),.list aa ((V.nth (((((oH.drop 1).drop 1).drop 1).drop 1).drop 1) 0).toList),.bool ((V.nth ((((((oH.drop 1).drop 1).drop 1).drop 1).drop 1).drop 1) 0).toBool)]
    else
     some [.int .i64 1,.int .i64 0,.list aa ([]:List V),.int .i64 1,.int .i64 0,.list aa ([]:List V),.bool false]
theorem afH {dP:Int} {dQ:Bool} {ah ar:Int} {ae:List V} {r:Option (List V)} (h:TK CC dP dQ ah ar ae=r):CC ot [.int .i64 dP,.bool dQ,.int .i64 ah,.int .i64 ar,.list aa ae]=r:=
 bn (key:=50) (L:=TJ CC) (bs:=[.cond 24 (av [1,1,0,1,0,1,1,1,0,0,1,0] FR) (av [1,1,0,1,0,1,1,1,0,0,1,1] FR)]) (by kernel_rfl) (bD (afF CC) aw) (bc (by kernel_rfl) h)
end Go.AM
set_option maxRecDepth 100000
namespace Go.AM
open Go.Proofs Ex
def qW (c:Int) (e:Ex):List V:=bN (aL (cd c e)) (bN (aL e) [.bool e.da])
abbrev zE:V:= .agg [.int .i64 0,.int .i64 0,.list aa ([]:List V)]
theorem sM {α:Type} {A:List V} {n:Nat} {z:V} {i:Nat} (h:i=A.length) {K:V→Option α}:(bif (decide (0≤(i:Int)))&&(decide ((i:Int)<((A++List.replicate (n+1) z).length:Int))) then ((A++List.replicate (n+1) z)[((i:Int)).toNat]?).bind K else none)=K z:=by
 refine sI ?_
 rw[h,ik (bW _)]
 simp
theorem sN {A:List V} {n:Nat} {z v:V} {i:Nat} (h:i=A.length):(A++List.replicate (n+1) z).set i v=A++[v]++List.replicate n z:=by
 rw[List.replicate_succ,Tp _ _ _ _ h]
theorem afI (a:Ex):V.agg [.int .i64 a.op,.int .i64 a.ch,.list aa (a.kids.map enc)]=a.enc:=(dD a).symm
theorem Lm {c:Int} {e:Ex} (hw:e.wf 6=true):(aL (cd c e)).size≤e.size*e.size:=
 lH (xk _ (uY e hw)) (Tz e 6 hw)
theorem FV {a m:Nat} (h:a≤m):a*a≤m*m:=Nat.mul_le_mul h h
theorem TL {e:Ex} (hw:e.wf 6=true) (hs:e.size≤1000000):Gd 6 (aL e)∧(aL e).Ok∧(aL e).size≤e.size:=by
 have h1:=ml e hw
 have U:=xk e hw
 exact ⟨h1,qL (by omega) _ h1.2 (by omega),U⟩
def mw (c:Int):List Ex→List Ex
 | []=>[]
 | k::ks=>aL (cd c k)::(if k.da=true then mw c ks else [])
def Bq (ss:List Ex):Nat→List Ex→List Ex
 | _,[]=>[]
 | i,d::ds=>(if d.op=1 then d else dz 5 0 (d::ss.drop (i+1)))::Bq ss (i+1) ds
theorem TM {c:Int}: ∀(ks pre:List Ex),Bq ((pre++ks).map aL) pre.length (mw c ks)=sK c ks
 | [],pre=>rfl
 | k::ks,pre=>by
  have ih:=TM (c:=c) ks (pre++[k])
  have e1:((pre++k::ks).map aL).drop (pre.length+1)=ks.map aL:=by
   rw[eS,cF,show pre.length+1=(pre.map aL++[aL k]).length by simp,show pre.map aL++aL k::ks.map aL=(pre.map aL++[aL k])++ks.map aL by simp,List.drop_left]
  unfold mw sK Bq FM
  rw[e1]
  refine congrArg _ ?_
  split
  ·rw[←ih];simp
  ·rfl
theorem TN {c:Int}: ∀ks:List Ex,(mw c ks).length≤ks.length
 | []=>bW _
 | k::ks=>by
  have:=TN (c:=c) ks
  unfold mw
  split<;>simp<;>omega
theorem TO {c:Int}: ∀{ks:List Ex} {d:Ex},d∈mw c ks→∃k∈ks,d=aL (cd c k)
 | k::ks,d,h=>by
  unfold mw at h
  rcases dc.1 h with rfl|h
  ·exact ⟨k,by simp,rfl⟩
  ·split at h
   ·obtain ⟨x,hx,e⟩:=TO h
    exact ⟨x,by simp[hx],e⟩
   ·cases h
theorem Ln: ∀{ks:List Ex},(∀k∈ks,k.wf 6=true)→aJ (ks.map aL)≤aJ ks
 | [],_=>by simp[aJ]
 | k::ks,h=>by
  have a:=xk k (h k (by simp))
  have b:=Ln (ks:=ks) fun k hk=>h k (by simp[hk])
  simp only[cF,aJ];omega
theorem Lo {ks:List Ex} {f:Ex→Ex} (h: ∀k∈ks,Gd 6 (f k)∧(f k).Ok):(∀k∈ks.map f,Gd 6 k)∧∀k∈ks.map f,k.Ok:=
 ⟨fun x hx=>by obtain ⟨k,hk,rfl⟩:=gd.1 hx;exact (h k hk).1,fun x hx=>by obtain ⟨k,hk,rfl⟩:=gd.1 hx;exact (h k hk).2⟩
theorem Lp {n:Nat} (h:n≤1000000):Nat.ble (n*40) bS=true:=by rw[di,j8];omega
theorem FW {n:Nat} (h:n≤1000000):((decide (0≤(n:Int)))&&((decide ((n:Int)≤(n:Int)))&&(Nat.ble (((n:Int).toNat)*40) bS)))=true:=afj (by omega) (by omega)
def kP (ks:List Ex):Nat:=(ks.filter Ex.da).length
section
variable {c:Int} {nm:Bool} {ks:List Ex}
variable (hn:ks.length≤1000) (ih: ∀k∈ks,CC ot (.int .i64 c:: .bool nm::bN k [])=some (qW c k))
include hn ih
theorem afJ {a b c1 c2 c3 c4:Int} {b1:Bool} {l1 l2 l3:List V}: ∀(aB pre:List Ex),ks=pre++aB→
  Loop (FN CC (ks.map enc) (ks.length:Int) c nm a b l1 c1 c2 c3 c4 b1 l2 l3) (((kP pre:Nat):Int),((pre.length:Nat):Int),(pre.map fun k=>aL (cd c k)).map enc++List.replicate aB.length zE,(pre.map aL).map enc++List.replicate aB.length zE)
   = some (((kP ks:Nat):Int),(ks.length:Int),false,(ks.map fun k=>aL (cd c k)).map enc,(ks.map aL).map enc):=by
 intro aB
 induction aB with
 | nil=>
  intro pre e
  rw[c6] at e
  subst e
  refine aX ?_
  simp only[FN,Bm,un]
  rw[ay,ai (by omega),cK (by omega)]
  simp
 | cons k aB eZ=>
  intro pre e
  have bZ:pre.length<ks.length:=by rw[e];simp
  have bP:idx (ks.map enc) (pre.length:Int)=some k.enc:=by rw[e];exact hY _ _ _
  refine (bO ?_).trans (eZ (pre++[k]) (by simp[e]))
  simp only[FN,Bm,un]
  refine bT (sJ bZ) (bs bP ?_)
  rw[a9,bp,bh]
  refine bs (ih k (by rw[e];simp)) ?_
  refine (sM (by simp)).trans ?_
  refine (sM (by simp)).trans ?_
  rw[Int.toNat_natCast]
  have hc:kP (pre++[k])=kP pre+(if k.da=true then 1 else 0):=by
   unfold kP
   rw[mF,bR]
   cases hk:k.da<;>simp[hk]
  have kE:kP pre≤pre.length:=sW _ _
  have rE:pre.length=((pre.map fun k=>aL (cd c k)).map enc).length:=by simp
  have jh:pre.length=((pre.map aL).map enc).length:=by simp
  rw[List.length_cons,sN rE,sN jh]
  cases hk:k.da with
  | true=>
   refine bT hk ?_
   rw[pH (by omega),pH (by omega),hc,hk]
   simp only[cE,eS,cF,fM,bR,List.length_cons,List.length_nil]
   rw[dD (aL (cd c k)),dD (aL k)]
   rfl
  | false=>
   refine bF hk ?_
   rw[pH (by omega),hc,hk]
   simp only[ai Bool.false_ne_true,eS,cF,fM,bR,List.length_cons,List.length_nil]
   rw[dD (aL (cd c k)),dD (aL k)]
   rfl
theorem afK {c1 c2 c3 c4:Int} {b1:Bool} {l1 l2:List V} (hs: ∀k∈ks,CC z0 (.int .i64 c:: .bool nm::bN k [])=some (eO (aL k))): ∀(aB pre B:List Ex) (b:Bool),ks=pre++aB→B.length≤pre.length→
  Loop (Bo CC (ks.map enc) (ks.length:Int) c nm c1 c2 c3 c4 b1 l1 l2) (b,((pre.length:Nat):Int),B.map enc,(pre.map aL).map enc++List.replicate aB.length zE)
   = some (b&&aB.all Ex.da,(ks.length:Int),false,(B++(if b=true then mw c aB else [])).map enc,(ks.map aL).map enc):=by
 intro aB
 induction aB with
 | nil=>
  intro pre B b e hB
  rw[c6] at e
  subst e
  refine aX ?_
  simp only[Bo,xT,un]
  rw[ay,ai (by omega),cK (by omega)]
  simp[mw]
 | cons k aB eZ=>
  intro pre B b e hB
  have bZ:pre.length<ks.length:=by rw[e];simp
  have bP:idx (ks.map enc) (pre.length:Int)=some k.enc:=by rw[e];exact hY _ _ _
  have jh:pre.length=((pre.map aL).map enc).length:=by simp
  cases b with
  | false=>
   refine (bO ?_).trans (eZ (pre++[k]) B false (by simp[e]) (by simp;omega))
   simp only[Bo,xT,un]
   refine bT (sJ bZ) (bs bP (bT rfl ?_))
   rw[a9,bp,bh]
   refine bs (hs k (by rw[e];simp)) ?_
   refine (sM (by simp)).trans ?_
   rw[Int.toNat_natCast,List.length_cons,sN jh,pH (by omega)]
   simp only[eS,cF,fM,bR,List.length_cons,List.length_nil]
   rw[dD (aL k)]
   rfl
  | true=>
   refine ((bO ?_).trans (eZ (pre++[k]) (B++[aL (cd c k)]) k.da (by simp[e]) (by simp;omega))).trans ?_
   ·simp only[Bo,xT,un]
    refine bT (sJ bZ) (bs bP (bF rfl ?_))
    rw[a9,bp,bh]
    refine bs (ih k (by rw[e];simp)) ?_
    refine bT (Lp (by simp;omega)) ?_
    refine (sM (by simp)).trans ?_
    rw[Int.toNat_natCast,List.length_cons,sN jh,pH (by omega)]
    simp only[eS,cF,fM,bR,List.length_cons,List.length_nil]
    rw[dD (aL k),dD (aL (cd c k))]
    rfl
   ·simp only[mD,List.all_cons,cE]
    rw[show mw c (k::aB)=aL (cd c k)::(if k.da=true then mw c aB else []) from rfl,cj]
    rfl
end
theorem afL {ss D:List Ex} {b b1:Bool} {c1 c2 c3 c4:Int} {l1 l2:List V} (hD:D.length≤ss.length) (hss:ss.length≤1000) (hd: ∀d∈D,Gd 6 d∧d.Ok∧d.size≤500000) (hsg: ∀k∈ss,Gd 6 k∧k.Ok) (aU:aJ ss≤500000): ∀(aB pre P:List Ex),D=pre++aB→P.length=pre.length→
  Loop (FQ CC b (D.length:Int) c1 c2 c3 c4 b1 (ss.map enc) (D.map enc) l1 l2) (((pre.length:Nat):Int),P.map enc++List.replicate aB.length zE)
   = some ((D.length:Int),false,(P++Bq ss pre.length aB).map enc):=by
 intro aB
 induction aB with
 | nil=>
  intro pre P e hP
  rw[c6] at e
  subst e
  refine aX ?_
  simp only[FQ,Bp,un]
  rw[ay,ai (by omega),cK (by omega)]
  simp[Bq]
 | cons d aB eZ=>
  intro pre P e hP
  have bZ:pre.length<D.length:=by rw[e];simp
  have hm:d∈D:=by rw[e];simp
  have bP:(D.map enc)[pre.length]? =some d.enc:=by rw[e];simp
  have jh:pre.length=(P.map enc).length:=by simp[hP]
  refine ((bO ?_).trans (eZ (pre++[d]) (P++[if d.op=1 then d else dz 5 0 (d::ss.drop (pre.length+1))]) (by simp[e]) (by simp[hP]))).trans ?_
  ·simp only[FQ,Bp,un]
   refine bT (sJ bZ) ?_
   refine (sI bP).trans ?_
   rw[a9,bp,bh,c9]
   by_cases h1:d.op=1
   ·rw[aj h1,aj h1]
    refine (sM jh).trans ?_
    rw[Int.toNat_natCast,List.length_cons,sN jh,pH (by omega)]
    simp only[eS,cF,fM,bR,List.length_cons,List.length_nil]
    rw[dD d]
   ·rw[ai h1,ai h1,pH (by omega),Int.toNat_natCast,aQ]
    refine bT (u7.2 ⟨eT (by omega),eT (by omega)⟩) ?_
    have ht:((ss.map enc).drop (pre.length+1)).take (ss.length-(pre.length+1))=(ss.drop (pre.length+1)).map enc:=by
     rw[←List.map_drop,B5 (by simp)]
    rw[ht]
    refine bT (Lp (by simp;omega)) ?_
    have hg: ∀k∈d::ss.drop (pre.length+1),Gd 6 k∧k.Ok:=fun k hk=>by
     rcases dc.1 hk with rfl|hk
     ·exact ⟨(hd _ hm).1,(hd _ hm).2.1⟩
     ·exact hsg k (List.mem_of_mem_drop hk)
    have hz:aJ (d::ss.drop (pre.length+1))≤1000000:=by
     have h1:=(hd d hm).2.2
     have U:=E9 (ss.take (pre.length+1)) (ss.drop (pre.length+1))
     rw[B0] at U
     simp only[aJ];omega
    rw[Lg,←eS]
    refine bs (qS (o:=5) (fun k hk=>(hg k hk).1) (fun k hk=>(hg k hk).2) hz (by omega)) ?_
    refine (sM jh).trans ?_
    rw[Int.toNat_natCast,List.length_cons,sN jh]
    simp only[eS,cF,fM,bR,List.length_cons,List.length_nil]
    rw[dD (dz 5 0 (d::ss.drop (pre.length+1)))]
    rfl
  ·rw[bR,cj]
   rfl
theorem TP: ∀ks:List Ex,oC ks=ks.all Ex.da
 | []=>rfl
 | k::ks=>by simp[oC,TP ks]
theorem TQ: ∀ks:List Ex,mj ks=decide ((kP ks:Int)>0)
 | []=>by simp[mj,kP]
 | k::ks=>by
  have:=TQ ks
  unfold kP at*
  cases hk:k.da
  ·simp[mj,hk,this]
  ·simp[mj,hk]
theorem TR: ∀ks:List Ex,oC ks=((kP ks:Int)==(ks.length:Int))
 | []=>by simp[oC,kP]
 | k::ks=>by
  have h:=TR ks
  have hl:kP ks≤ks.length:=sW _ _
  unfold kP at*
  rw[oC,h,oQ]
  cases hk:k.da
  ·simp[hk];omega
  ·simp[hk]
theorem afM {c:Int} {nm:Bool}: ∀e:Ex,e.wf 6=true→e.size≤400→(nm=true→Gd 6 e)→CC ot (.int .i64 c:: .bool nm::bN e [])=some (qW c e):=
 ind fun o l ks ih hw hs kU=>by
  obtain ⟨h1,U⟩:=gN hw
  have hl:=kN ks
  have TS:aJ ks≤399:=by simp only[size] at hs;omega
  have FX: ∀k∈ks,k.size≤399:=fun k hk=>lH (uz hk) TS
  have kD: ∀k∈ks,CC ot (.int .i64 c:: .bool nm::bN k [])=some (qW c k):=fun k hk=>ih k hk (U k hk) (by have:=FX k hk;omega) fun h=>(kU h).kids k hk
  have hsm: ∀k∈ks,CC z0 (.int .i64 c:: .bool nm::bN k [])=some (eO (aL k)):=fun k hk=>by
   refine afr ?_
   unfold TA
   cases nm with
   | true=>refine bT rfl ?_;rw[RB k ((kU rfl).kids k hk)];rfl
   | false=>
    refine bF rfl ?_
    have:=FX k hk
    exact bs (Tq (n:=6) (by omega) k (U k hk) (by omega)) rfl
  have dF: ∀k∈ks,(aL (cd c k)).size≤160000:=fun k hk=>by
   have a:=Lm (c:=c) (U k hk)
   have b:=FV (FX k hk)
   omega
  have Br: ∀k∈ks,Gd 6 (aL (cd c k))∧(aL (cd c k)).Ok:=fun k hk=>by
   have a:=ml _ (uY (c:=c) k (U k hk))
   have b:=dF k hk
   exact ⟨a,qL (by omega) _ a.2 (by omega)⟩
  have FY: ∀k∈ks,Gd 6 (aL k)∧(aL k).Ok:=fun k hk=>by
   have a:=TL (U k hk) (by have:=FX k hk;omega)
   exact ⟨a.1,a.2.1⟩
  have hnz:=Ln U
  have hbz:aJ (ks.map fun k=>aL (cd c k))≤160000:=by
   have a:=Li (f:=fun k=>aL (cd c k)) fun k hk=>Lm (c:=c) (U k hk)
   have b:=FV TS
   omega
  have Lq:(o=4∨o=6∨o=8)→CC wF (.int .i64 c:: .bool nm::bN (.node o l ks) [])=some (qW c (.node o l ks)):=fun ho=>by
   obtain ⟨a1,a2⟩:=Lo Br
   obtain ⟨b1,b2⟩:=Lo FY
   have jo:l=0:=by rcases ew h1 with h|h<;>omega
   refine afw ?_
   unfold TD
   simp only[Ex.op,Ex.kids,Ex.ch,aQ]
   refine bT (FW (by omega)) (bT (FW (by omega)) ?_)
   have Lr:=afJ (ks:=ks) (nm:=nm) (c:=c) (by omega) kD (a:=o) (b:=l) (c1:=0) (c2:=0) (c3:=0) (c4:=0) (b1:=false) (l1:=ks.map enc) (l2:=[]) (l3:=[]) ks [] rfl
   rw[Int.toNat_natCast]
   refine bs Lr ?_
   unfold qW
   rw[afn ho,lB,jo]
   rcases ho with rfl|rfl|rfl
   ·refine bs (qS a1 a2 (by omega) (.inl rfl)) ?_
    refine bs (qS b1 b2 (by omega) (.inl rfl)) ?_
    refine bT rfl ?_
    rw[←TQ]
    rfl
   ·refine bs (qS a1 a2 (by omega) (.inr (.inr rfl))) ?_
    refine bs (qS b1 b2 (by omega) (.inr (.inr rfl))) ?_
    refine bF rfl (bT rfl ?_)
    rw[←TR]
    rfl
   ·obtain ⟨k,rfl⟩:=yv.1 (show ks.length=1 by rcases ew h1 with h|h<;>omega)
    refine bs (FJ (Br k (by simp)).1 (.inr rfl)) ?_
    refine bs (FJ (FY k (by simp)).1 (.inr rfl)) ?_
    refine bF rfl (bF rfl (bT rfl ?_))
    refine congrArg some ?_
    have:(((kP [k]:Nat):Int)==0)=(Ex.node 8 0 [k]).da:=by
     simp only[Ex.da,kP]
     cases hk:k.da<;>simp[hk,mj]
    rw[this]
    rfl
  have afN:o=5→CC wG (.int .i64 c:: .bool nm::bN (.node o l ks) [])=some (qW c (.node o l ks)):=fun ho=>by
   subst ho
   have bz:ks≠[]:=by rintro rfl;rcases ew h1 with h|h<;>simp at h<;>omega
   have jo:l=0:=by rcases ew h1 with h|h<;>omega
   obtain ⟨b1,b2⟩:=Lo FY
   have hD:=TN (c:=c) ks
   refine afA ?_
   unfold TG
   simp only[Ex.op,Ex.kids,Ex.ch,aQ]
   refine bT (FW (by omega)) ?_
   rw[Int.toNat_natCast]
   have Lr:=afK (ks:=ks) (nm:=nm) (c:=c) (by omega) kD (c1:=0) (c2:=0) (c3:=0) (c4:=0) (b1:=false) (l1:=[]) (l2:=[]) hsm ks [] [] true rfl (bW _)
   refine bs Lr ?_
   simp only[un,List.nil_append,cE,mD,aQ]
   refine bT (FW (by omega)) ?_
   rw[Int.toNat_natCast]
   have bZ:=afL (ss:=ks.map aL) (D:=mw c ks) (b:=ks.all Ex.da) (c1:=0) (c2:=0) (c3:=0) (c4:=0) (b1:=false) (l1:=[]) (l2:=[]) (by simp;omega) (by simp;omega) (fun d hd=>by
    obtain ⟨k,hk,rfl⟩:=TO hd
    have:=dF k hk
    exact ⟨(Br k hk).1,(Br k hk).2,by omega⟩) (fun k hk=>⟨b1 k hk,b2 k hk⟩) (by omega) (mw c ks) [] [] rfl rfl
   have he:=TM (c:=c) ks []
   rw[List.nil_append] at he
   rw[List.length_nil] at bZ he
   rw[he] at bZ
   refine bs bZ ?_
   simp only[un,List.nil_append]
   have vy:=parts_eq (c:=c) U
   have TT:=FL (c:=c) U fun k hk=>uY k (U k hk)
   have hcz:aJ (iP c ks)≤160000:=by
    have a:=Lj (c:=c) (ks:=ks) fun k hk=>Tz k 6 (U k hk)
    have b:=FV (show 1+aJ ks≤400 by omega)
    omega
   have hpz:aJ (sK c ks)≤160000:=by rw[vy];have:=Ln TT;omega
   have TU: ∀k∈sK c ks,Gd 6 k∧k.Ok:=fun k hk=>by
    have hz:=uz hk
    rw[vy] at hk
    obtain ⟨x,hx,rfl⟩:=gd.1 hk
    have a:=ml x (TT x hx)
    exact ⟨a,qL (by omega) _ a.2 (by omega)⟩
   refine bs (qS (fun k hk=>(TU k hk).1) (fun k hk=>(TU k hk).2) (by omega) (.inl rfl)) ?_
   refine bs (qS b1 b2 (by omega) (.inr (.inl rfl))) ?_
   unfold qW
   rw[afq bz U,lB,jo,←TP]
   rfl
  refine afH ?_
  unfold TK FT
  simp only[Ex.op,Ex.kids,Ex.ch]
  rcases ew h1 with ⟨rfl,h⟩|⟨rfl,⟨rfl,h⟩|⟨rfl,h⟩|⟨rfl,h⟩|⟨rfl,h⟩|⟨rfl,h⟩|⟨rfl,h⟩|⟨rfl,h⟩⟩
  ·obtain rfl:=mE.1 (show ks.length=0 by omega)
   refine bF rfl (bT rfl ?_)
   unfold qW
   rw[xS,aj rfl,lB,jD (by omega)]
   rw[c9]
   by_cases v7:l=c
   ·rw[aj v7,aj v7];rfl
   ·rw[ai v7,ai v7];rfl
  ·obtain rfl:=mE.1 (show ks.length=0 by omega)
   rfl
  ·obtain rfl:=mE.1 (show ks.length=0 by omega)
   rfl
  ·exact bF rfl (bF rfl (bT rfl (bT rfl (bs (Lq (.inl rfl)) rfl))))
  ·refine bF rfl (bF rfl (bF rfl (bF rfl (bF rfl (bF rfl (bT rfl ?_))))))
   exact bs (afN rfl) rfl
  ·exact bF rfl (bF rfl (bF rfl (bT rfl (bT rfl (bs (Lq (.inr (.inl rfl))) rfl)))))
  ·obtain ⟨k,rfl⟩:=yv.1 (show ks.length=1 by omega)
   refine bF rfl (bF rfl (bF rfl (bF rfl (bF rfl (bT rfl ?_)))))
   refine bs (a:=k.enc) rfl ?_
   rw[a9,bp,bh]
   refine bs (kD k (by simp)) ?_
   have hk:=FY k (by simp)
   have hb:=Br k (by simp)
   have hj:=FJ hk.1 (o:=7) (.inl rfl)
   rw[cF,fM,dD] at hj
   refine bs hj ?_
   have ql:dz 7 0 [aL k]=aL (.node 7 0 [k]):=by rw[lB];rfl
   have Ls:=TL hw (by omega)
   have hz2:=dF k (by simp)
   have fR:=qS (n:=6) (ks:=[aL (cd c k),aL (.node 7 0 [k])]) (o:=5) (fun x hx=>by
    rcases dc.1 hx with rfl|hx
    ·exact hb.1
    ·rw[eb.1 hx];exact Ls.1) (fun x hx=>by
    rcases dc.1 hx with rfl|hx
    ·exact hb.2
    ·rw[eb.1 hx];exact Ls.2.1) (by have:=Ls.2.2;simp only[aJ];omega) (by omega)
   rw[cF,cF,fM,dD (aL (cd c k)),dD (aL (.node 7 0 [k])),←ql] at fR
   refine bs fR ?_
   unfold qW
   rw[afo,←ql]
   rfl
  ·exact bF rfl (bF rfl (bF rfl (bF rfl (bT rfl (bs (Lq (.inr (.inr rfl))) rfl)))))
structure Dv where
 L:Int
 es:List Ex
 nx:List (List Int)
 dn:Int
deriving DecidableEq
def Dv.zero:Dv:=⟨0,[],[],0⟩
def qX (e:Ex) (c:Nat):Option Ex:=if (aL (cd c e)).val 6=0 then some (aL (cd c e)) else none
def nF (e:Ex):Nat→Nat→List Ex→List Int→Option (List Ex × List Int)
 | 0,_,es,row=>some (es,row)
 | n+1,x,es,row=>(qX e x).bind fun d=>
  if d∈es then nF e n (x+1) es (row++[(es.idxOf d:Int)])
  else if es.length=512 then none else nF e n (x+1) (es++[d]) (row++[(es.length:Int)])
def proc (s:Dv):Option Dv:=(nF (s.es.getD s.dn.toNat aW) s.L.toNat 0 s.es []).map fun p=>⟨s.L,p.1,s.nx++[p.2],s.dn+1⟩
def sO:Nat→Dv→Option Dv
 | 0,s=>some s
 | n+1,s=>if s.dn<s.es.length then (proc s).bind (sO n) else some s
def oL (e:Ex) (L:Int):Dv:=⟨L,[aL e],[],0⟩
theorem TV {L:Int} (h:L≤6): ∀e:Ex,e.wf L=true→e.wf 6=true:=ind fun o l ks ih hw=>by
 obtain ⟨h1,U⟩:=gN hw
 refine uA ?_ fun k hk=>ih k hk (U k hk)
 unfold dy at h1⊢
 by_cases ho:o=3
 ·rw[aj ho] at h1⊢
  have:=my h1
  exact eT (by omega)
 ·rw[ai ho] at h1⊢;exact h1
theorem Lt {e:Ex} {L:Int} (h:e.val L=0):(1≤L∧L≤6)∧e.depth≤40∧e.size≤400∧e.wf L=true:=by
 unfold Ex.val at h
 repeat' split at h
 all_goals first|omega|skip
 next a b c=>exact ⟨a,b.1,b.2,c⟩
theorem val_mk {e:Ex} {L:Int} (h:(1≤L∧L≤6)∧e.depth≤40∧e.size≤400∧e.wf L=true):e.val L=0:=by
 unfold Ex.val
 rw[aj h.1,aj ⟨h.2.1,h.2.2.1⟩,aj h.2.2.2]
theorem xU {e:Ex} {L:Int} (h:e.val L=0):e.val 6=0:=by
 obtain ⟨h1,U,h3,h4⟩:=Lt h
 exact val_mk ⟨by omega,U,h3,TV h1.2 e h4⟩
theorem TW {e:Ex} {L:Int} (h:e.val L=0):(aL e).val L=0:=by
 obtain ⟨h1,U,h3,h4⟩:=Lt h
 have:=xk e h4
 have:=acG e h4
 exact val_mk ⟨h1,by omega,by omega,(ml e h4).2⟩
def Nv (e:Ex):Prop:=Gd 6 e∧e.val 6=0
theorem Nv.aL {e:Ex} (h:Nv e):aL e=e:=RB e h.1
theorem TY {e d:Ex} {c:Nat} (he:Nv e) (h:qX e c=some d):Nv d∧d=Go.AM.aL (cd c e):=by
 unfold qX at h
 split at h
 ·next hv=>
  cases h
  exact ⟨⟨ml _ (uY e he.1.2),hv⟩,rfl⟩
 ·cases h
structure Es (es:List Ex):Prop where
 le:es.length≤512
 nv: ∀e∈es,Nv e
 nd:es.Nodup
def pJ (e:Ex) (es:List Ex) (n:Nat) (row:List Int):Prop:=row.length=n∧∀x,x<n→∃j:Nat,row.getD x 0=j∧j<es.length∧qX e x=some (es.getD j aW)
theorem pJ.mono {e:Ex} {es t:List Ex} {n:Nat} {row:List Int} (h:pJ e es n row):pJ e (es++t) n row:=⟨h.1,fun x hx=>by
 obtain ⟨j,h1,U,h3⟩:=h.2 x hx
 refine ⟨j,h1,by rw[bR];omega,?_⟩
 rw[h3,gR,gR,ij U]⟩
theorem pJ.snoc {e:Ex} {es:List Ex} {n j:Nat} {row:List Int} (h:pJ e es n row) (h1:j<es.length) (U:qX e n=some (es.getD j aW)):pJ e es (n+1) (row++[(j:Int)]):=by
 refine ⟨by rw[bR,h.1];rfl,fun x hx=> ?_⟩
 rcases oN x n with c|c
 ·obtain ⟨i,i1,i2,i3⟩:=h.2 x c
  refine ⟨i,?_,i2,i3⟩
  rw[←i1,gR,gR,ij (by rw[h.1];exact c)]
 ·obtain rfl:x=n:=by omega
  refine ⟨j,?_,h1,U⟩
  rw[gR,ik (by rw[h.1];exact bW _),h.1]
  simp
theorem Es.snoc {es:List Ex} {d:Ex} (h:Es es) (hd:Nv d) (hn:d∉es) (hl:es.length≠512):Es (es++[d]):=by
 refine ⟨by have:=h.le;simp;omega,fun e he=> ?_,?_⟩
 ·rcases ej.1 he with he|he
  ·exact h.nv e he
  ·rw[eb.1 he];exact hd
 ·rw[B4]
  refine ⟨h.nd,by simp,fun a ha b hb=> ?_⟩
  rw[eb.1 hb]
  rintro rfl
  exact hn ha
theorem afO {es:List Ex} {d:Ex} (h:d∈es):es.getD (es.idxOf d) aW=d:=by
 have:=List.idxOf_lt_length_iff.2 h
 rw[gR,bB this,Option.getD_some,List.getElem_idxOf]
theorem Lu {e:Ex} (he:Nv e): ∀(n x:Nat) (es:List Ex) (row:List Int) (p:List Ex × List Int),Es es→pJ e es x row→nF e n x es row=some p→Es p.1∧pJ e p.1 (x+n) p.2∧∃t,p.1=es++t
 | 0,x,es,row,p,h1,U,h=>by
  cases h
  exact ⟨h1,U,[],by simp⟩
 | n+1,x,es,row,p,h1,U,h=>by
  rw[nF] at h
  cases hs:qX e x with
  | none=>rw[hs] at h;cases h
  | some d=>
   rw[hs] at h
   obtain ⟨hd,_⟩:=TY he hs
   simp only[Option.bind_some] at h
   by_cases hm:d∈es
   ·rw[aj hm] at h
    have:=Lu he n (x+1) es _ p h1 (U.snoc (List.idxOf_lt_length_iff.2 hm) (by rw[hs,afO hm])) h
    rw[show x+(n+1)=x+1+n by omega]
    exact this
   ·rw[ai hm] at h
    by_cases hl:es.length=512
    ·rw[aj hl] at h;cases h
    ·rw[ai hl] at h
     obtain ⟨a,b,t,c⟩:=Lu he n (x+1) (es++[d]) _ p (h1.snoc hd hm hl) (U.mono.snoc (by simp) (by rw[hs,gR];simp)) h
     rw[show x+(n+1)=x+1+n by omega]
     exact ⟨a,b,d::t,by rw[c,cj];rfl⟩
structure Gs (s:Dv):Prop where
 L:1≤s.L∧s.L≤6
 ne:s.es≠[]
 es:Es s.es
 dn:0≤s.dn∧s.dn≤s.es.length
 nl:s.nx.length=s.dn.toNat
 row: ∀q,q<s.dn.toNat→pJ (s.es.getD q aW) s.es s.L.toNat (s.nx.getD q [])
theorem FZ {α:Type} {a b:List α} {i:Nat} {z:α} (h:i<a.length):(a++b).getD i z=a.getD i z:=by
 rw[gR,gR,ij h]
theorem Bs {α:Type} {a:List α} {i:Nat} {z:α} (h:i<a.length):a.getD i z∈a:=by
 rw[gR,bB h];simp
theorem TZ {s t:Dv} (h:proc s=some t): ∃p,nF (s.es.getD s.dn.toNat aW) s.L.toNat 0 s.es []=some p∧t=⟨s.L,p.1,s.nx++[p.2],s.dn+1⟩:=by
 unfold proc at h
 cases hr:nF (s.es.getD s.dn.toNat aW) s.L.toNat 0 s.es [] with
 | none=>rw[hr] at h;cases h
 | some p=>rw[hr] at h;cases h;exact ⟨p,rfl,rfl⟩
theorem T2 {s t:Dv} (hs:Gs s) (hd:s.dn<s.es.length) (h:proc s=some t):Gs t∧t.L=s.L∧t.dn=s.dn+1∧∃r,t.es=s.es++r:=by
 obtain ⟨p,hp,rfl⟩:=TZ h
 have T4:=hs.dn
 have hq:s.dn.toNat<s.es.length:=by omega
 obtain ⟨a,b,r,c⟩:=Lu (hs.es.nv _ (Bs hq)) _ 0 _ _ p hs.es ⟨rfl,fun x hx=>by omega⟩ hp
 have hn:=hs.nl
 refine ⟨⟨hs.L,by rw[c];simp[hs.ne],a,⟨by show 0≤s.dn+1;omega,?_⟩,?_,fun q zi=> ?_⟩,rfl,rfl,r,c⟩
 ·show s.dn+1≤(p.1.length:Int)
  rw[c,bR];omega
 ·show (s.nx++[p.2]).length=(s.dn+1).toNat
  rw[bR,hn];simp;omega
 ·have hq3:q<(s.dn+1).toNat:=zi
  show pJ (p.1.getD q aW) p.1 s.L.toNat ((s.nx++[p.2]).getD q [])
  rcases oN q s.dn.toNat with e|e
  ·rw[FZ (by omega),c,FZ (by omega)]
   exact (hs.row q e).mono
  ·obtain rfl:q=s.dn.toNat:=by omega
   rw[gR (l:=s.nx++[p.2]),ik (by omega),hn,Nat.sub_self]
   simp only[List.getElem?_cons_zero,Option.getD_some]
   rw[gx] at b
   have e1:p.1.getD s.dn.toNat aW=s.es.getD s.dn.toNat aW:=by rw[c,FZ (by omega)]
   rw[e1]
   exact b
theorem T6: ∀(n:Nat) (s t:Dv),Gs s→sO n s=some t→Gs t∧t.L=s.L∧(∃r,t.es=s.es++r)∧(t.dn=t.es.length∨t.dn=s.dn+n)
 | 0,s,t,hs,h=>by cases h;exact ⟨hs,rfl,⟨[],by simp⟩,.inr (by simp)⟩
 | n+1,s,t,hs,h=>by
  rw[sO] at h
  by_cases hd:s.dn<s.es.length
  ·rw[aj hd] at h
   cases hp:proc s with
   | none=>rw[hp] at h;cases h
   | some u=>
    rw[hp] at h
    obtain ⟨a,b,c,r,d⟩:=T2 hs hd hp
    obtain ⟨e,f,⟨r2,g⟩,i⟩:=T6 n u t a h
    refine ⟨e,f.trans b,⟨r++r2,by rw[g,d,cj]⟩,?_⟩
    rcases i with i|i
    ·exact .inl i
    ·exact .inr (by rw[i,c];omega)
  ·rw[ai hd] at h
   cases h
   exact ⟨hs,rfl,⟨[],by simp⟩,.inl (by have:=hs.dn;omega)⟩
theorem Lv {e:Ex} {L:Int} (h:e.val L=0):Gs (oL e L):=by
 obtain ⟨h1,U,h3,h4⟩:=Lt h
 refine ⟨h1,by simp[oL],⟨by simp[oL],fun x hx=> ?_,by simp[oL]⟩,by simp[oL],rfl,fun q hq=>by simp[oL] at hq⟩
 rw[eb.1 hx]
 exact ⟨ml e (TV h1.2 e h4),xU (TW h)⟩
end Go.AM
set_option maxRecDepth 100000
namespace Go.AM
open Go.Proofs
noncomputable def T7 (C:ag) (dP dQ:Int) (Bt:List V) (Lw Lx:Int) (Ly:List V) (LA:Bool):Option (List V):=
 (C ua [.int .i64 dP,.int .i64 dQ,.list aa Bt,.int .i64 6]).bind fun r1=>
 bif (((V.nth r1 0).toInt):Int) != 0 then
  some [.int .i64 0,.int .i64 0,.list aa ([]:List V),.int .i64 3]
 else
  some [.int .i64 dP,.int .i64 dQ,.list aa Bt,.int .i64 0]
theorem afP {dP dQ:Int} {Bt:List V} {Lw Lx:Int} {Ly:List V} {LA:Bool} {r:Option (List V)} (h:T7 CC dP dQ Bt Lw Lx Ly LA=r):CC II [.int .i64 dP,.int .i64 dQ,.list aa Bt,.int .i64 Lw,.int .i64 Lx,.list aa Ly,.bool LA]=r:=
 bn (key:=149) (L:=cq) (bs:=[]) (by kernel_rfl) aw (bc (by kernel_rfl) h)
noncomputable def T8 (C:ag) (ah ar:Int) (ae:List V) (ch:Int):Option (List V):=
 (C ot [.int .i64 ch,.bool true,.int .i64 ah,.int .i64 ar,.list aa ae]).bind fun r1=>
 (C II [.int .i64 ((V.nth r1 0).toInt),.int .i64 ((V.nth (r1.drop 1) 0).toInt),.list aa ((V.nth ((r1.drop 1).drop 1) 0).toList),.int .i64 ((V.nth (((r1.drop 1).drop 1).drop 1) 0).toInt),.int .i64 ((V.nth ((((r1.drop 1).drop 1).drop 1).drop 1) 0).toInt),.list aa ((V.nth (((((r1.drop 1).drop 1).drop 1).drop 1).drop 1) 0).toList),.bool ((V.nth ((((((r1.drop 1).drop 1).drop 1).drop 1).drop 1).drop 1) 0).toBool)]).bind fun r2=>
 some [.int .i64 ((V.nth r2 0).toInt),.int .i64 ((V.nth (r2.drop 1) 0).toInt),.list aa ((V.nth ((r2.drop 1).drop 1) 0).toList),.int .i64 ((V.nth (r2.drop 3) 0).toInt)]
theorem afQ {ah ar:Int} {ae:List V} {ch:Int} {r:Option (List V)} (h:T8 CC ah ar ae ch=r):CC Eh [.int .i64 ah,.int .i64 ar,.list aa ae,.int .i64 ch]=r:=
 bn (key:=53) (L:=cq) (bs:=[]) (by kernel_rfl) aw (bc (by kernel_rfl) h)
end Go.AM
set_option maxRecDepth 100000
namespace Go.AM
open Go.Proofs Ex
abbrev T9 (p:Ex × Int):List V:=bN p.1 [.int .i64 p.2]
def xV (x:Ex):Ex × Int:=if x.val 6=0 then (x,0) else (aW,3)
theorem afR {x y:Ex} {b:Bool} (hx:x.Ok):CC II (bN x (bN y [.bool b]))=some (T9 (xV x)):=by
 refine afP ?_
 unfold T7 xV
 refine bs (EU x hx 6) ?_
 by_cases hv:x.val 6=0
 ·rw[aj hv]
  exact bF (by simp[hv]) rfl
 ·rw[ai hv]
  exact bT (by simp[hv]) rfl
theorem afS {c:Int} {e:Ex} (hv:e.val 6=0):Gd 6 (aL (cd c e))∧(aL (cd c e)).Ok∧(aL (cd c e)).size≤160000:=by
 obtain ⟨_,U,h3⟩:=pA hv
 have a:=ml _ (uY (c:=c) e h3)
 have b:=Lm (c:=c) h3
 have d:=FV U
 exact ⟨a,qL (by omega) _ a.2 (by omega),by omega⟩
theorem afT {e:Ex} (he:Nv e) (c:Int):CC Eh (bN e [.int .i64 c])=some (T9 (xV (aL (cd c e)))):=by
 obtain ⟨_,U,h3⟩:=pA he.2
 refine afQ ?_
 unfold T8
 refine bs (afM (c:=c) (nm:=true) e h3 U fun _=>he.1) ?_
 refine bs (afR (y:=aL e) (b:=e.da) (afS (c:=c) he.2).2.1) ?_
 unfold xV
 split<;>rfl
section
variable {c:Int} {ks:List Ex} (hn:ks.length≤1000) (ih: ∀k∈ks,CC PE (bN k [.int .i64 c])=some (eO (cd c k)))
include hn ih
end
def fL (op:Int):Int:=if op=4 then 1 else if op=6 then 2 else if op=5 then 3 else if op=8 then 4 else if op=7 then 5 else 6
def ei (op least:Int) (t:List UInt8):List UInt8:=if fL op<least then 40::(t++[41]) else t
mutual
def Ex.text:Ex→List UInt8
 | .node o l ks=>
  if o=1 then [48] else if o=2 then [49] else if o=3 then [UInt8.ofNat (97+l).toNat]
  else if o=8 then 33::texts [] 4 true ks else if o=7 then texts [] 5 true ks++[42]
  else if o=4 then texts [124] 2 true ks else if o=6 then texts [38] 3 true ks else texts [] 4 true ks
def Ex.texts (sep:List UInt8) (least:Int) (first:Bool):List Ex→List UInt8
 | []=>[]
 | k::ks=>(if first then [] else sep)++(ei k.op least (text k)++texts sep least false ks)
end
theorem afU (op least:Int) (t:List UInt8):(ei op least t).length≤t.length+2:=by
 unfold ei;split<;>simp
theorem Ua (sep:List UInt8) (hs:sep.length≤1) (least:Int): ∀(ks:List Ex) (f:Bool),(∀k∈ks,k.text.length+3≤4*k.size)→(texts sep least f ks).length≤4*aJ ks
 | [],f,_=>by simp[texts]
 | k::ks,f,h=>by
  have h1:=h k (by simp)
  have U:=Ua sep hs least ks false fun k hk=>h k (by simp[hk])
  have h3:=afU k.op least k.text
  simp only[texts,bR,aJ]
  cases f<;>simp<;>omega
theorem Ub: ∀e:Ex,e.text.length+3≤4*e.size:=ind fun o l ks ih=>by
 have h:=fun sep hs least=>Ua sep hs least ks true ih
 have h1:=h [] (by simp) 4
 have U:=h [] (by simp) 5
 have h3:=h [124] (by simp) 2
 have h4:=h [38] (by simp) 3
 simp only[text,size]
 repeat' split
 all_goals simp
 all_goals omega
def TX (m:Int) (k:Ex):List UInt8:=ei k.op m k.text
def mb (o:Int) (e:Ex):List Ex:=if e.op=o then e.kids else [e]
theorem Bu (sep:List UInt8) (m:Int) (k:Ex) (ks:List Ex):texts sep m false (k::ks)=sep++(TX m k++texts sep m false ks):=by simp[texts,TX]
theorem Bv (sep:List UInt8) (m:Int) (k:Ex) (ks:List Ex):texts sep m true (k::ks)=TX m k++texts sep m false ks:=by simp[texts,TX]
theorem Uc (e:Ex):TX 1 e=texts [124] 2 true (mb 4 e):=by
 obtain ⟨o,l,ks⟩:=e
 unfold mb TX
 by_cases h:o=4
 ·subst h;simp[Ex.op,Ex.kids,fL,text,ei]
 ·have hl:2≤fL o:=by
   unfold fL
   repeat' split
   all_goals omega
  rw[ai (show¬(Ex.node o l ks).op=4 from h),Bv]
  show ei o 1 _=ei o 2 _++[]
  rw[c6]
  unfold ei
  by_cases U:fL o<1
  ·rw[aj U,aj (by omega)]
  ·rw[ai U,ai (by omega)]
theorem Ud (e:Ex):TX 2 e=texts [38] 3 true (mb 6 e):=by
 obtain ⟨o,l,ks⟩:=e
 unfold mb TX
 by_cases h:o=6
 ·subst h;simp[Ex.op,Ex.kids,fL,text,ei]
 ·have hl:fL o≠2:=by
   unfold fL
   repeat' split
   all_goals omega
  rw[ai (show¬(Ex.node o l ks).op=6 from h),Bv]
  show ei o 2 _=ei o 3 _++[]
  rw[c6]
  unfold ei
  by_cases U:fL o<2
  ·rw[aj U,aj (by omega)]
  ·rw[ai U,ai (by omega)]
theorem Ue (e:Ex):TX 3 e=texts [] 4 true (mb 5 e):=by
 obtain ⟨o,l,ks⟩:=e
 unfold mb TX
 by_cases h:o=5
 ·subst h;simp[Ex.op,Ex.kids,fL,text,ei]
 ·have hl:fL o≠3:=by
   unfold fL
   repeat' split
   all_goals omega
  rw[ai (show¬(Ex.node o l ks).op=5 from h),Bv]
  show ei o 3 _=ei o 4 _++[]
  rw[c6]
  unfold ei
  by_cases U:fL o<3
  ·rw[aj U,aj (by omega)]
  ·rw[ai U,ai (by omega)]
theorem Bw (l:Int) (k:Ex):TX 4 (.node 8 l [k])=33::TX 4 k:=by
 simp[TX,ei,Ex.op,fL,text,texts]
theorem Bx {e:Ex} (h:e.op≠8):TX 4 e=TX 5 e:=by
 unfold TX ei fL
 repeat' split
 all_goals first|rfl|omega
theorem afV (l:Int) (k:Ex):TX 5 (.node 7 l [k])=TX 5 k++[42]:=by
 simp[TX,ei,Ex.op,fL,text,texts]
theorem afW {e:Ex} (h:e.op≠7):TX 5 e=TX 6 e:=by
 unfold TX ei fL
 repeat' split
 all_goals first|rfl|omega
theorem pK {e:Ex} (h:4≤e.op∧e.op≤8):TX 6 e=40::(TX 1 e++[41]):=by
 unfold TX ei fL
 repeat' split
 all_goals first|rfl|omega
theorem LB {e:Ex} (h:e.wf 6=true):(e= .node 1 0 []∨e= .node 2 0 []∨(∃l:Int,0≤l∧l<6∧e= .node 3 l []))∨(4≤e.op∧e.op≤8):=by
 obtain ⟨o,l,ks⟩:=e
 obtain ⟨h1,U⟩:=gN h
 simp only[Ex.op]
 rcases ew h1 with ⟨rfl,h,h3,h4⟩|⟨rfl,⟨rfl,h⟩|⟨rfl,h⟩|⟨rfl,h⟩|⟨rfl,h⟩|⟨rfl,h⟩|⟨rfl,h⟩|⟨rfl,h⟩⟩
 ·obtain rfl:=mE.1 (show ks.length=0 by omega)
  exact .inl (.inr (.inr ⟨l,h3,h4,rfl⟩))
 ·obtain rfl:=mE.1 (show ks.length=0 by omega)
  exact .inl (.inl rfl)
 ·obtain rfl:=mE.1 (show ks.length=0 by omega)
  exact .inl (.inr (.inl rfl))
 all_goals exact .inr (by omega)
def By (c:UInt8):Prop:=c=48∨c=49∨c=40∨c=97∨c=98∨c=99∨c=100∨c=101∨c=102
theorem qY {l:Int} (h0:0≤l) (h1:l<6):UInt8.ofNat (97+l).toNat=97∧l=0∨UInt8.ofNat (97+l).toNat=98∧l=1∨UInt8.ofNat (97+l).toNat=99∧l=2∨UInt8.ofNat (97+l).toNat=100∧l=3∨UInt8.ofNat (97+l).toNat=101∧l=4∨UInt8.ofNat (97+l).toNat=102∧l=5:=by
 rcases (show l=0∨l=1∨l=2∨l=3∨l=4∨l=5 by omega) with rfl|rfl|rfl|rfl|rfl|rfl<;>decide
theorem afX {e:Ex} (h:e.wf 6=true): ∃c t,TX 6 e=c::t∧By c:=by
 rcases LB h with (rfl|rfl|⟨l,h0,h1,rfl⟩)|h
 ·exact ⟨48,[],rfl,.inl rfl⟩
 ·exact ⟨49,[],rfl,.inr (.inl rfl)⟩
 ·refine ⟨UInt8.ofNat (97+l).toNat,[],by simp[TX,ei,fL,Ex.op,text],?_⟩
  unfold By
  rcases qY h0 h1 with h|h|h|h|h|h<;>simp[h.1]
 ·exact ⟨40,_,pK h,.inr (.inr (.inl rfl))⟩
theorem Bz {o l:Int} {ks:List Ex} (h:(Ex.node o l ks).wf 6=true) (ho:o=7∨o=8): ∃k,ks=[k]∧k.wf 6=true∧l=0:=by
 obtain ⟨h1,U⟩:=gN h
 rcases ew h1 with h|⟨h0,h⟩
 ·omega
 ·obtain ⟨k,rfl⟩:=yv.1 (show ks.length=1 by omega)
  exact ⟨k,rfl,U k (by simp),h0⟩
def LC (e:Ex):Nat→Ex
 | 0=>e
 | n+1=> .node 7 0 [LC e n]
theorem LD: ∀e:Ex,e.wf 6=true→∃(b:Ex) (n:Nat),e=LC b n∧b.op≠7∧b.wf 6=true∧TX 5 e=TX 6 b++List.replicate n 42:=ind fun o l ks ih h=>by
 by_cases ho:o=7
 ·subst ho
  obtain ⟨k,rfl,hk,rfl⟩:=Bz h (.inl rfl)
  obtain ⟨b,n,h1,U,h3,h4⟩:=ih k (by simp) hk
  exact ⟨b,n+1,by rw[h1];rfl,U,h3,by rw[afV,h4,List.replicate_succ',cj]⟩
 ·exact ⟨.node o l ks,0,rfl,ho,h,by rw[afW (show (Ex.node o l ks).op≠7 from ho)];simp⟩
theorem LF {e:Ex} (h:e.wf 6=true): ∃c t,TX 5 e=c::t∧By c:=by
 obtain ⟨b,n,_,_,h3,h4⟩:=LD e h
 obtain ⟨c,t,h5,h6⟩:=afX h3
 exact ⟨c,t++List.replicate n 42,by rw[h4,h5];rfl,h6⟩
theorem afY {e:Ex} (h:e.wf 6=true): ∃c t,TX 4 e=c::t∧(c=33∨By c):=by
 by_cases ho:e.op=8
 ·obtain ⟨o,l,ks⟩:=e
  obtain rfl:o=8:=ho
  obtain ⟨k,rfl,_⟩:=Bz h (.inr rfl)
  exact ⟨33,TX 4 k,Bw _ _,.inl rfl⟩
 ·obtain ⟨c,t,h1,U⟩:=LF h
  exact ⟨c,t,by rw[Bx ho,h1],.inr U⟩
def gu (m:Int) (c:UInt8):Prop:=if m=1 then c=41 else if m=2 then c=41∨c=124 else if m=3 then c=41∨c=124∨c=38 else if m=6 then True else c≠42
def fo (m:Int) (r:List UInt8):Prop:= ∀c t,r=c::t→gu m c
theorem Uf {m:Int}:fo m []:=fun c t h=>by cases h
theorem LG {m:Int} {c:UInt8} {t:List UInt8} (h:gu m c):fo m (c::t):=fun c' t' e=>by cases e;exact h
def jH (m:Int) (e:Ex):Prop:= ∀(e':Ex) (r r':List UInt8),e'.wf 6=true→fo m r→fo m r'→TX m e++r=TX m e'++r'→e=e'∧r=r'
theorem BA {o:Int} {e:Ex} (h:e.wf 6=true): ∀x∈mb o e,x.wf 6=true:=fun x hx=>by
 unfold mb at hx
 split at hx
 ·obtain ⟨o,l,ks⟩:=e
  exact (gN h).2 x hx
 ·rw[eb.1 hx];exact h
theorem Ug {o:Int} {e:Ex} (ho:4≤o∧o≤6) (h:e.wf 6=true): ∃x xs,mb o e=x::xs:=by
 unfold mb
 split
 ·next lb=>
  obtain ⟨o,l,ks⟩:=e
  obtain ⟨h1,U⟩:=gN h
  simp only[Ex.op] at lb
  match ks,h1 with
  | [],h1=>rcases ew h1 with h|⟨_,h⟩<;>simp at h<;>omega
  | x::xs,_=>exact ⟨x,xs,rfl⟩
 ·exact ⟨e,[],rfl⟩
theorem afZ {o:Int} {e e':Ex} (ho:4≤o∧o≤6) (h:e.wf 6=true) (h':e'.wf 6=true) (he:mb o e=mb o e'):e=e':=by
 have hl: ∀{x:Ex},x.wf 6=true→x.op=o→x.ch=0∧2≤x.kids.length:=fun {x} hx H7=>by
  obtain ⟨o,l,ks⟩:=x
  obtain ⟨h1,U⟩:=gN hx
  simp only[Ex.op,Ex.ch,Ex.kids] at*
  rcases ew h1 with h|⟨_,h⟩<;>omega
 unfold mb at he
 by_cases h1:e.op=o
 ·obtain ⟨a1,a2⟩:=hl h h1
  rw[aj h1] at he
  by_cases U:e'.op=o
  ·obtain ⟨b1,b2⟩:=hl h' U
   rw[aj U] at he
   obtain ⟨o1,l1,k1⟩:=e
   obtain ⟨o2,l2,k2⟩:=e'
   simp only[Ex.op,Ex.ch,Ex.kids] at*
   subst he h1 U a1 b1
   rfl
  ·rw[ai U] at he
   rw[he] at a2
   simp at a2
 ·rw[ai h1] at he
  by_cases U:e'.op=o
  ·obtain ⟨b1,b2⟩:=hl h' U
   rw[aj U] at he
   rw[←he] at b2
   simp at b2
  ·rw[ai U] at he
   exact (gb he).1
section
variable {sep:List UInt8} {m:Int} (hh: ∀y:Ex,y.wf 6=true→∃c t,sep++TX m y=c::t∧gu m c∧¬gu (m-1) c) (hf: ∀c,gu (m-1) c→gu m c)
include hh hf
theorem F0 {ys:List Ex} {r:List UInt8} (hy: ∀y∈ys,y.wf 6=true) (hr:fo (m-1) r):fo m (texts sep m false ys++r):=by
 cases ys with
 | nil=>exact fun c t e=>hf c (hr c t e)
 | cons y ys=>
  obtain ⟨c,t,h1,U,h3⟩:=hh y (hy y (by simp))
  rw[Bu,←cj sep,h1]
  exact LG U
theorem Uh: ∀(xs ys:List Ex) (r r':List UInt8),(∀x∈xs,x.wf 6=true∧jH m x)→(∀y∈ys,y.wf 6=true)→fo (m-1) r→fo (m-1) r'→texts sep m false xs++r=texts sep m false ys++r'→xs=ys∧r=r'
 | [],[],r,r',_,_,_,_,h=>⟨rfl,h⟩
 | [],y::ys,r,r',_,hy,hr,_,h=>by
  obtain ⟨c,t,h1,U,h3⟩:=hh y (hy y (by simp))
  rw[Bu,←cj sep,h1] at h
  exact absurd (hr c _ (by simpa[texts] using h)) h3
 | x::xs,[],r,r',hx,_,_,hr,h=>by
  obtain ⟨c,t,h1,U,h3⟩:=hh x (hx x (by simp)).1
  rw[Bu,←cj sep,h1] at h
  exact absurd (hr c _ (by simpa[texts] using h.symm)) h3
 | x::xs,y::ys,r,r',hx,hy,hr,g9,h=>by
  rw[Bu,Bu,cj,cj,cj,cj] at h
  obtain ⟨rfl,U⟩:=(hx x (by simp)).2 y _ _ (hy y (by simp)) (F0 hh hf (fun z hz=>(hx z (by simp[hz])).1) hr) (F0 hh hf (fun z hz=>hy z (by simp[hz])) g9) (List.append_cancel_left h)
  obtain ⟨rfl,h3⟩:=Uh xs ys r r' (fun z hz=>hx z (by simp[hz])) (fun z hz=>hy z (by simp[hz])) hr g9 U
  exact ⟨rfl,h3⟩
theorem LH {o:Int} (ho:4≤o∧o≤6) (ht: ∀e:Ex,TX (m-1) e=texts sep m true (mb o e)) {e:Ex} (he:e.wf 6=true) (ih: ∀x∈mb o e,jH m x):jH (m-1) e:=by
 intro e' r r' gE hr g9 h
 rw[ht,ht] at h
 obtain ⟨x,xs,hx⟩:=Ug ho he
 obtain ⟨y,ys,hy⟩:=Ug ho gE
 have wx:=BA (o:=o) he
 have wy:=BA (o:=o) gE
 rw[hx] at wx ih
 rw[hy] at wy
 rw[hx,hy,Bv,Bv,cj,cj] at h
 obtain ⟨rfl,U⟩:=ih x (by simp) y _ _ (wy y (by simp)) (F0 hh hf (fun z hz=>wx z (by simp[hz])) hr) (F0 hh hf (fun z hz=>wy z (by simp[hz])) g9) h
 obtain ⟨rfl,h3⟩:=Uh hh hf xs ys r r' (fun z hz=>⟨wx z (by simp[hz]),ih z (by simp[hz])⟩) (fun z hz=>wy z (by simp[hz])) hr g9 U
 exact ⟨afZ ho he gE (by rw[hx,hy]),h3⟩
end
theorem LI {c:UInt8} (h:By c):c≠33∧c≠41∧c≠42∧c≠124∧c≠38:=by
 rcases h with rfl|rfl|rfl|rfl|rfl|rfl|rfl|rfl|rfl<;>decide
theorem af0 {e:Ex} (he:e.wf 6=true) (ih: ∀x∈mb 4 e,jH 2 x):jH 1 e:=
 LH (sep:=[124]) (m:=2) (fun y _=>⟨124,_,rfl,by simp[gu],by simp[gu]⟩) (fun c h=>by simp[gu] at h⊢;exact .inl h) (o:=4) (by omega) Uc he ih
theorem sX {e:Ex} (he:e.wf 6=true) (ih: ∀x∈mb 6 e,jH 3 x):jH 2 e:=
 LH (sep:=[38]) (m:=3) (fun y _=>⟨38,_,rfl,by simp[gu],by simp[gu]⟩) (fun c h=>by simp[gu] at h⊢;rcases h with h|h<;>simp[h]) (o:=6) (by omega) Ud he ih
theorem af1 {e:Ex} (he:e.wf 6=true) (ih: ∀x∈mb 5 e,jH 4 x):jH 3 e:=
 LH (sep:=[]) (m:=4) (fun y hy=>by
  obtain ⟨c,t,h1,U⟩:=afY hy
  refine ⟨c,t,h1,?_⟩
  rcases U with rfl|U
  ·simp[gu]
  ·have:=LI U
   simp[gu,this]) (fun c h=>by simp[gu] at h⊢;rcases h with rfl|rfl|rfl<;>decide) (o:=5) (by omega) Ue he ih
theorem af2 {e:Ex} (he:e.wf 6=true) (ih8: ∀k,e= .node 8 0 [k]→jH 4 k) (ih:e.op≠8→jH 5 e):jH 4 e:=by
 intro e' r r' gE hr g9 h
 by_cases h1:e.op=8
 ·obtain ⟨o,l,ks⟩:=e
  obtain rfl:o=8:=h1
  obtain ⟨k,rfl,hk,rfl⟩:=Bz he (.inr rfl)
  rw[Bw] at h
  by_cases U:e'.op=8
  ·obtain ⟨o',l',bI⟩:=e'
   obtain rfl:o'=8:=U
   obtain ⟨k',rfl,cW,rfl⟩:=Bz gE (.inr rfl)
   rw[Bw] at h
   obtain ⟨rfl,h3⟩:=ih8 k rfl k' r r' cW hr g9 (gb h).2
   exact ⟨rfl,h3⟩
  ·rw[Bx U] at h
   obtain ⟨c,t,h3,h4⟩:=LF gE
   rw[h3] at h
   exact absurd (gb h).1.symm (LI h4).1
 ·rw[Bx h1] at h
  by_cases U:e'.op=8
  ·obtain ⟨o',l',bI⟩:=e'
   obtain rfl:o'=8:=U
   obtain ⟨k',rfl,cW,rfl⟩:=Bz gE (.inr rfl)
   rw[Bw] at h
   obtain ⟨c,t,h3,h4⟩:=LF he
   rw[h3] at h
   exact absurd (gb h).1 (LI h4).1
  ·rw[Bx U] at h
   exact ih h1 e' r r' gE (by simpa[fo,gu] using hr) (by simpa[fo,gu] using g9) h
theorem Ui {r r':List UInt8} (hr:fo 5 r) (g9:fo 5 r'): ∀{n n':Nat},List.replicate n 42++r=List.replicate n' 42++r'→n=n'∧r=r'
 | 0,0,h=>⟨rfl,h⟩
 | 0,n+1,h=>by
  have:=hr 42 (List.replicate n 42++r') (by simpa[List.replicate_succ] using h)
  simp[gu] at this
 | n+1,0,h=>by
  have:=g9 42 (List.replicate n 42++r) (by simpa[List.replicate_succ] using h.symm)
  simp[gu] at this
 | n+1,n'+1,h=>by
  rw[List.replicate_succ,List.replicate_succ] at h
  obtain ⟨rfl,U⟩:=Ui hr g9 (gb h).2
  exact ⟨rfl,U⟩
theorem Uj (r:List UInt8):fo 6 r:=fun c t _=>by simp[gu]
theorem af3 {b:Ex} {n:Nat} {e:Ex} (h1:e=LC b n) (U:TX 5 e=TX 6 b++List.replicate n 42) (ih:jH 6 b):jH 5 e:=by
 intro e' r r' gE hr g9 h
 obtain ⟨b',n',e1,e2,e3,e4⟩:=LD e' gE
 rw[U,e4,cj,cj] at h
 obtain ⟨rfl,h3⟩:=ih b' _ _ e3 (Uj _) (Uj _) h
 obtain ⟨rfl,h4⟩:=Ui hr g9 h3
 exact ⟨by rw[h1,e1],h4⟩
theorem af4 {e:Ex} (he:e.wf 6=true) (ih:4≤e.op∧e.op≤8→jH 1 e):jH 6 e:=by
 intro e' r r' gE hr g9 h
 have hl: ∀l:Int,TX 6 (.node 3 l [])=[UInt8.ofNat (97+l).toNat]:=fun l=>by simp[TX,ei,fL,Ex.op,text]
 have t1:TX 6 (.node 1 0 [])=[48]:=rfl
 have t2:TX 6 (.node 2 0 [])=[49]:=rfl
 rcases LB he with (rfl|rfl|⟨l,h0,h1,rfl⟩)|ho<;>rcases LB gE with (rfl|rfl|⟨l',vQ,jq,rfl⟩)|iX
 ·exact ⟨rfl,List.append_cancel_left h⟩
 ·rw[t1,t2] at h;cases (gb h).1
 ·rw[t1,hl] at h
  have:=(gb h).1
  rcases qY vQ jq with h|h|h|h|h|h<;>(rw[h.1] at this;cases this)
 ·rw[t1,pK iX] at h;cases (gb h).1
 ·rw[t1,t2] at h;cases (gb h).1
 ·exact ⟨rfl,List.append_cancel_left h⟩
 ·rw[t2,hl] at h
  have:=(gb h).1
  rcases qY vQ jq with h|h|h|h|h|h<;>(rw[h.1] at this;cases this)
 ·rw[t2,pK iX] at h;cases (gb h).1
 ·rw[t1,hl] at h
  have:=(gb h).1
  rcases qY h0 h1 with h|h|h|h|h|h<;>(rw[h.1] at this;cases this)
 ·rw[t2,hl] at h
  have:=(gb h).1
  rcases qY h0 h1 with h|h|h|h|h|h<;>(rw[h.1] at this;cases this)
 ·rw[hl,hl] at h
  obtain ⟨U,h3⟩:=gb h
  refine ⟨?_,h3⟩
  have:l=l':=by
   rcases qY h0 h1 with ⟨a,rfl⟩|⟨a,rfl⟩|⟨a,rfl⟩|⟨a,rfl⟩|⟨a,rfl⟩|⟨a,rfl⟩<;>rcases qY vQ jq with ⟨b,rfl⟩|⟨b,rfl⟩|⟨b,rfl⟩|⟨b,rfl⟩|⟨b,rfl⟩|⟨b,rfl⟩<;>first|rfl|(rw[a,b] at U;cases U)
  rw[this]
 ·rw[hl,pK iX] at h
  have:=(gb h).1
  rcases qY h0 h1 with h|h|h|h|h|h<;>(rw[h.1] at this;cases this)
 ·rw[t1,pK ho] at h;cases (gb h).1
 ·rw[t2,pK ho] at h;cases (gb h).1
 ·rw[hl,pK ho] at h
  have:=(gb h).1
  rcases qY vQ jq with h|h|h|h|h|h<;>(rw[h.1] at this;cases this)
 ·rw[pK ho,pK iX] at h
  have U:(TX 1 e++[41])++r=(TX 1 e'++[41])++r':=(gb h).2
  rw[cj,cj] at U
  obtain ⟨h3,h4⟩:=ih ho e' _ _ gE (LG (by simp[gu])) (LG (by simp[gu])) U
  exact ⟨h3,(gb h4).2⟩
theorem F1 {sep:List UInt8} {m:Int}: ∀{xs:List Ex} {f:Bool} {x:Ex},x∈xs→(TX m x).length≤(texts sep m f xs).length
 | y::ys,f,x,h=>by
  simp only[texts,bR]
  rcases dc.1 h with rfl|h
  ·show (ei x.op m x.text).length≤_;omega
  ·have:=F1 (sep:=sep) (m:=m) (f:=false) h
   omega
theorem Uk: ∀(n:Nat) (m:Int) (e:Ex),1≤m→m≤6→e.wf 6=true→8*(TX m e).length+(7-m).toNat<n→jH m e
 | 0,m,e,_,_,_,h=>by omega
 | n+1,m,e,h1,h6,he,h=>by
  have ih:=Uk n
  rcases (show m=1∨m=2∨m=3∨m=4∨m=5∨m=6 by omega) with rfl|rfl|rfl|rfl|rfl|rfl
  ·refine af0 he fun x hx=>ih 2 x (by omega) (by omega) (BA he x hx) ?_
   have:=F1 (sep:=[124]) (m:=2) (f:=true) hx
   rw[Uc] at h
   omega
  ·refine sX he fun x hx=>ih 3 x (by omega) (by omega) (BA he x hx) ?_
   have:=F1 (sep:=[38]) (m:=3) (f:=true) hx
   rw[Ud] at h
   omega
  ·refine af1 he fun x hx=>ih 4 x (by omega) (by omega) (BA he x hx) ?_
   have:=F1 (sep:=[]) (m:=4) (f:=true) hx
   rw[Ue] at h
   omega
  ·refine af2 he (fun k hk=> ?_) fun ho=> ?_
   ·subst hk
    rw[Bw,List.length_cons] at h
    exact ih 4 k (by omega) (by omega) ((gN he).2 k (by simp)) (by omega)
   ·rw[Bx ho] at h
    exact ih 5 e (by omega) (by omega) he (by omega)
  ·obtain ⟨b,k,e1,e2,e3,e4⟩:=LD e he
   refine af3 e1 e4 (ih 6 b (by omega) (by omega) e3 ?_)
   rw[e4,bR] at h
   omega
  ·refine af4 he fun ho=>ih 1 e (by omega) (by omega) he ?_
   rw[pK ho,List.length_cons,bR] at h
   simp only[List.length_cons,List.length_nil] at h
   omega
theorem Ul (e:Ex):TX 1 e=e.text:=by
 unfold TX ei
 rw[ai]
 unfold fL
 repeat' split
 all_goals omega
theorem Um {a b:Ex} (ha:a.wf 6=true) (hb:b.wf 6=true) (h:a.text=b.text):a=b:=
 (Uk _ 1 a (by omega) (by omega) ha (yg _) b [] [] hb Uf Uf (by rw[Ul,Ul,h])).1
end Go.AM
set_option maxRecDepth 100000
namespace Go.AM
open Go.Proofs
noncomputable def Un (C:ag) (ah ar:Int) (ae:List V):Option (List V):=
 (C zY [.int .i64 ah,.int .i64 ar,.list aa ae]).bind fun r1=>
 bif !((V.nth r1 0).toBool) then
  some [.str []]
 else
  (C rY [.int .i64 ah,.int .i64 ar,.list aa ae,.list cS ([]:List V)]).bind fun r2=>
  (C Ej [.list cS ((V.nth r2 0).toList)]).bind fun r3=>
  some [.str ((V.nth r3 0).toStr)]
theorem af5 {ah ar:Int} {ae:List V} {r:Option (List V)} (h:Un CC ah ar ae=r):CC wB [.int .i64 ah,.int .i64 ar,.list aa ae]=r:=
 bn (key:=60) (L:=cq) (bs:=[]) (by kernel_rfl) aw (bc (by kernel_rfl) h)
noncomputable abbrev ig:Code:=cL Try.prog (ax.aZ 75)
noncomputable def F2 (C:ag) (t5:Int) (t28:Bool) (fl et:Int) (dN bM:List V) {β:Type} (kr:(List V)→Option β):Option β:=
 bif t28 then
  (C r0 [.list aa dN,.str [38],.int .i64 3,.list cS bM]).bind fun r5=>
  kr ((V.nth r5 0).toList)
 else
  bif (t5:Int)==5 then
  (C r0 [.list aa dN,.str [],.int .i64 4,.list cS bM]).bind fun r6=>
  kr ((V.nth r6 0).toList)
  else
  bif (t5:Int)==8 then
   (C pn [.int .u8 33,.list cS bM]).bind fun r7=>
   (C r0 [.list aa dN,.str [],.int .i64 4,.list cS ((V.nth r7 0).toList)]).bind fun r8=>
   kr ((V.nth r8 0).toList)
  else
   bif (t5:Int)==7 then
   (C r0 [.list aa dN,.str [],.int .i64 5,.list cS bM]).bind fun r9=>
   (C pn [.int .u8 42,.list cS ((V.nth r9 0).toList)]).bind fun dZ=>
   kr ((V.nth dZ 0).toList)
   else
   kr bM
noncomputable def F3 (C:ag) (t5:Int) (t22:Bool) (fl et:Int) (dN bM:List V) {β:Type} (kr:(List V)→Option β):Option β:=
 bif t22 then
  (C r0 [.list aa dN,.str [124],.int .i64 2,.list cS bM]).bind fun r4=>
  kr ((V.nth r4 0).toList)
 else
  F2 C t5 ((t5:Int)==6) fl et dN bM (fun (u0:List V)=>
   kr u0)
noncomputable def F4 (C:ag) (t5:Int) (t14:Bool) (fl et:Int) (dN bM:List V) {β:Type} (kr:(List V)→Option β):Option β:=
 bif t14 then
  (C pn [.int .u8 (IntKind.wrap .u8 (97+(IntKind.wrap .u8 et))),.list cS bM]).bind fun r3=>
  kr ((V.nth r3 0).toList)
 else
  F3 C t5 ((t5:Int)==4) fl et dN bM (fun (BB:List V)=>
   kr BB)
noncomputable def F5 (C:ag) (t5:Int) (t10:Bool) (fl et:Int) (dN bM:List V) {β:Type} (kr:(List V)→Option β):Option β:=
 bif t10 then
  (C pn [.int .u8 49,.list cS bM]).bind fun r2=>
  kr ((V.nth r2 0).toList)
 else
  F4 C t5 ((t5:Int)==3) fl et dN bM (fun (af6:List V)=>
   kr af6)
noncomputable def F6 (C:ag) (t5:Int) (t6:Bool) (fl et:Int) (dN bM:List V) {β:Type} (kr:(List V)→Option β):Option β:=
 bif t6 then
  (C pn [.int .u8 48,.list cS bM]).bind fun r1=>
  kr ((V.nth r1 0).toList)
 else
  F5 C t5 ((t5:Int)==2) fl et dN bM (fun (LJ:List V)=>
   kr LJ)
noncomputable def Uo (C:ag):cD:=fun β n ds k=>
 bif Nat.beq n 463 then iJ Ji [[0]] (@F2 C) ds k else
 bif Nat.beq n 367 then iJ Jj [[0]] (@F3 C) ds k else
 bif Nat.beq n 239 then iJ Jk [[0]] (@F4 C) ds k else
 bif Nat.beq n 175 then iJ Jl [[0]] (@F5 C) ds k else
 bif Nat.beq n 111 then iJ Jm [[0]] (@F6 C) ds k else
 none
abbrev BC (C:ag) (b:cA):Prop:=cB Try.prog ax C (Uo C) 75 (cQ Try.prog (ax.aZ 75)) (ax.sin 75).ba.length b
theorem af7 (C:ag):BC C (.cond 28 (av [1,1,0,1,1,1,1,1,1,1,1,1,0] ig) (av [1,1,0,1,1,1,1,1,1,1,1,1,1] ig)):=
 jb Ji [[0]] (@F2 C) (by kernel_rfl) (bm (bs:=[]) (by kernel_rfl) aw) (bm (bs:=[]) (by kernel_rfl) aw) (fun ds=>by kernel_rfl) (fun i β k=>by kernel_rfl) (fun β ds k=>by kernel_rfl)
theorem af8 (C:ag):BC C (.cond 22 (av [1,1,0,1,1,1,1,1,1,1,0] ig) (av [1,1,0,1,1,1,1,1,1,1,1] ig)):=
 jb Jj [[0]] (@F3 C) (by kernel_rfl) (bm (bs:=[]) (by kernel_rfl) aw) (bm (bs:=[.cond 28 (av [1,1,0,1,1,1,1,1,1,1,1,1,0] ig) (av [1,1,0,1,1,1,1,1,1,1,1,1,1] ig)]) (by kernel_rfl) (bD (af7 C) aw)) (fun ds=>by kernel_rfl) (fun i β k=>by kernel_rfl) (fun β ds k=>by kernel_rfl)
theorem af9 (C:ag):BC C (.cond 14 (av [1,1,0,1,1,1,1,1,0] ig) (av [1,1,0,1,1,1,1,1,1] ig)):=
 jb Jk [[0]] (@F4 C) (by kernel_rfl) (bm (bs:=[]) (by kernel_rfl) aw) (bm (bs:=[.cond 22 (av [1,1,0,1,1,1,1,1,1,1,0] ig) (av [1,1,0,1,1,1,1,1,1,1,1] ig)]) (by kernel_rfl) (bD (af8 C) aw)) (fun ds=>by kernel_rfl) (fun i β k=>by kernel_rfl) (fun β ds k=>by kernel_rfl)
theorem aga (C:ag):BC C (.cond 10 (av [1,1,0,1,1,1,0] ig) (av [1,1,0,1,1,1,1] ig)):=
 jb Jl [[0]] (@F5 C) (by kernel_rfl) (bm (bs:=[]) (by kernel_rfl) aw) (bm (bs:=[.cond 14 (av [1,1,0,1,1,1,1,1,0] ig) (av [1,1,0,1,1,1,1,1,1] ig)]) (by kernel_rfl) (bD (af9 C) aw)) (fun ds=>by kernel_rfl) (fun i β k=>by kernel_rfl) (fun β ds k=>by kernel_rfl)
theorem agb (C:ag):BC C (.cond 6 (av [1,1,0,1,0] ig) (av [1,1,0,1,1] ig)):=
 jb Jm [[0]] (@F6 C) (by kernel_rfl) (bm (bs:=[]) (by kernel_rfl) aw) (bm (bs:=[.cond 10 (av [1,1,0,1,1,1,0] ig) (av [1,1,0,1,1,1,1] ig)]) (by kernel_rfl) (bD (aga C) aw)) (fun ds=>by kernel_rfl) (fun i β k=>by kernel_rfl) (fun β ds k=>by kernel_rfl)
noncomputable def Up (C:ag) (ah ar:Int) (ae bK:List V):Option (List V):=
 F6 C ah ((ah:Int)==1) ah ar ae bK (fun (sw:List V)=>
  some [.list cS sw])
theorem agc {ah ar:Int} {ae bK:List V} {r:Option (List V)} (h:Up CC ah ar ae bK=r):CC rY [.int .i64 ah,.int .i64 ar,.list aa ae,.list cS bK]=r:=
 bn (key:=75) (L:=Uo CC) (bs:=[.cond 6 (av [1,1,0,1,0] ig) (av [1,1,0,1,1] ig)]) (by kernel_rfl) (bD (agb CC) aw) (bc (by kernel_rfl) h)
noncomputable abbrev xW:Code:=cL Try.prog (ax.aZ 91)
noncomputable def BD (C:ag) (separator:List UInt8) (least:Int) (t10:List V) (t11 t12:Int) (t18:Bool) (aiR aiS:Int) (aiT bM:List V) {β:Type} (kr:(List V)→Option β):Option β:=
 bif t18 then
  (C Eo [.str separator,.list cS bM]).bind fun r2=>
  kr ((V.nth (r2.drop 1) 0).toList)
 else
  kr bM
noncomputable def BE (C:ag) (separator:List UInt8) (least:Int) (t10:List V) (t11 t12:Int) (eI:List V) {β:Type} (kn:(Int × (List V))→Option β) (kr:(Int × Bool × (List V))→Option β):Option β:=
 bif decide ((t12:Int)<t11) then
  (idx t10 t12).bind fun x1=>
  BD C separator least t10 t11 t12 (decide ((t12:Int)>0)) ((x1.cell 0).toInt) ((x1.cell 1).toInt) ((x1.cell 2).toList) eI (fun (FU:List V)=>
   (C Ep [.int .i64 ((x1.cell 0).toInt)]).bind fun r4=>
   bif decide ((((V.nth r4 0).toInt):Int)≥least) then
   (C rY [.int .i64 ((x1.cell 0).toInt),.int .i64 ((x1.cell 1).toInt),.list aa ((x1.cell 2).toList),.list cS FU]).bind fun r5=>
   kn (IntKind.wrap .i64 (t12+1),(V.nth r5 0).toList)
   else
   (C pn [.int .u8 40,.list cS FU]).bind fun r6=>
   (C rY [.int .i64 ((x1.cell 0).toInt),.int .i64 ((x1.cell 1).toInt),.list aa ((x1.cell 2).toList),.list cS ((V.nth r6 0).toList)]).bind fun r7=>
   (C pn [.int .u8 41,.list cS ((V.nth r7 0).toList)]).bind fun r8=>
   kn (IntKind.wrap .i64 (t12+1),(V.nth r8 0).toList))
 else
  kr (t12,decide ((t12:Int)<t11),eI)
noncomputable def BF (C:ag) (separator:List UInt8) (least:Int) (t10:List V) (t11:Int):(Int × (List V))→Option ((Int × (List V)) ⊕ (Int × Bool × (List V))):=un fun t12 eI=>BE C separator least t10 t11 t12 eI (fun y=>some (.inl y)) (fun r=>some (.inr r))
noncomputable def Uq (C:ag):cD:=fun β n ds k=>
 bif Nat.beq n 303 then iJ Jo [[1,2,3,4,5,7,8,9,0]] (@BD C) ds k else
 bif Nat.beq n 17 then ca Jp [false,false,false,false,true,true] [[1,2,3,4,0,0,0]] (@BE C) ds k else
 none
abbrev Ur (C:ag) (b:cA):Prop:=cB Try.prog ax C (Uq C) 91 (cQ Try.prog (ax.aZ 91)) (ax.sin 91).ba.length b
theorem agd (C:ag):Ur C (.cond 18 (av [1,0,0,1,1,0,0,1,0,1,0] xW) (av [1,0,0,1,1,0,0,1,0,1,1] xW)):=
 jb Jo [[1,2,3,4,5,7,8,9,0]] (@BD C) (by kernel_rfl) (bm (bs:=[]) (by kernel_rfl) aw) (bm (bs:=[]) (by kernel_rfl) aw) (fun ds=>by kernel_rfl) (fun i β k=>by kernel_rfl) (fun β ds k=>by kernel_rfl)
theorem age (C:ag):Ur C (.loop (av [1,0,0] xW)):=
 cg Jp [false,false,false,false,true,true] [[1,2,3,4,0,0,0]] (@BE C) (by kernel_rfl) (bm (bs:=[.cond 18 (av [1,0,0,1,1,0,0,1,0,1,0] xW) (av [1,0,0,1,1,0,0,1,0,1,1] xW)]) (by kernel_rfl) (bD (agd C) aw)) (fun ds=>by kernel_rfl) (fun i x=>by kernel_rfl) (fun i x β k=>by kernel_rfl) (fun β ds k=>by kernel_rfl)
noncomputable def Us (C:ag) (kids:List V) (separator:List UInt8) (least:Int) (bK:List V):Option (List V):=
 (Loop (BF C separator least kids (kids.length:Int)) (0,bK)).bind (un fun (se:Int)=>un fun (J6:Bool) (u0:List V)=>
  some [.list cS u0])
theorem agf {kids:List V} {separator:List UInt8} {least:Int} {bK:List V} {r:Option (List V)} (h:Us CC kids separator least bK=r):CC r0 [.list aa kids,.str separator,.int .i64 least,.list cS bK]=r:=
 bn (key:=91) (L:=Uq CC) (bs:=[.loop (av [1,0,0] xW)]) (by kernel_rfl) (bD (age CC) aw) (bc (by kernel_rfl) h)
noncomputable def Ut (C:ag) (op:Int):Option (List V):=
 bif (op:Int)==4 then
  some [.int .i64 1]
 else
  bif (op:Int)==6 then
  some [.int .i64 2]
  else
  bif (op:Int)==5 then
   some [.int .i64 3]
  else
   bif (op:Int)==8 then
   some [.int .i64 4]
   else
   bif (op:Int)==7 then
    some [.int .i64 5]
   else
    some [.int .i64 6]
theorem agh {op:Int} {r:Option (List V)} (h:Ut CC op=r):CC Ep [.int .i64 op]=r:=
 bn (key:=104) (L:=cq) (bs:=[]) (by kernel_rfl) aw (bc (by kernel_rfl) h)
noncomputable def Uu (C:ag) (c:Int) (bK:List V):Option (List V):=
 bif Nat.ble ((bK.length+([.int .u8 c]:List V).length)*1) bS then
  some [.list cS (bK++([.int .u8 c]:List V))]
 else none
theorem agi {c:Int} {bK:List V} {r:Option (List V)} (h:Uu CC c bK=r):CC pn [.int .u8 c,.list cS bK]=r:=
 bn (key:=90) (L:=cq) (bs:=[]) (by kernel_rfl) aw (bc (by kernel_rfl) h)
noncomputable def Uv (C:ag) (s:List UInt8) (bK:List V):Option (List V):=
 bif Nat.ble ((bK.length+(s.map dk).length)*1) bS then
  some [.int .i64 (s.length:Int),.list cS (bK++(s.map dk))]
 else none
theorem agj {s:List UInt8} {bK:List V} {r:Option (List V)} (h:Uv CC s bK=r):CC Eo [.str s,.list cS bK]=r:=
 bn (key:=103) (L:=cq) (bs:=[]) (by kernel_rfl) aw (bc (by kernel_rfl) h)
noncomputable def Uw (C:ag) (bK:List V):Option (List V):=
 bif Nat.blt 0 bK.length then
  bif decide (0<(bK.length:Int))&&(decide ((bK.length:Int)≤(bK.length:Int))&&(Nat.ble (((bK.length:Int):Int).toNat) rv&&(bK.take (((bK.length:Int):Int).toNat)).all vl)) then
  some [.str (ko (bK.take (((bK.length:Int):Int).toNat)))]
  else none
 else none
theorem agk {bK:List V} {r:Option (List V)} (h:Uw CC bK=r):CC Ej [.list cS bK]=r:=
 bn (key:=76) (L:=cq) (bs:=[]) (by kernel_rfl) aw (bc (by kernel_rfl) h)
end Go.AM
set_option maxRecDepth 100000
namespace Go.AM
open Go.Proofs Ex
theorem u3 (c:UInt8) (b:List UInt8) (h:b.length<2^40):CC pn [.int .u8 c.toNat,.list cS (b.map dk)]=some [.list cS ((b++[c]).map dk)]:=by
 refine agi ?_
 unfold Uu
 simp only[zR]
 rw[aj (by simp[bS];omega)]
 simp[dk]
theorem agl (s b:List UInt8) (h:b.length+s.length<2^40):CC Eo [.str s,.list cS (b.map dk)]=some [.int .i64 s.length,.list cS ((b++s).map dk)]:=by
 refine agj ?_
 unfold Uv
 simp only[zR]
 rw[aj (by simp[bS];omega)]
 simp
theorem agm (b:List UInt8):ko (b.map dk)=b:=by
 unfold ko
 rw[List.map_map]
 have:((fun x:V=>UInt8.ofNat x.toInt.toNat) ∘ dk)=id:=by
  funext c
  simp[dk]
 rw[this,List.map_id]
theorem agn (b:List UInt8) (h0:b≠[]) (h:b.length<2^40):CC Ej [.list cS (b.map dk)]=some [.str b]:=by
 refine agk ?_
 unfold Uw
 have hp:0<b.length:=by cases b<;>simp at h0⊢
 have h1:Nat.blt 0 (b.map dk).length=true:=by rw[jJ];simpa using hp
 have U:(((b.map dk).length:Int)).toNat=(b.map dk).length:=by simp
 have h3:Nat.ble (b.map dk).length rv=true:=Nat.ble_eq_true_of_le (by simp[rv];omega)
 have h4:(b.map dk).all vl=true:=by
  rw[fb]
  intro x hx
  obtain ⟨c,_,rfl⟩:=gd.1 hx
  have:=c.toNat_lt
  simp[vl,dk]
  omega
 rw[h1,U,pN,h3,h4,agm]
 simp[hp]
theorem ago (op:Int):CC Ep [.int .i64 op]=some [.int .i64 (fL op)]:=by
 refine agh ?_
 unfold Ut fL
 simp only[c9]
 repeat' split
 all_goals rfl
theorem agp {ks:List Ex} (hlen:ks.length≤maxLen) (ih: ∀k∈ks,∀b:List UInt8,b.length+k.text.length<2^40→CC rY (bN k [.list cS (b.map dk)])=some [.list cS ((b++k.text).map dk)]) (sep:List UInt8) (least:Int):
  ∀(aB pre:List Ex) (b:List UInt8),ks=pre++aB→b.length+(texts sep least pre.isEmpty aB).length<2^40→
  ∃i t,Loop (BF CC sep least (ks.map enc) ((ks.map enc).length:Int)) (((pre.length:Nat):Int),b.map dk)=some (i,t,(b++texts sep least pre.isEmpty aB).map dk):=by
 intro aB
 induction aB with
 | nil=>
  intro pre b aY hb
  subst aY
  refine ⟨((pre.length:Nat):Int),false,aX ?_⟩
  simp only[BF,BE,un,c6,aQ,ay,texts]
  rw[ai (by omega)]
  simp
 | cons k aB eZ=>
  intro pre b aY hb
  have bZ:pre.length<ks.length:=by rw[aY];simp
  have hm:k∈ks:=by rw[aY];simp
  have:=nf
  have bP:idx (ks.map enc) (pre.length:Int)=some k.enc:=by rw[aY];exact hY _ _ _
  generalize gG:(if pre.isEmpty then [] else sep)=sp
  have ht:texts sep least pre.isEmpty (k::aB)=sp++(ei k.op least k.text++texts sep least false aB):=by simp only[texts,gG]
  rw[ht] at hb⊢
  simp only[bR] at hb
  have eh:BF CC sep least (ks.map enc) ((ks.map enc).length:Int) (((pre.length:Nat):Int),b.map dk)=some (.inl ((((pre++[k]).length:Nat):Int),(b++sp++ei k.op least k.text).map dk)):=by
   have h1: ∀{β:Type} (kr:List V→Option β) (o l:Int) (es:List V),BD CC sep least (ks.map enc) ((ks.length:Nat):Int) ((pre.length:Nat):Int) (decide (((pre.length:Nat):Int)>0)) o l es (b.map dk) kr=kr ((b++sp).map dk):=by
    intro β kr o l es
    unfold BD
    cases pre with
    | nil=>
     simp at gG
     subst gG
     simp
    | cons a pre=>
     simp at gG
     subst gG
     rw[agl _ _ (by omega)]
     have:(0:Int)<((a::pre).length:Int):=by simp only[List.length_cons];omega
     simp[this]
   simp only[BF,BE,un,aQ,ay]
   rw[aj (by omega),bP]
   simp only[Option.bind_some,a9,bp,bh]
   rw[h1,ago]
   simp only[Option.bind_some,V.aT,V.toInt_int,ay]
   unfold ei at hb⊢
   by_cases hl:fL k.op<least
   ·rw[ai (by omega),aj hl]
    rw[aj hl] at hb
    simp only[List.length_cons,bR,List.length_nil] at hb
    rw[show (V.int .u8 40)= .int .u8 (((40:UInt8).toNat:Nat):Int) by rfl,show (V.int .u8 41)= .int .u8 (((41:UInt8).toNat:Nat):Int) by rfl]
    rw[u3 _ _ (by simp;omega)]
    simp only[Option.bind_some,V.aT,V.j4]
    rw[ih k hm _ (by simp;omega)]
    simp only[Option.bind_some,V.aT,V.j4]
    rw[u3 _ _ (by simp;omega),wrap64 (by omega) (by omega)]
    simp
   ·rw[aj (by omega),ai hl]
    rw[ai hl] at hb
    rw[ih k hm _ (by simp;omega)]
    simp only[Option.bind_some,V.aT,V.j4]
    rw[wrap64 (by omega) (by omega)]
    simp
  rw[bO eh]
  have hE:(pre++[k]).isEmpty=false:=by cases pre<;>rfl
  have h3:=eZ (pre++[k]) (b++sp++ei k.op least k.text) (by rw[aY];simp)
  rw[hE] at h3
  obtain ⟨i,t,U⟩:=h3 (by simp only[bR];omega)
  refine ⟨i,t,U.trans ?_⟩
  simp
theorem agq {ks:List Ex} (hlen:ks.length≤maxLen) (ih: ∀k∈ks,∀b:List UInt8,b.length+k.text.length<2^40→CC rY (bN k [.list cS (b.map dk)])=some [.list cS ((b++k.text).map dk)]) (sep:List UInt8) (least:Int) (b:List UInt8)
  (hb:b.length+(texts sep least true ks).length<2^40):CC r0 [.list aa (ks.map enc),.str sep,.int .i64 least,.list cS (b.map dk)]=some [.list cS ((b++texts sep least true ks).map dk)]:=by
 refine agf ?_
 unfold Us
 obtain ⟨i,t,h⟩:=agp hlen ih sep least ks [] b rfl hb
 simp only[List.length_nil,Int.ofNat_zero,Int.natCast_zero,List.isEmpty_nil] at h
 erw [h]
 rfl
theorem agr {l n:Int} (h:dy 3 l n 6=true):0≤l∧l<6:=by
 simp[dy] at h;omega
theorem Ux {o l n letters:Int} (ho:o<1∨8<o):dy o l n letters=false:=by
 have n1:o≠1:=by omega
 have n2:o≠2:=by omega
 have n3:o≠3:=by omega
 have n7:o≠7:=by omega
 have n8:o≠8:=by omega
 have n9: ¬(4≤o∧o≤6∧2≤n):=by omega
 simp[dy,n1,n2,n3,n7,n8,n9]
theorem ags: ∀e:Ex,e.Ok→e.wf 6=true→∀b:List UInt8,b.length+e.text.length<2^40→CC rY (bN e [.list cS (b.map dk)])=some [.list cS ((b++e.text).map dk)]:=
 ind fun o l ks ih au zQ b hb=>by
  obtain ⟨w1,w2⟩:=gN zQ
  have hw:=fun sep least b=>agq au.len (fun k hk=>ih k hk (au.mf k hk) (w2 k hk)) sep least b
  refine agc ?_
  unfold Up F6 F5 F4 F3 F2
  simp only[Ex.op,Ex.ch,Ex.kids]
  rcases Ao o with rfl|rfl|rfl|rfl|rfl|rfl|rfl|rfl|ho
  case inr.inr.inr.inr.inr.inr.inr.inr=>rw[Ux ho] at w1;cases w1
  ·simp[text] at hb⊢
   rw[show (V.int .u8 48)= .int .u8 (((48:UInt8).toNat:Nat):Int) by rfl,u3 _ _ (by omega)]
   simp
  ·simp[text] at hb⊢
   rw[show (V.int .u8 49)= .int .u8 (((49:UInt8).toNat:Nat):Int) by rfl,u3 _ _ (by omega)]
   simp
  ·have hl:=agr w1
   simp[text] at hb⊢
   rw[D1 (x:=l) (by omega) (by omega),D1 (by omega) (by omega)]
   have:(V.int .u8 (97+l))= .int .u8 (((UInt8.ofNat (97+l).toNat).toNat:Nat):Int):=by
    have:(97+l).toNat<256:=by omega
    simp only[UInt8.toNat_ofNat']
    congr 1
    omega
   rw[this,u3 _ _ (by omega)]
   simp
  ·simp[text] at hb⊢
   rw[hw _ _ _ (by omega)]
   simp
  ·simp[text] at hb⊢
   rw[hw _ _ _ (by omega)]
   simp
  ·simp[text] at hb⊢
   rw[hw _ _ _ (by omega)]
   simp
  ·simp[text] at hb⊢
   rw[hw _ _ _ (by omega)]
   simp only[Option.bind_some,V.aT,V.j4]
   rw[show (V.int .u8 42)= .int .u8 (((42:UInt8).toNat:Nat):Int) by rfl,u3 _ _ (by simp;omega)]
   simp
  ·simp[text] at hb⊢
   rw[show (V.int .u8 33)= .int .u8 (((33:UInt8).toNat:Nat):Int) by rfl,u3 _ _ (by omega)]
   simp only[Option.bind_some,V.aT,V.j4]
   rw[hw _ _ _ (by simp;omega)]
   simp
theorem agt: ∀e:Ex,e.wf 6=true→e.text≠[]:=ind fun o l ks ih h=>by
 obtain ⟨w1,w2⟩:=gN h
 rcases Ao o with rfl|rfl|rfl|rfl|rfl|rfl|rfl|rfl|ho
 case inr.inr.inr.inr.inr.inr.inr.inr=>rw[Ux ho] at w1;cases w1
 case inr.inr.inr.inl=>
  intro hh
  match ks,w1,hh with
  | [],w1,_=>simp[dy] at w1
  | [a],w1,_=>simp[dy] at w1
  | a::b::l,_,hh=>simp[text,texts] at hh
 case inr.inr.inr.inr.inr.inl=>
  intro hh
  match ks,w1,hh with
  | [],w1,_=>simp[dy] at w1
  | [a],w1,_=>simp[dy] at w1
  | a::b::l,_,hh=>simp[text,texts] at hh
 case inr.inr.inr.inr.inl=>
  intro hh
  match ks,w1,w2,hh,ih with
  | [],w1,_,_,_=>simp[dy] at w1
  | a::ks,_,w2,hh,ih=>
   have:=ih a (by simp) (w2 a (by simp))
   simp[text,texts,ei] at hh
   split at hh
   ·simp at hh
   ·exact this hh.1
 all_goals simp[text]
theorem agu (e:Ex) (h:e.Ok):CC wB (bN e [])=some [.str (if e.val 6=0 then e.text else [])]:=by
 refine af5 ?_
 unfold Un
 rw[Rv e h]
 by_cases hv:e.val 6=0
 ·obtain ⟨_,U,h3⟩:=pA hv
  have hl:=Ub e
  have hw:=ags e h h3 [] (by simp;omega)
  simp only[fM,List.nil_append] at hw
  simp only[Option.bind_some,V.aT,V.er,hv,rf,pP,cond_false,cE]
  rw[hw]
  simp only[Option.bind_some,V.aT,V.j4]
  rw[agn _ (agt e h3) (by omega)]
  simp
 ·simp[hv]
end Go.AM
set_option maxRecDepth 100000
namespace Go.AM
structure Da where
 L:Nat
 st:Nat
 F:List Bool
 N:List (List Nat)
deriving DecidableEq
namespace Da
def n (d:Da):Nat:=d.F.length
def nx (d:Da) (q x:Nat):Nat:=(d.N.getD q []).getD x 0
def fin (d:Da) (q:Nat):Bool:=d.F.getD q false
def run (d:Da) (q:Nat) (w:List Nat):Nat:=w.foldl d.nx q
def acc (d:Da) (q:Nat) (w:List Nat):Bool:=d.fin (d.run q w)
structure Ok (d:Da):Prop where
 l1:1≤d.L
 l6:d.L≤6
 nN:d.N.length=d.n
 row: ∀r∈d.N,r.length=d.L∧∀q∈r,q<d.n
 s:d.st<d.n
 cU:d.n≤512
end Da
def WL (L:Nat) (w:List Nat):Prop:= ∀x∈w,x<L
theorem WL.nil {L:Nat}:WL L []:=fun _ h=>by cases h
theorem WL.cons {L x:Nat} {w:List Nat} (h:x<L) (hw:WL L w):WL L (x::w):=fun y hy=>by
 rcases dc.1 hy with rfl|hy
 ·exact h
 ·exact hw y hy
theorem WL.tail {L x:Nat} {w:List Nat} (h:WL L (x::w)):WL L w:=fun y hy=>h y (by simp[hy])
theorem WL.app {L:Nat} {v w:List Nat}:WL L (v++w)↔WL L v∧WL L w:=by
 unfold WL
 simp only[ej]
 exact ⟨fun h=>⟨fun x hx=>h x (.inl hx),fun x hx=>h x (.inr hx)⟩,fun h x hx=>hx.elim (h.1 x) (h.2 x)⟩
namespace Da
def F7 (d:Da) (q:Nat) (d':Da) (q':Nat):Prop:= ∀w,WL d.L w→d.acc q w=d'.acc q' w
theorem F7.nx {d d':Da} {q q' x:Nat} (h:d.F7 q d' q') (hx:x<d.L):d.F7 (d.nx q x) d' (d'.nx q' x):=fun w hw=>h (x::w) (hw.cons hx)
def pos (d:Da) (t:Nat):Nat:=d.nx (t/d.L) (t %d.L)
def mt (d:Da):Nat→Nat
 | 0=>1
 | t+1=>if d.pos t=d.mt t then d.mt t+1 else d.mt t
structure Num (d:Da):Prop where
 le: ∀t,t<d.n*d.L→d.pos t≤d.mt t
 row: ∀q,q<d.n→q<d.mt (q*d.L)
 all:d.mt (d.n*d.L)=d.n
structure Canon (d:Da) (L:Nat) (K:List Nat→Bool):Prop where
 ok:d.Ok
 hL:d.L=L
 st:d.st=0
 num:d.Num
 red: ∀p q,p<d.n→q<d.n→d.F7 p d q→p=q
 aiU: ∀w,WL L w→d.acc 0 w=K w
end Da
section
variable {α:Type} [DecidableEq α]
def agv (S:List α) (a:α):List α:=if a∈S then S else S++[a]
def Uy (next:α→Nat→α) (S:List α) (a:α):Nat→List α
 | 0=>S
 | x+1=>agv (Uy next S a x) (next a x)
def BG (L:Nat) (next:α→Nat→α) (a0:α):Nat→List α
 | 0=>[a0]
 | i+1=>match (BG L next a0 i)[i]? with
  | some a=>Uy next (BG L next a0 i) a L
  | none=>BG L next a0 i
variable {L:Nat} {next:α→Nat→α} {a0:α}
section
variable {k:Nat} (hd:(BG L next a0 k).length≤k)
include hd
end
section
variable {k:Nat} (hd:(BG L next a0 k).length≤k) {fin:α→Bool}
include hd
end
end
namespace Da
end Da
end Go.AM
set_option maxRecDepth 100000
namespace Go.AM
open Go.Proofs
section
variable {α:Type} (ke:α→V)
def lG (i:Nat):List α→List V
 | []=>[]
 | a::S=> .bd [ke a,iV (i:Int)]::lG (i+1) S
where iV (n:Int):V:= .int .i64 n
end
section
variable {α:Type} [DecidableEq α] {ke:α→V}
variable (hk: ∀a b,lK (ke a) (ke b)=decide (a=b))
include hk
theorem Uz (x:α): ∀(S:List α) (i:Nat),kX (ke x) (lG ke i S)=decide (x∈S)
 | [],_=>by simp[lG,kX]
 | a::S,i=>by
  have c: ∀(p q:V),(V.bd [p,q]).comp 0=p:=fun p q=>rfl
  rw[lG,kX,c,hk,Uz x S (i+1)]
  rw[oQ]
  simp
theorem UA (x:α) (z:V): ∀(S:List α) (i:Nat),x∈S→lL (ke x) (lG ke i S) z= .int .i64 ((i+S.idxOf x:Nat):Int)
 | [],_,h=>by cases h
 | a::S,i,h=>by
  have c: ∀(p q:V),(V.bd [p,q]).comp 0=p:=fun p q=>rfl
  have c1: ∀(p q:V),(V.bd [p,q]).comp 1=q:=fun p q=>rfl
  rw[lG,lL,c,c1,hk]
  by_cases e:x=a
  ·subst e
   rw[eT rfl]
   simp[lG.iV]
  ·rw[cK e,cond_false,UA x z S (i+1) ((dc.1 h).resolve_left e),show (a::S).idxOf x=S.idxOf x+1 from by rw[List.idxOf_cons,show (a==x)=false from BW.2 fun h=>e h.symm];rfl]
   congr 2
   omega
theorem UB (x:α): ∀(S:List α) (i:Nat),x∉S→il (ke x) (.int .i64 ((i+S.length:Nat):Int)) (lG ke i S)=lG ke i (S++[x])
 | [],i,_=>by simp[lG,il,lG.iV]
 | a::S,i,h=>by
  have c: ∀(p q:V),(V.bd [p,q]).comp 0=p:=fun p q=>rfl
  have e:x≠a:=fun e=>h (by simp[e])
  rw[lG,il,c,hk,cK e,cond_false,List.cons_append,lG]
  congr 1
  have:=UB x S (i+1) fun hx=>h (by simp[hx])
  rw[←this]
  simp only[List.length_cons]
  congr 3
  omega
end
noncomputable def UC (C:ag) (ah ar:Int) (ae:List V) (cZ dm:Int) (bK eI bM:List V):Option (List V):=
 (C wB [.int .i64 ah,.int .i64 ar,.list aa ae]).bind fun r1=>
 bif Nat.ble (((V.nth r1 0).toStr).length) maxLen&&true then
  bif Nat.ble ((bK.length+([.agg [.int .i64 0,.int .i64 0,.list aa ([]:List V)]]:List V).length)*40) bS then
  bif (decide (0≤(bK.length:Int)))&&(decide ((bK.length:Int)<((bK++([.agg [.int .i64 0,.int .i64 0,.list aa ([]:List V)]]:List V)).length:Int))) then
   ((bK++([.agg [.int .i64 0,.int .i64 0,.list aa ([]:List V)]]:List V))[((bK.length:Int):Int).toNat]?).bind fun x2=>
   some [.int .i64 (bK.length:Int),.int .i64 cZ,.int .i64 dm,.list dM (il (.str ((V.nth r1 0).toStr)) (.int .i64 (bK.length:Int)) bM),.list aa ((bK++([.agg [.int .i64 0,.int .i64 0,.list aa ([]:List V)]]:List V)).set (((bK.length:Int):Int).toNat) (.agg [.int .i64 ah,.int .i64 ar,.list aa ae])),.list cr eI]
  else none
  else none
 else none
theorem agw {ah ar:Int} {ae:List V} {cZ dm:Int} {bK eI bM:List V} {r:Option (List V)} (h:UC CC ah ar ae cZ dm bK eI bM=r):CC zX [.int .i64 ah,.int .i64 ar,.list aa ae,.int .i64 cZ,.int .i64 dm,.list aa bK,.list cr eI,.list dM bM]=r:=
 bn (key:=57) (L:=cq) (bs:=[]) (by kernel_rfl) aw (bc (by kernel_rfl) h)
noncomputable def UD (C:ag) (ah ar:Int) (ae:List V) (letters:Int):Option (List V):=
 (C zX [.int .i64 ah,.int .i64 ar,.list aa ae,.int .i64 letters,.int .i64 0,.list aa ([]:List V),.list cr ([]:List V),.list dM ([]:List V)]).bind fun r1=>
 some [.int .i64 ((V.nth (r1.drop 1) 0).toInt),.int .i64 ((V.nth ((r1.drop 1).drop 1) 0).toInt),.list aa ((V.nth (((r1.drop 1).drop 2).drop 1) 0).toList),.list cr ((V.nth ((((r1.drop 1).drop 2).drop 1).drop 1) 0).toList),.list dM ((V.nth ((r1.drop 1).drop 2) 0).toList)]
theorem agx {ah ar:Int} {ae:List V} {letters:Int} {r:Option (List V)} (h:UD CC ah ar ae letters=r):CC zV [.int .i64 ah,.int .i64 ar,.list aa ae,.int .i64 letters]=r:=
 bn (key:=40) (L:=cq) (bs:=[]) (by kernel_rfl) aw (bc (by kernel_rfl) h)
noncomputable def UE (C:ag) (cZ dm:Int) (bK eI bM:List V):Option (List V):=
 some [.bool ((dm:Int)==(bK.length:Int)),.int .i64 cZ,.int .i64 dm,.list dM bM,.list aa bK,.list cr eI]
theorem agy {cZ dm:Int} {bK eI bM:List V} {r:Option (List V)} (h:UE CC cZ dm bK eI bM=r):CC Ef [.int .i64 cZ,.int .i64 dm,.list aa bK,.list cr eI,.list dM bM]=r:=
 bn (key:=42) (L:=cq) (bs:=[]) (by kernel_rfl) aw (bc (by kernel_rfl) h)
noncomputable abbrev UF:Code:=cL Try.prog (ax.aZ 43)
noncomputable def sP (C:ag) (t16 t17 cZ dm:Int) (bM rows dO eu:List V) {β:Type} (kn:(Int × Int × Int × (List V) × (List V) × (List V) × (List V))→Option β) (kr:((Int × Int × Int × (List V) × (List V) × (List V)) ⊕ (Int × Bool × Int × Int × (List V) × (List V) × (List V) × (List V)))→Option β):Option β:=
 bif decide ((t17:Int)<t16) then
  bif (decide (0≤dm))&&(decide (dm<(dO.length:Int))) then
  (dO[(dm:Int).toNat]?).bind fun x1=>
  (C Eh [.int .i64 ((x1.cell 0).toInt),.int .i64 ((x1.cell 1).toInt),.list aa ((x1.cell 2).toList),.int .i64 t17]).bind fun r2=>
  bif (((V.nth (r2.drop 3) 0).toInt):Int) != 0 then
   kr (.inl ((V.nth (r2.drop 3) 0).toInt,cZ,dm,bM,dO,eu))
  else
   (C wB [.int .i64 ((V.nth r2 0).toInt),.int .i64 ((V.nth (r2.drop 1) 0).toInt),.list aa ((V.nth ((r2.drop 1).drop 1) 0).toList)]).bind fun r3=>
   bif Nat.ble (((V.nth r3 0).toStr).length) maxLen&&true then
   bif !(kX (.str ((V.nth r3 0).toStr)) bM) then
    bif ((dO.length:Int):Int)==512 then
    kr (.inl (3,cZ,dm,bM,dO,eu))
    else
    (C zX [.int .i64 ((V.nth r2 0).toInt),.int .i64 ((V.nth (r2.drop 1) 0).toInt),.list aa ((V.nth ((r2.drop 1).drop 1) 0).toList),.int .i64 cZ,.int .i64 dm,.list aa dO,.list cr eu,.list dM bM]).bind fun r4=>
    bif (decide (0≤t17))&&(decide (t17<(rows.length:Int))) then
     (rows[(t17:Int).toNat]?).bind fun x5=>
     kn (IntKind.wrap .i64 (t17+1),(V.nth (r4.drop 1) 0).toInt,(V.nth ((r4.drop 1).drop 1) 0).toInt,(V.nth ((r4.drop 1).drop 2) 0).toList,rows.set ((t17:Int).toNat) (.int .i64 ((V.nth r4 0).toInt)),(V.nth (((r4.drop 1).drop 2).drop 1) 0).toList,(V.nth ((((r4.drop 1).drop 2).drop 1).drop 1) 0).toList)
    else none
   else
    bif (decide (0≤t17))&&(decide (t17<(rows.length:Int))) then
    (rows[(t17:Int).toNat]?).bind fun x6=>
    kn (IntKind.wrap .i64 (t17+1),cZ,dm,bM,rows.set ((t17:Int).toNat) (.int .i64 ((lL (.str ((V.nth r3 0).toStr)) bM (.int .i64 0)).toInt)),dO,eu)
    else none
   else none
  else none
 else
  kr (.inr (t17,decide ((t17:Int)<t16),cZ,dm,bM,rows,dO,eu))
noncomputable def oM (C:ag) (t16:Int):(Int × Int × Int × (List V) × (List V) × (List V) × (List V))→Option ((Int × Int × Int × (List V) × (List V) × (List V) × (List V)) ⊕ ((Int × Int × Int × (List V) × (List V) × (List V)) ⊕ (Int × Bool × Int × Int × (List V) × (List V) × (List V) × (List V)))):=un fun t17=>un fun cZ=>un fun dm=>un fun bM=>un fun rows=>un fun dO eu=>sP C t16 t17 cZ dm bM rows dO eu (fun y=>some (.inl y)) (fun r=>some (.inr r))
noncomputable def UG (C:ag):cD:=fun β n ds k=>
 bif Nat.beq n 49 then ca IZ [false,true,true,true,true,true,true,true] [[0,0,0,0,0,0],[1,0,0,0,0,0,0,0,0]] (@sP C) ds k else
 none
abbrev agz (C:ag) (b:cA):Prop:=cB Try.prog ax C (UG C) 43 (cQ Try.prog (ax.aZ 43)) (ax.sin 43).ba.length b
theorem agA (C:ag):agz C (.loop (av [1,1,0,1,0,0] UF)):=
 cg IZ [false,true,true,true,true,true,true,true] [[0,0,0,0,0,0],[1,0,0,0,0,0,0,0,0]] (@sP C) (by kernel_rfl) (bm (bs:=[]) (by kernel_rfl) aw) (fun ds=>by kernel_rfl) (fun i x=>by kernel_rfl) (fun i x β k=>by kernel_rfl) (fun β ds k=>by kernel_rfl)
noncomputable def UH (C:ag) (cZ dm:Int) (bK eI bM:List V):Option (List V):=
 bif (decide (0≤cZ))&&((decide (cZ≤cZ))&&(Nat.ble (((cZ:Int).toNat)*8) bS)) then
  (Loop (oM C ((List.replicate ((cZ:Int).toNat) (V.int .i64 0)).length:Int)) (0,cZ,dm,bM,List.replicate ((cZ:Int).toNat) (V.int .i64 0),bK,eI)).bind (b9 (un fun (py:Int)=>un fun (LL:Int)=>un fun (BH:Int)=>un fun (BI:List V)=>un fun (u0:List V) (BB:List V)=>
   some [.int .i64 py,.int .i64 LL,.int .i64 BH,.list dM BI,.list aa u0,.list cr BB]) (un fun (J8:Int)=>un fun (sf:Bool)=>un fun (LM:Int)=>un fun (LN:Int)=>un fun (LO:List V)=>un fun (BJ:List V)=>un fun (LP:List V) (BK:List V)=>
   bif Nat.ble ((BK.length+([.list na BJ]:List V).length)*24) bS then
   some [.int .i64 0,.int .i64 LM,.int .i64 (IntKind.wrap .i64 (LN+1)),.list dM LO,.list aa LP,.list cr (BK++([.list na BJ]:List V))]
   else none))
 else none
theorem agB {cZ dm:Int} {bK eI bM:List V} {r:Option (List V)} (h:UH CC cZ dm bK eI bM=r):CC wv [.int .i64 cZ,.int .i64 dm,.list aa bK,.list cr eI,.list dM bM]=r:=
 bn (key:=43) (L:=UG CC) (bs:=[.loop (av [1,1,0,1,0,0] UF)]) (by kernel_rfl) (bD (agA CC) aw) (bc (by kernel_rfl) h)
end Go.AM
set_option maxRecDepth 100000
namespace Go.AM
open Go.Proofs Ex
def gv (r:List Int):V:= .list na (r.map fun n=> .int .i64 n)
def e9 (es:List Ex):List V:=lG V.str 0 (es.map Ex.text)
theorem LQ (a b:List UInt8):lK (.str a) (.str b)=decide (a=b):=by
 simp only[lK,V.cells,sZ,vf,Bool.and_true]
 rw[oQ]
 simp
theorem LR {es:List Ex} (h: ∀e∈es,Nv e) {d:Ex} (hd:Nv d):d.text∈es.map Ex.text↔d∈es:=by
 rw[gd]
 constructor
 ·rintro ⟨a,ha,he⟩
  rw[←Um (h a ha).1.2 hd.1.2 he];exact ha
 ·exact fun hx=>⟨d,hx,rfl⟩
theorem UI {α β:Type} [DecidableEq α] [DecidableEq β] {f:α→β} {d:α}: ∀{es:List α},(∀e∈es,f e=f d→e=d)→(es.map f).idxOf (f d)=es.idxOf d
 | [],_=>rfl
 | e::es,h=>by
  rw[cF,List.idxOf_cons,List.idxOf_cons,UI fun x hx=>h x (by simp[hx])]
  have:(f e==f d)=(e==d):=by
   rw[oQ,beq_iff_eq,beq_iff_eq]
   exact ⟨h e (by simp),fun h=>by rw[h]⟩
  rw[this]
theorem F8 {e:Ex} (h:e.val 6=0):(Nat.ble e.text.length maxLen&&true)=true:=by
 have a:=Ub e
 have b:=pA h
 rw[Bool.and_true,di]
 unfold maxLen
 omega
theorem F9 {e:Ex} (h:Nv e):CC wB (bN e [])=some [.str e.text]:=by
 rw[agu e (agC h),aj h.2]
where agC {e:Ex} (h:Nv e):e.Ok:=qL (by omega) e h.1.2 (by have:=pA h.2;omega)
def xX (s:Dv):List V:=[.int .i64 s.L,.int .i64 s.dn,.list aa (s.es.map enc),.list cr (s.nx.map gv),.list dM (e9 s.es)]
def LU (s:Dv):List V:=[.int .i64 s.L,.int .i64 s.dn,.list dM (e9 s.es),.list aa (s.es.map enc),.list cr (s.nx.map gv)]
theorem agD {es:List Ex} (h: ∀e∈es,Nv e) {d:Ex} (hd:Nv d) (hn:d∉es):il (.str d.text) (.int .i64 (es.length:Int)) (e9 es)=e9 (es++[d]):=by
 have:=UB (ke:=V.str) LQ d.text (es.map Ex.text) 0 fun hx=>hn ((LR h hd).1 hx)
 rw[aQ,gx] at this
 unfold e9
 rw[this,eS]
 rfl
theorem agE {α:Type} (a:List α) (x y:α):(a++[x]).set a.length y=a++[y]:=by
 simp[List.set_append_right]
theorem UJ {L dn:Int} {es:List Ex} {d:Ex} {nx:List V} (h: ∀e∈es,Nv e) (hd:Nv d) (hn:d∉es) (hl:es.length≤1000):
  CC zX (bN d [.int .i64 L,.int .i64 dn,.list aa (es.map enc),.list cr nx,.list dM (e9 es)])=some [.int .i64 (es.length:Int),.int .i64 L,.int .i64 dn,.list dM (e9 (es++[d])),.list aa ((es++[d]).map enc),.list cr nx]:=by
 refine agw ?_
 unfold UC
 refine bs (F9 hd) ?_
 refine bT (F8 hd.2) ?_
 refine bT (Lp (by simp;omega)) ?_
 refine (sI (i:=(es.map enc).length) (v:= .agg [.int .i64 0,.int .i64 0,.list aa ([]:List V)]) (by simp)).trans ?_
 rw[Int.toNat_natCast,agE]
 have h1:=agD h hd hn
 rw[aQ]
 show some [V.int .i64 (es.length:Int),.int .i64 L,.int .i64 dn,.list dM (il (.str d.text) (.int .i64 (es.length:Int)) (e9 es)),.list aa (es.map enc++[.agg [.int .i64 d.op,.int .i64 d.ch,.list aa (d.kids.map enc)]]),.list cr nx]=_
 rw[h1,afI,eS]
 rfl
theorem UK {e:Ex} {L:Int} (h:Nv e):CC zV (bN e [.int .i64 L])=some (xX ⟨L,[e],[],0⟩):=by
 refine agx ?_
 unfold UD
 refine bs (UJ (L:=L) (dn:=0) (es:=[]) (d:=e) (nx:=[]) (by simp) h (by simp) (by simp)) ?_
 rfl
theorem LV (s:Dv):CC Ef (xX s)=some (.bool (s.dn==s.es.length)::LU s):=by
 refine agy ?_
 unfold UE
 rw[aQ]
 rfl
theorem LW {L dn:Int} {e:Ex} {k:Nat} {nx:List V} (hk:dn=(k:Int)) (he:Nv e): ∀(n x:Nat) (es:List Ex) (row:List Int),L=((x+n:Nat):Int)→x+n≤10→Es es→k<es.length→es.getD k aW=e→row.length=x→
  (∀p,nF e n x es row=some p→Loop (oM CC L) (((x:Nat):Int),L,dn,e9 es,(row.map fun n=>V.int .i64 n)++List.replicate n (.int .i64 0),es.map enc,nx)=some (.inr (L,false,L,dn,e9 p.1,(p.2.map fun n=>V.int .i64 n),p.1.map enc,nx)))
  ∧(nF e n x es row=none→∃y,Loop (oM CC L) (((x:Nat):Int),L,dn,e9 es,(row.map fun n=>V.int .i64 n)++List.replicate n (.int .i64 0),es.map enc,nx)=some (.inl (3,y)))
 | 0,x,es,row,hL,hx,oc,hU,tF,hr=>by
  refine ⟨fun p hp=> ?_,fun hp=>by simp[nF] at hp⟩
  cases hp
  refine aX ?_
  simp only[oM,sP,un]
  rw[ay,ai (by omega),cK (by omega),show L=((x:Nat):Int) by omega]
  simp
 | n+1,x,es,row,hL,hx,oc,hU,tF,hr=>by
  subst hk
  have aO:decide ((x:Int)<L)=true:=eT (by omega)
  have bP:(es.map enc)[k]? =some e.enc:=by
   rw[gf,bB hU,←tF,gR,bB hU];rfl
  have hb:=afT he (x:Int)
  have agF:xV (aL (cd x e))=match qX e x with|some d=>(d,0)|none=>(aW,3):=by
   unfold xV qX;split<;>rfl
  rw[agF] at hb
  have Ga:x=(row.map fun n=>V.int .i64 n).length:=by simp[hr]
  rw[nF]
  cases bL:qX e x with
  | none=>
   rw[bL] at hb
   refine ⟨fun p hp=>(by cases hp),fun _=>⟨(L,(k:Int),e9 es,es.map enc,nx),aX ?_⟩⟩
   ·simp only[oM,sP,un]
    refine bT aO ((sI bP).trans ?_)
    rw[a9,bp,bh]
    refine bs hb ?_
    exact bT rfl rfl
  | some d=>
   rw[bL] at hb
   have hd:=(TY he bL).1
   have LX:kX (.str d.text) (e9 es)=decide (d∈es):=by
    unfold e9
    rw[Uz LQ,decide_eq_decide]
    exact LR oc.nv hd
   simp only[Option.bind_some]
   by_cases hm:d∈es
   ·rw[aj hm]
    have VV:es.idxOf d<es.length:=List.idxOf_lt_length_iff.2 hm
    obtain ⟨i1,i2⟩:=LW (L:=L) (e:=e) (k:=k) (nx:=nx) rfl he n (x+1) es (row++[(es.idxOf d:Int)]) (by omega) (by omega) oc hU tF (by simp[hr])
    have eh:oM CC L (((x:Nat):Int),L,(k:Int),e9 es,(row.map fun n=>V.int .i64 n)++List.replicate (n+1) (.int .i64 0),es.map enc,nx)=some (.inl (((x+1:Nat):Int),L,(k:Int),e9 es,((row++[(es.idxOf d:Int)]).map fun n=>V.int .i64 n)++List.replicate n (.int .i64 0),es.map enc,nx)):=by
     simp only[oM,sP,un]
     refine bT aO ((sI bP).trans ?_)
     rw[a9,bp,bh]
     refine bs hb (bF rfl (bs (F9 hd) (bT (F8 hd.2) ?_)))
     refine bF (by rw[V.aT,V.D0,LX,eT hm];rfl) ?_
     refine (sM Ga).trans ?_
     rw[Int.toNat_natCast,sN Ga,pH (by omega),V.aT,V.D0]
     have hg:lL (.str d.text) (e9 es) (.int .i64 0)= .int .i64 (es.idxOf d:Int):=by
      unfold e9
      rw[UA LQ _ _ _ _ ((LR oc.nv hd).2 hm),UI fun x hx=>Um (oc.nv x hx).1.2 hd.1.2,gx]
     rw[hg,V.toInt_int,eS]
     rfl
    exact ⟨fun p hp=>(bO eh).trans (i1 p hp),fun hp=>by obtain ⟨y,hy⟩:=i2 hp;exact ⟨y,(bO eh).trans hy⟩⟩
   ·rw[ai hm]
    by_cases Gb:es.length=512
    ·rw[aj Gb]
     refine ⟨fun p hp=>(by cases hp),fun _=>⟨(L,(k:Int),e9 es,es.map enc,nx),aX ?_⟩⟩
     ·simp only[oM,sP,un]
      refine bT aO ((sI bP).trans ?_)
      rw[a9,bp,bh]
      refine bs hb (bF rfl (bs (F9 hd) (bT (F8 hd.2) ?_)))
      refine bT (by rw[V.aT,V.D0,LX,cK hm];rfl) ?_
      exact bT (by rw[aQ,Gb];rfl) rfl
    ·rw[ai Gb]
     have hl:=oc.le
     obtain ⟨i1,i2⟩:=LW (L:=L) (e:=e) (k:=k) (nx:=nx) rfl he n (x+1) (es++[d]) (row++[(es.length:Int)]) (by omega) (by omega) (oc.snoc hd hm Gb) (by simp;omega) (by rw[FZ hU,tF]) (by simp[hr])
     have eh:oM CC L (((x:Nat):Int),L,(k:Int),e9 es,(row.map fun n=>V.int .i64 n)++List.replicate (n+1) (.int .i64 0),es.map enc,nx)=some (.inl (((x+1:Nat):Int),L,(k:Int),e9 (es++[d]),((row++[(es.length:Int)]).map fun n=>V.int .i64 n)++List.replicate n (.int .i64 0),(es++[d]).map enc,nx)):=by
      simp only[oM,sP,un]
      refine bT aO ((sI bP).trans ?_)
      rw[a9,bp,bh]
      refine bs hb (bF rfl (bs (F9 hd) (bT (F8 hd.2) ?_)))
      refine bT (by rw[V.aT,V.D0,LX,cK hm];rfl) ?_
      refine bF (by rw[aQ,BW];omega) ?_
      refine bs (UJ oc.nv hd hm (by omega)) ?_
      refine (sM Ga).trans ?_
      rw[Int.toNat_natCast,sN Ga,pH (by omega),eS (l₁:=row)]
      rfl
     exact ⟨fun p hp=>(bO eh).trans (i1 p hp),fun hp=>by obtain ⟨y,hy⟩:=i2 hp;exact ⟨y,(bO eh).trans hy⟩⟩
theorem agG {s:Dv} (hs:Gs s) (hd:s.dn<s.es.length):
  (∀t,proc s=some t→CC wv (xX s)=some (.int .i64 0::LU t))∧(proc s=none→∃l,CC wv (xX s)=some (.int .i64 3::l)):=by
 have T4:=hs.dn
 have hL:=hs.L
 have hq:s.dn.toNat<s.es.length:=by omega
 have lh:=hs.nl
 have hle:=hs.es.le
 have hN:((s.L.toNat:Nat):Int)=s.L:=by omega
 obtain ⟨l1,l2⟩:=LW (L:=s.L) (dn:=s.dn) (e:=s.es.getD s.dn.toNat aW) (k:=s.dn.toNat) (nx:=s.nx.map gv) (by omega) (hs.es.nv _ (Bs hq)) s.L.toNat 0 s.es [] (by omega) (by omega) hs.es hq rfl rfl
 have hf: ∀{r:Option (List V)},((Loop (oM CC s.L) (((0:Nat):Int),s.L,s.dn,e9 s.es,List.replicate s.L.toNat (V.int .i64 0),s.es.map enc,s.nx.map gv)).bind (b9 (un fun (py:Int)=>un fun (LL:Int)=>un fun (BH:Int)=>un fun (BI:List V)=>un fun (u0:List V) (BB:List V)=>some [V.int .i64 py,.int .i64 LL,.int .i64 BH,.list dM BI,.list aa u0,.list cr BB]) (un fun (J8:Int)=>un fun (sf:Bool)=>un fun (LM:Int)=>un fun (LN:Int)=>un fun (LO:List V)=>un fun (BJ:List V)=>un fun (LP:List V) (BK:List V)=>bif Nat.ble ((BK.length+([.list na BJ]:List V).length)*24) bS then some [.int .i64 0,.int .i64 LM,.int .i64 (IntKind.wrap .i64 (LN+1)),.list dM LO,.list aa LP,.list cr (BK++([.list na BJ]:List V))] else none)))=r→CC wv (xX s)=r:=fun h=>by
  refine agB ?_
  unfold UH
  refine bT ?_ ?_
  ·refine u7.2 ⟨eT (by omega),u7.2 ⟨eT (by omega),?_⟩⟩
   rw[di,j8];omega
  ·rw[sS,hN]
   exact h
 refine ⟨fun t ht=>hf ?_,fun ht=> ?_⟩
 ·obtain ⟨p,hp,rfl⟩:=TZ ht
  refine bs (l1 p hp) ?_
  simp only[b9,un]
  refine bT (by rw[di,j8];simp;omega) ?_
  rw[wrap64 (by omega) (by omega)]
  unfold LU
  simp only[eS]
  rfl
 ·have hr:nF (s.es.getD s.dn.toNat aW) s.L.toNat 0 s.es []=none:=by
   unfold proc at ht
   rwa [Option.map_eq_none_iff] at ht
  obtain ⟨y,hy⟩:=l2 hr
  exact ⟨_,hf (bs hy rfl)⟩
end Go.AM
set_option maxRecDepth 100000
namespace Go.AM
open Go.Proofs
noncomputable abbrev UL:Code:=cL Try.prog (ax.aZ 44)
noncomputable def BL (C:ag) (t22 UM UN:Int) (bM:List V) (jA jB oJ oK:Int) (Gc uy UO UP:List V) (t23:Int) (BM:List V) {β:Type} (kn:(Int × (List V))→Option β) (kr:(Int × Bool × (List V))→Option β):Option β:=
 bif decide ((t23:Int)<t22) then
  bif (decide (0≤t23))&&(decide (t23<(Gc.length:Int))) then
  (Gc[(t23:Int).toNat]?).bind fun x1=>
  (C j6 [.int .i64 ((x1.cell 0).toInt),.int .i64 ((x1.cell 1).toInt),.list aa ((x1.cell 2).toList)]).bind fun r2=>
  bif Nat.ble ((BM.length+([.bool ((V.nth r2 0).toBool)]:List V).length)*1) bS then
   kn (IntKind.wrap .i64 (t23+1),BM++([.bool ((V.nth r2 0).toBool)]:List V))
  else none
  else none
 else
  kr (t23,decide ((t23:Int)<t22),BM)
noncomputable def Ge (C:ag) (t22 UM UN:Int) (bM:List V) (jA jB oJ oK:Int) (Gc uy UO UP:List V):(Int × (List V))→Option ((Int × (List V)) ⊕ (Int × Bool × (List V))):=un fun t23 BM=>BL C t22 UM UN bM jA jB oJ oK Gc uy UO UP t23 BM (fun y=>some (.inl y)) (fun r=>some (.inr r))
noncomputable def UQ (C:ag):cD:=fun β n ds k=>
 bif Nat.beq n 49 then ca I0 [false,true,false,false,false,false,false,false,false,false,false,false,false,true] [[1,0,0,3,4,5,6,7,8,9,10,11,12,13,0]] (@BL C) ds k else
 none
abbrev agH (C:ag) (b:cA):Prop:=cB Try.prog ax C (UQ C) 44 (cQ Try.prog (ax.aZ 44)) (ax.sin 44).ba.length b
theorem agI (C:ag):agH C (.loop (av [1,1,0,1,0,0] UL)):=
 cg I0 [false,true,false,false,false,false,false,false,false,false,false,false,false,true] [[1,0,0,3,4,5,6,7,8,9,10,11,12,13,0]] (@BL C) (by kernel_rfl) (bm (bs:=[]) (by kernel_rfl) aw) (fun ds=>by kernel_rfl) (fun i x=>by kernel_rfl) (fun i x β k=>by kernel_rfl) (fun β ds k=>by kernel_rfl)
noncomputable def UR (C:ag) (cZ dm:Int) (bK eI bM:List V):Option (List V):=
 (Loop (Ge C (bK.length:Int) cZ dm bM 0 0 cZ 0 bK eI ([]:List V) ([]:List V)) (0,([]:List V))).bind (un fun (j9:Int)=>un fun (ly:Bool) (b_5:List V)=>
  some [.int .i64 cZ,.int .i64 0,.int .i64 cZ,.int .i64 dm,.list dM bM,.list lr b_5,.list cr eI,.list aa bK])
theorem agJ {cZ dm:Int} {bK eI bM:List V} {r:Option (List V)} (h:UR CC cZ dm bK eI bM=r):CC Eg [.int .i64 cZ,.int .i64 dm,.list aa bK,.list cr eI,.list dM bM]=r:=
 bn (key:=44) (L:=UQ CC) (bs:=[.loop (av [1,1,0,1,0,0] UL)]) (by kernel_rfl) (bD (agI CC) aw) (bc (by kernel_rfl) h)
noncomputable def US (C:ag) (ah ar:Int) (ae:List V) (letters:Int):Option (List V):=
 (C ua [.int .i64 ah,.int .i64 ar,.list aa ae,.int .i64 letters]).bind fun r1=>
 bif (((V.nth r1 0).toInt):Int) != 0 then
  some [.int .i64 0,.int .i64 0,.int .i64 ((V.nth r1 0).toInt),.list aa ([]:List V),.list cr ([]:List V)]
 else
  (C zW [.int .i64 ah,.int .i64 ar,.list aa ae]).bind fun r2=>
  (C zV [.int .i64 ((V.nth r2 0).toInt),.int .i64 ((V.nth (r2.drop 1) 0).toInt),.list aa ((V.nth ((r2.drop 1).drop 1) 0).toList),.int .i64 letters]).bind fun r3=>
  some [.int .i64 ((V.nth r3 0).toInt),.int .i64 ((V.nth (r3.drop 1) 0).toInt),.int .i64 0,.list aa ((V.nth (r3.drop 2) 0).toList),.list cr ((V.nth ((r3.drop 2).drop 1) 0).toList)]
theorem agK {ah ar:Int} {ae:List V} {letters:Int} {r:Option (List V)} (h:US CC ah ar ae letters=r):CC D9 [.int .i64 ah,.int .i64 ar,.list aa ae,.int .i64 letters]=r:=
 bn (key:=21) (L:=cq) (bs:=[]) (by kernel_rfl) aw (bc (by kernel_rfl) h)
noncomputable abbrev UT:Code:=cL Try.prog (ax.aZ 14)
noncomputable def xY (C:ag) (nD nE:Int) (eI bM:List V) (cZ dm:Int) (pI dO eu:List V) {β:Type} (kn:(Int × Int × (List V) × (List V) × (List V))→Option β) (kr:((Int × Int × Int × (List V) × (List V)) ⊕ (Bool × Int × Int × (List V) × (List V) × (List V)))→Option β):Option β:=
 (C Ef [.int .i64 cZ,.int .i64 dm,.list aa pI,.list cr dO,.list dM eu]).bind fun r4=>
 bif !((V.nth r4 0).toBool) then
  (C wv [.int .i64 ((V.nth (r4.drop 1) 0).toInt),.int .i64 ((V.nth ((r4.drop 1).drop 1) 0).toInt),.list aa ((V.nth (((r4.drop 1).drop 2).drop 1) 0).toList),.list cr ((V.nth ((((r4.drop 1).drop 2).drop 1).drop 1) 0).toList),.list dM ((V.nth ((r4.drop 1).drop 2) 0).toList)]).bind fun r5=>
  bif (((V.nth r5 0).toInt):Int) != 0 then
  kr (.inl ((V.nth r5 0).toInt,0,0,([]:List V),([]:List V)))
  else
  kn ((V.nth (r5.drop 1) 0).toInt,(V.nth ((r5.drop 1).drop 1) 0).toInt,(V.nth (((r5.drop 1).drop 2).drop 1) 0).toList,(V.nth ((((r5.drop 1).drop 2).drop 1).drop 1) 0).toList,(V.nth ((r5.drop 1).drop 2) 0).toList)
 else
  kr (.inr (!((V.nth r4 0).toBool),(V.nth (r4.drop 1) 0).toInt,(V.nth ((r4.drop 1).drop 1) 0).toInt,(V.nth (((r4.drop 1).drop 2).drop 1) 0).toList,(V.nth ((((r4.drop 1).drop 2).drop 1).drop 1) 0).toList,(V.nth ((r4.drop 1).drop 2) 0).toList))
noncomputable def u4 (C:ag) (nD nE:Int) (eI bM:List V):(Int × Int × (List V) × (List V) × (List V))→Option ((Int × Int × (List V) × (List V) × (List V)) ⊕ ((Int × Int × Int × (List V) × (List V)) ⊕ (Bool × Int × Int × (List V) × (List V) × (List V)))):=un fun cZ=>un fun dm=>un fun pI=>un fun dO eu=>xY C nD nE eI bM cZ dm pI dO eu (fun y=>some (.inl y)) (fun r=>some (.inr r))
noncomputable def UU (C:ag):cD:=fun β n ds k=>
 bif Nat.beq n 81 then ca IS [false,false,true,true,false,false,true,true,true] [[0,0,0,0,0],[0,1,2,0,0,5,6,0,0,0]] (@xY C) ds k else
 none
abbrev agL (C:ag) (b:cA):Prop:=cB Try.prog ax C (UU C) 14 (cQ Try.prog (ax.aZ 14)) (ax.sin 14).ba.length b
theorem agM (C:ag):agL C (.loop (av [1,1,1,0,0,0] UT)):=
 cg IS [false,false,true,true,false,false,true,true,true] [[0,0,0,0,0],[0,1,2,0,0,5,6,0,0,0]] (@xY C) (by kernel_rfl) (bm (bs:=[]) (by kernel_rfl) aw) (fun ds=>by kernel_rfl) (fun i x=>by kernel_rfl) (fun i x β k=>by kernel_rfl) (fun β ds k=>by kernel_rfl)
noncomputable def UW (C:ag) (ah ar:Int) (ae:List V) (letters:Int):Option (List V):=
 (C ua [.int .i64 ah,.int .i64 ar,.list aa ae,.int .i64 letters]).bind fun r1=>
 bif (((V.nth r1 0).toInt):Int) != 0 then
  some [.int .i64 0,.int .i64 0,.int .i64 ((V.nth r1 0).toInt),.list lr ([]:List V),.list cr ([]:List V)]
 else
  (C zW [.int .i64 ah,.int .i64 ar,.list aa ae]).bind fun r2=>
  (C zV [.int .i64 ((V.nth r2 0).toInt),.int .i64 ((V.nth (r2.drop 1) 0).toInt),.list aa ((V.nth ((r2.drop 1).drop 1) 0).toList),.int .i64 letters]).bind fun r3=>
  (Loop (u4 C 0 0 ([]:List V) ([]:List V)) ((V.nth r3 0).toInt,(V.nth (r3.drop 1) 0).toInt,(V.nth (r3.drop 2) 0).toList,(V.nth ((r3.drop 2).drop 1) 0).toList,(V.nth (((r3.drop 2).drop 1).drop 1) 0).toList)).bind (b9 (un fun (nh:Int)=>un fun (agN:Int)=>un fun (agO:Int)=>un fun (BH:List V) (BI:List V)=>
   some [.int .i64 agN,.int .i64 agO,.int .i64 nh,.list lr BH,.list cr BI]) (un fun (ER:Bool)=>un fun (agP:Int)=>un fun (agQ:Int)=>un fun (LJ:List V)=>un fun (sw:List V) (agR:List V)=>
   (C Eg [.int .i64 agP,.int .i64 agQ,.list aa LJ,.list cr sw,.list dM agR]).bind fun dA=>
   some [.int .i64 ((V.nth dA 0).toInt),.int .i64 ((V.nth (dA.drop 1) 0).toInt),.int .i64 0,.list lr ((V.nth (((dA.drop 2).drop 2).drop 1) 0).toList),.list cr ((V.nth ((((dA.drop 2).drop 2).drop 1).drop 1) 0).toList)]))
theorem agS {ah ar:Int} {ae:List V} {letters:Int} {r:Option (List V)} (h:UW CC ah ar ae letters=r):CC D8 [.int .i64 ah,.int .i64 ar,.list aa ae,.int .i64 letters]=r:=
 bn (key:=14) (L:=UU CC) (bs:=[.loop (av [1,1,1,0,0,0] UT)]) (by kernel_rfl) (bD (agM CC) aw) (bc (by kernel_rfl) h)
end Go.AM
set_option maxRecDepth 100000
namespace Go.AM
open Go.Proofs Ex
abbrev UX (d:Dv) (l:List V):List V:= .int .i64 d.L:: .list aa (d.es.map enc):: .list cr (d.nx.map gv):: .int .i64 d.dn::l
structure Dv.Ok (d:Dv):Prop where
 es: ∀e∈d.es,e.Ok
 el:d.es.length≤maxLen
 nl:d.nx.length≤maxLen
 rl: ∀r∈d.nx,r.length≤maxLen
theorem agT {α:Type} {a b:List α} {z:α} (hl:a.length=b.length) (h: ∀i,i<a.length→a.getD i z=b.getD i z):a=b:=by
 refine List.ext_getElem hl fun i h1 U=> ?_
 have:=h i h1
 rw[gR,gR,bB h1,bB U] at this
 exact this
theorem xZ {α:Type} {a b:List α} {z:α} (hl:a.length=b.length):(∀i,i<a.length→a.getD i z=b.getD i z)↔a=b:=
 ⟨agT hl,fun h=>by rw[h];exact fun _ _=>rfl⟩
theorem sQ {α:Type} {f:α→V} {l:List α} {z:α} {i:Nat} (h:i<l.length):idx (l.map f) (i:Int)=some (f (l.getD i z)):=by
 rw[YN rfl,gf,bB h,gR,bB h];rfl
theorem agU {s:Dv} (hs:Gs s):s.Ok:=by
 have h1:=hs.es.le
 have U:=hs.nl
 have h3:=hs.dn
 have h4:=hs.L
 refine ⟨fun e he=>qL (by omega) e (hs.es.nv e he).1.2 (by have:=pA (hs.es.nv e he).2;omega),by unfold maxLen;omega,by unfold maxLen;omega,fun r hr=> ?_⟩
 obtain ⟨q,hq,rfl⟩:=List.getElem_of_mem hr
 have:=(hs.row q (by omega)).1
 rw[gR,bB hq,Option.getD_some] at this
 rw[this];unfold maxLen;omega
abbrev Gf (s:Dv):Int × Int × List V × List V × List V:=(s.L,s.dn,s.es.map enc,s.nx.map gv,e9 s.es)
abbrev LY (p:Dv × Int):List V:=[.int .i64 p.1.L,.int .i64 p.1.dn,.int .i64 p.2,.list aa (p.1.es.map enc),.list cr (p.1.nx.map gv)]
def ya (e:Ex) (L:Int):Dv × Int:=if e.val L=0 then (oL e L,0) else (.zero,e.val L)
theorem UY {e:Ex} {L:Int} (h:e.val L=0):Nv (aL e):=⟨ml e (pA (xU h)).2.2,TW (xU h)⟩
theorem agV {e:Ex} (h:e.Ok) (L:Int):CC D9 (bN e [.int .i64 L])=some (LY (ya e L)):=by
 refine agK ?_
 unfold US ya
 refine bs (EU e h L) ?_
 by_cases hv:e.val L=0
 ·rw[aj hv]
  refine bF (by rw[V.aT,V.toInt_int,hv];rfl) ?_
  have hN:=Tr e h
  rw[aj (xU hv)] at hN
  refine bs hN (bs (UK (L:=L) (UY hv)) ?_)
  rfl
 ·rw[ai hv]
  refine bT ?_ rfl
  rw[V.aT,V.toInt_int,oS];exact hv
structure Fa where
 L:Int
 F:List Bool
 N:List (List Int)
abbrev faE (p:Fa × Int):List V:=[.int .i64 p.1.L,.int .i64 0,.int .i64 p.2,.list lr (p.1.F.map V.bool),.list cr (p.1.N.map gv)]
def Fa.zero:Fa:=⟨0,[],[]⟩
def agW (d:Dv):Fa:=⟨d.L,d.es.map Ex.da,d.nx⟩
theorem agX {es:List Ex} (hn:es.length≤1000) (ho: ∀e∈es,Nv e) {a b c1 c2 c3 c4:Int} {l1 l2 l3 l4:List V}: ∀(aB pre:List Ex),es=pre++aB→
  Loop (Ge CC (es.length:Int) a b l1 c1 c2 c3 c4 (es.map enc) l2 l3 l4) (((pre.length:Nat):Int),(pre.map Ex.da).map V.bool)=some ((es.length:Int),false,(es.map Ex.da).map V.bool):=by
 intro aB
 induction aB with
 | nil=>
  intro pre e
  rw[c6] at e
  subst e
  refine aX ?_
  simp only[Ge,BL,un]
  rw[ay,ai (by omega),cK (by omega)]
 | cons k aB eZ=>
  intro pre e
  have bZ:pre.length<es.length:=by rw[e];simp
  have hk:k∈es:=by rw[e];simp
  have bP:(es.map enc)[pre.length]? =some k.enc:=by rw[e];simp
  have hv:=pA (ho k hk).2
  refine (bO ?_).trans (eZ (pre++[k]) (by simp[e]))
  simp only[Ge,BL,un]
  refine bT (sJ bZ) ((sI bP).trans ?_)
  rw[a9,bp,bh]
  refine bs (acs (letters:=6) k (qL (by omega) k hv.2.2 (by omega)) hv.2.2) ?_
  refine bT (by rw[di,j8];simp;omega) ?_
  rw[pH (by omega)]
  simp only[eS,cF,fM,bR,List.length_cons,List.length_nil]
  rfl
theorem agY {s:Dv} (hs:Gs s): ∃l,CC Eg (xX s)=some l∧(V.nth l 0).toInt=s.L∧(V.nth (l.drop 1) 0).toInt=0∧(V.nth (((l.drop 2).drop 2).drop 1) 0).toList=(s.es.map Ex.da).map V.bool∧(V.nth ((((l.drop 2).drop 2).drop 1).drop 1) 0).toList=s.nx.map gv:=by
 have hl:=hs.es.le
 refine ⟨[.int .i64 s.L,.int .i64 0,.int .i64 s.L,.int .i64 s.dn,.list dM (e9 s.es),.list lr ((s.es.map Ex.da).map V.bool),.list cr (s.nx.map gv),.list aa (s.es.map enc)],agJ ?_,?_⟩
 ·unfold UR
  rw[aQ]
  refine bs (agX (by omega) hs.es.nv s.es [] rfl) ?_
  simp only[un]
 ·exact ⟨rfl,rfl,rfl,rfl⟩
def BN (e:Ex) (L:Int):Fa × Int:=if e.val L=0 then (match sO 513 (oL e L) with|some t=>(agW t,0)|none=>(.zero,3)) else (.zero,e.val L)
theorem UZ {a b:Int} {l1 l2:List V}: ∀(n:Nat) (s:Dv),Gs s→513≤s.dn+n→
  (∀t,sO n s=some t→Loop (u4 CC a b l1 l2) (Gf s)=some (.inr (false,t.L,t.dn,t.es.map enc,t.nx.map gv,e9 t.es)))∧(sO n s=none→Loop (u4 CC a b l1 l2) (Gf s)=some (.inl (3,0,0,[],[])))
 | 0,s,hs,hn=>by have:=hs.dn;have:=hs.es.le;omega
 | n+1,s,hs,hn=>by
  rw[sO]
  have T4:=hs.dn
  by_cases hd:s.dn<s.es.length
  ·rw[aj hd]
   obtain ⟨p1,p2⟩:=agG hs hd
   have hf:(!(s.dn==(s.es.length:Int)))=true:=by rw[mA,BW];omega
   cases hp:proc s with
   | none=>
    obtain ⟨l,hl⟩:=p2 hp
    refine ⟨fun t ht=>(by cases ht),fun _=>aX ?_⟩
    simp only[u4,xY,un]
    refine bs (LV s) (bT hf ?_)
    refine bs hl ?_
    rfl
   | some u=>
    obtain ⟨g,_,g2,_⟩:=T2 hs hd hp
    obtain ⟨i1,i2⟩:=UZ (a:=a) (b:=b) (l1:=l1) (l2:=l2) n u g (by omega)
    have eh:u4 CC a b l1 l2 (Gf s)=some (.inl (Gf u)):=by
     simp only[u4,xY,un]
     refine bs (LV s) (bT hf ?_)
     refine bs (p1 u hp) ?_
     rfl
    exact ⟨fun t ht=>(bO eh).trans (i1 t ht),fun ht=>(bO eh).trans (i2 ht)⟩
  ·rw[ai hd]
   refine ⟨fun t ht=> ?_,fun ht=>(by cases ht)⟩
   cases ht
   refine aX ?_
   have hf:(!(s.dn==(s.es.length:Int)))=false:=by rw[Bool.not_eq_false',beq_iff_eq];omega
   simp only[u4,xY,un]
   refine bs (LV s) (bF hf ?_)
   exact congrArg (fun b=>some (Sum.inr (Sum.inr (b,s.L,s.dn,s.es.map enc,s.nx.map gv,e9 s.es)))) hf
theorem agZ {e:Ex} (h:e.Ok) (L:Int):CC D8 (bN e [.int .i64 L])=some (faE (BN e L)):=by
 refine agS ?_
 unfold UW BN
 refine bs (EU e h L) ?_
 by_cases hv:e.val L=0
 ·rw[aj hv]
  refine bF (by rw[V.aT,V.toInt_int,hv];rfl) ?_
  have hN:=Tr e h
  rw[aj (xU hv)] at hN
  refine bs hN (bs (UK (L:=L) (UY hv)) ?_)
  obtain ⟨l1,l2⟩:=UZ (a:=0) (b:=0) (l1:=[]) (l2:=[]) 513 (oL e L) (Lv hv) (by show 513≤(0:Int)+_;omega)
  cases hp:sO 513 (oL e L) with
  | none=>exact bs (l2 hp) rfl
  | some t=>
   refine bs (l1 t hp) ?_
   obtain ⟨l,a1,a2,a3,a4,a5⟩:=agY (T6 513 _ _ (Lv hv) hp).1
   refine bs a1 ?_
   rw[a2,a3,a4,a5]
   rfl
 ·rw[ai hv]
  refine bT ?_ rfl
  rw[V.aT,V.toInt_int,oS];exact hv
end Go.AM
set_option maxRecDepth 100000
namespace Go.AM
open Go.Proofs
noncomputable def U0 (C:ag) (ah ar:Int) (ae:List V) (letters:Int):Option (List V):=
 (C D6 [.int .i64 ah,.int .i64 ar,.list aa ae,.int .i64 letters]).bind fun r1=>
 bif (((V.nth r1 0).toInt):Int) != 0 then
  some [.int .i64 0,.int .i64 0,.int .i64 ((V.nth r1 0).toInt),.list aa ([]:List V),.list cr ([]:List V)]
 else
  (C wz [.int .i64 ah,.int .i64 ar,.list aa ae]).bind fun r2=>
  some [.int .i64 letters,.int .i64 0,.int .i64 0,.list aa ([.agg [.int .i64 ((V.nth r2 0).toInt),.int .i64 ((V.nth (r2.drop 1) 0).toInt),.list aa ((V.nth ((r2.drop 1).drop 1) 0).toList)]]:List V),.list cr ([]:List V)]
theorem ag0 {ah ar:Int} {ae:List V} {letters:Int} {r:Option (List V)} (h:U0 CC ah ar ae letters=r):CC Ea [.int .i64 ah,.int .i64 ar,.list aa ae,.int .i64 letters]=r:=
 bn (key:=22) (L:=cq) (bs:=[]) (by kernel_rfl) aw (bc (by kernel_rfl) h)
noncomputable abbrev yb:Code:=cL Try.prog (ax.aZ 23)
noncomputable def BO (C:ag) (t40 ni:Int) (mg jw:List V) (qZ nj:Int) (mh jx:List V) (q0 t41:Int) {β:Type} (kn:Int→Option β) (kr:((Bool) ⊕ (Int × Bool))→Option β):Option β:=
 bif decide ((t41:Int)<t40) then
  (idx mg t41).bind fun x1=>
  (idx mh t41).bind fun x2=>
  (C rX [.int .i64 ((x1.cell 0).toInt),.int .i64 ((x1.cell 1).toInt),.list aa ((x1.cell 2).toList),.int .i64 ((x2.cell 0).toInt),.int .i64 ((x2.cell 1).toInt),.list aa ((x2.cell 2).toList)]).bind fun r3=>
  bif (((V.nth r3 0).toInt):Int) != 0 then
  kr (.inl false)
  else
  kn (IntKind.wrap .i64 (t41+1))
 else
  kr (.inr (t41,decide ((t41:Int)<t40)))
noncomputable def BP (C:ag) (t40 ni:Int) (mg jw:List V) (qZ nj:Int) (mh jx:List V) (q0:Int):(Int)→Option ((Int) ⊕ ((Bool) ⊕ (Int × Bool))):=fun t41=>BO C t40 ni mg jw qZ nj mh jx q0 t41 (fun y=>some (.inl y)) (fun r=>some (.inr r))
noncomputable def BQ (C:ag) (i t59 t60 t81 ni:Int) (mg jw:List V) (qZ nj:Int) (mh jx:List V) (q0 t82:Int) {β:Type} (kn:Int→Option β) (kr:((Bool) ⊕ (Int × Bool))→Option β):Option β:=
 bif decide ((t82:Int)<t81) then
  (idx jw i).bind fun lC=>
  (idx lC.toList t82).bind fun ez=>
  (idx jx i).bind fun kM=>
  (idx kM.toList t82).bind fun iM=>
  bif (ez.toInt:Int) != iM.toInt then
  kr (.inl false)
  else
  kn (IntKind.wrap .i64 (t82+1))
 else
  kr (.inr (t82,decide ((t82:Int)<t81)))
noncomputable def BR (C:ag) (i t59 t60 t81 ni:Int) (mg jw:List V) (qZ nj:Int) (mh jx:List V) (q0:Int):(Int)→Option ((Int) ⊕ ((Bool) ⊕ (Int × Bool))):=fun t82=>BQ C i t59 t60 t81 ni mg jw qZ nj mh jx q0 t82 (fun y=>some (.inl y)) (fun r=>some (.inr r))
noncomputable def BT (C:ag) (t59 ni:Int) (mg jw:List V) (qZ nj:Int) (mh jx:List V) (q0 t60:Int) {β:Type} (kn:Int→Option β) (kr:((Bool) ⊕ (Int × Bool))→Option β):Option β:=
 bif decide ((t60:Int)<t59) then
  (idx jw t60).bind fun x7=>
  (idx jx t60).bind fun x8=>
  bif ((x7.toList.length:Int):Int) != (x8.toList.length:Int) then
  kr (.inl false)
  else
  (idx jw t60).bind fun x9=>
  (Loop (BR C t60 t59 t60 (x9.toList.length:Int) ni mg jw qZ nj mh jx q0) 0).bind (b9 (fun (sf:Bool)=>
   kr (.inl sf)) (un fun (wW:Int) (J9:Bool)=>
   kn (IntKind.wrap .i64 (t60+1))))
 else
  kr (.inr (t60,decide ((t60:Int)<t59)))
noncomputable def BU (C:ag) (t59 ni:Int) (mg jw:List V) (qZ nj:Int) (mh jx:List V) (q0:Int):(Int)→Option ((Int) ⊕ ((Bool) ⊕ (Int × Bool))):=fun t60=>BT C t59 ni mg jw qZ nj mh jx q0 t60 (fun y=>some (.inl y)) (fun r=>some (.inr r))
noncomputable def U1 (C:ag):cD:=fun β n ds k=>
 bif Nat.beq n 65 then ca IT [false,true,false,false,false,false,false,false,false,false] [[0],[1,0,0,3,4,5,6,7,8,9,10]] (@BO C) ds k else
 bif Nat.beq n 241 then ca IU [false,false,false,false,true,false,false,false,false,false,false,false,false] [[0],[1,2,3,4,0,0,6,7,8,9,10,11,12,13]] (@BQ C) ds k else
 bif Nat.beq n 161 then ca IV [false,true,false,false,false,false,false,false,false,false] [[0],[1,0,0,3,4,5,6,7,8,9,10]] (@BT C) ds k else
 none
abbrev LZ (C:ag) (b:cA):Prop:=cB Try.prog ax C (U1 C) 23 (cQ Try.prog (ax.aZ 23)) (ax.sin 23).ba.length b
theorem ag1 (C:ag):LZ C (.loop (av [1,1,0,1,0,0] yb)):=
 cg IT [false,true,false,false,false,false,false,false,false,false] [[0],[1,0,0,3,4,5,6,7,8,9,10]] (@BO C) (by kernel_rfl) (bm (bs:=[]) (by kernel_rfl) aw) (fun ds=>by kernel_rfl) (fun i x=>by kernel_rfl) (fun i x β k=>by kernel_rfl) (fun β ds k=>by kernel_rfl)
theorem ag2 (C:ag):LZ C (.loop (av [1,1,1,0,1,0,0,1,1,0,0,1,1,1,0,0] yb)):=
 cg IU [false,false,false,false,true,false,false,false,false,false,false,false,false] [[0],[1,2,3,4,0,0,6,7,8,9,10,11,12,13]] (@BQ C) (by kernel_rfl) (bm (bs:=[]) (by kernel_rfl) aw) (fun ds=>by kernel_rfl) (fun i x=>by kernel_rfl) (fun i x β k=>by kernel_rfl) (fun β ds k=>by kernel_rfl)
theorem ag3 (C:ag):LZ C (.loop (av [1,1,1,0,1,0,0] yb)):=
 cg IV [false,true,false,false,false,false,false,false,false,false] [[0],[1,0,0,3,4,5,6,7,8,9,10]] (@BT C) (by kernel_rfl) (bm (bs:=[.loop (av [1,1,1,0,1,0,0,1,1,0,0,1,1,1,0,0] yb)]) (by kernel_rfl) (bD (ag2 C) aw)) (fun ds=>by kernel_rfl) (fun i x=>by kernel_rfl) (fun i x β k=>by kernel_rfl) (fun β ds k=>by kernel_rfl)
noncomputable def U2 (C:ag) (fC:Int) (fm fD:List V) (yc fE:Int) (fF fX:List V) (yd:Int):Option (List V):=
 bif (fC:Int) != fE then
  some [.bool false]
 else
  bif (yc:Int) != yd then
  some [.bool false]
  else
  bif ((fm.length:Int):Int) != (fF.length:Int) then
   some [.bool false]
  else
   bif ((fD.length:Int):Int) != (fX.length:Int) then
   some [.bool false]
   else
   (Loop (BP C (fm.length:Int) fC fm fD yc fE fF fX yd) 0).bind (b9 (fun (ly:Bool)=>
    some [.bool ly]) (un fun (pw:Int) (nh:Bool)=>
    (Loop (BU C (fD.length:Int) fC fm fD yc fE fF fX yd) 0).bind (b9 (fun (Ka:Bool)=>
     some [.bool Ka]) (un fun (Kb:Int) (ZD:Bool)=>
     some [.bool true]))))
theorem ag4 {fC:Int} {fm fD:List V} {yc fE:Int} {fF fX:List V} {yd:Int} {r:Option (List V)} (h:U2 CC fC fm fD yc fE fF fX yd=r):CC Eb [.int .i64 fC,.list aa fm,.list cr fD,.int .i64 yc,.int .i64 fE,.list aa fF,.list cr fX,.int .i64 yd]=r:=
 bn (key:=23) (L:=U1 CC) (bs:=[.loop (av [1,1,0,1,0,0] yb),.loop (av [1,1,1,0,1,0,0] yb)]) (by kernel_rfl) (bD (ag1 CC) (bD (ag3 CC) aw)) (bc (by kernel_rfl) h)
end Go.AM
set_option maxRecDepth 100000
namespace Go.AM
open Go.Proofs Ex
theorem ag5 {e:Ex} (h:e.Ok) (L:Int):CC Ea (bN e [.int .i64 L])=some (LY (ya e L)):=by
 refine ag0 ?_
 unfold U0 ya
 refine bs (abn e h L) ?_
 by_cases hv:e.val L=0
 ·rw[aj hv]
  refine bF (by rw[V.aT,V.toInt_int,hv];rfl) ?_
  obtain ⟨_,U,h3⟩:=pA (xU hv)
  refine bs (afi (n:=6) (by omega) e h3 (by omega)) ?_
  unfold LY oL
  simp only[cF,fM]
  rw[dD (aL e)]
  rfl
 ·rw[ai hv]
  refine bT ?_ rfl
  rw[V.aT,V.toInt_int,oS];exact hv
theorem ag6 {a b:List Ex} (ha: ∀e∈a,e.Ok) (hb: ∀e∈b,e.Ok) (hl:a.length≤maxLen) (he:a.length=b.length) {x1 x2 x3 x4:Int} {l1 l2:List V}:Loop (BP CC (a.length:Int) x1 (a.map enc) l1 x2 x3 (b.map enc) l2 x4) 0=some (if a=b then .inr ((a.length:Int),false) else .inl false):=by
 have hm:=nf
 have loop:Loop (BP CC (a.length:Int) x1 (a.map enc) l1 x2 x3 (b.map enc) l2 x4) 0=some (if∀i,i<a.length→a.getD i aW=b.getD i aW then .inr ((a.length:Int),false) else .inl false):=by
  refine J5 (good:=fun i=>a.getD i aW=b.getD i aW) a.length (fun i=>(i:Int)) (Sum.inl false:Bool ⊕ (Int × Bool)) (Sum.inr ((a.length:Int),false)) (fun i hi=> ?_) ?_
  ·simp only[BP,BO]
   refine bT (sJ hi) (bs (sQ (z:=aW) hi) (bs (sQ (z:=aW) (by omega)) ?_))
   rw[a9,bp,bh,a9,bp,bh]
   refine bs (Kh _ (ha _ (Bs hi)) _ (hb _ (Bs (by omega)))) ?_
   by_cases h:a.getD i aW=b.getD i aW
   ·rw[aj h]
    refine bF (by rw[V.aT,V.toInt_int,Kn.2 h];rfl) ?_
    rw[wrap64 (by omega) (by omega)]
    rfl
   ·rw[ai h]
    refine bT ?_ rfl
    rw[V.aT,V.toInt_int,oS]
    exact fun hx=>h (Kn.1 hx)
  ·simp only[BP,BO]
   rw[ay,ai (by omega),cK (by omega)]
 rw[loop]
 by_cases h:a=b
 ·rw[aj ((xZ he).2 h),aj h]
 ·rw[ai fun hx=>h ((xZ he).1 hx),ai h]
theorem ag7 {A B:List (List Int)} {i:Nat} (hi:i<A.length) (hiB:i<B.length) (hr:(A.getD i []).length≤maxLen) (he:(A.getD i []).length=(B.getD i []).length) {y1 y2 x1 x2 x3 x4:Int} {l1 l2:List V}:Loop (BR CC (i:Int) y1 y2 ((A.getD i []).length:Int) x1 l1 (A.map gv) x2 x3 l2 (B.map gv) x4) 0=some (if A.getD i []=B.getD i [] then .inr (((A.getD i []).length:Int),false) else .inl false):=by
 have hm:=nf
 have loop:Loop (BR CC (i:Int) y1 y2 ((A.getD i []).length:Int) x1 l1 (A.map gv) x2 x3 l2 (B.map gv) x4) 0=some (if∀j,j<(A.getD i []).length→(A.getD i []).getD j 0=(B.getD i []).getD j 0 then .inr (((A.getD i []).length:Int),false) else .inl false):=by
  refine J5 (good:=fun j=>(A.getD i []).getD j 0=(B.getD i []).getD j 0) (A.getD i []).length (fun j=>(j:Int)) (Sum.inl false:Bool ⊕ (Int × Bool)) (Sum.inr (((A.getD i []).length:Int),false)) (fun j hj=> ?_) ?_
  ·simp only[BR,BQ]
   refine bT (sJ hj) (bs (sQ (z:=[]) hi) (bs (sQ (f:=fun n=>V.int .i64 n) (z:=0) hj) (bs (sQ (z:=[]) hiB) (bs (sQ (f:=fun n=>V.int .i64 n) (z:=0) (by omega)) ?_))))
   rw[V.toInt_int,V.toInt_int]
   by_cases h:(A.getD i []).getD j 0=(B.getD i []).getD j 0
   ·rw[aj h]
    refine bF (by rw[u9];exact h) ?_
    rw[wrap64 (by omega) (by omega)]
    rfl
   ·rw[ai h]
    exact bT (by rw[oS];exact h) rfl
  ·simp only[BR,BQ]
   rw[ay,ai (by omega),cK (by omega)]
 rw[loop]
 by_cases h:A.getD i []=B.getD i []
 ·rw[aj ((xZ he).2 h),aj h]
 ·rw[ai fun hx=>h ((xZ he).1 hx),ai h]
theorem ag8 {A B:List (List Int)} (hr: ∀r∈A,r.length≤maxLen) (hl:A.length≤maxLen) (he:A.length=B.length) {x1 x2 x3 x4:Int} {l1 l2:List V}:Loop (BU CC (A.length:Int) x1 l1 (A.map gv) x2 x3 l2 (B.map gv) x4) 0=some (if A=B then .inr ((A.length:Int),false) else .inl false):=by
 have hm:=nf
 have L0: ∀r:List Int,((gv r).toList.length:Int)=(r.length:Int):=fun r=>by show (((r.map fun n=>V.int .i64 n).length:Nat):Int)=_;rw[aQ]
 have loop:Loop (BU CC (A.length:Int) x1 l1 (A.map gv) x2 x3 l2 (B.map gv) x4) 0=some (if∀i,i<A.length→A.getD i []=B.getD i [] then .inr ((A.length:Int),false) else .inl false):=by
  refine J5 (good:=fun i=>A.getD i []=B.getD i []) A.length (fun i=>(i:Int)) (Sum.inl false:Bool ⊕ (Int × Bool)) (Sum.inr ((A.length:Int),false)) (fun i hi=> ?_) ?_
  ·have bP:=sQ (f:=gv) (z:=[]) hi
   simp only[BU,BT]
   refine bT (sJ hi) (bs bP (bs (sQ (z:=[]) (by omega)) ?_))
   rw[L0,L0]
   by_cases hlen:(A.getD i []).length=(B.getD i []).length
   ·refine bF (by rw[u9,hlen]) (bs bP ?_)
    rw[L0]
    refine bs (ag7 hi (by omega) (hr _ (Bs hi)) hlen) ?_
    by_cases h:A.getD i []=B.getD i []
    ·rw[aj h,aj h]
     simp only[b9,un]
     rw[wrap64 (by omega) (by omega)]
     rfl
    ·rw[ai h,ai h]
     rfl
   ·rw[ai fun h=>hlen (by rw[h])]
    exact bT (by rw[oS];omega) rfl
  ·simp only[BU,BT]
   rw[ay,ai (by omega),cK (by omega)]
 rw[loop]
 by_cases h:A=B
 ·rw[aj ((xZ he).2 h),aj h]
 ·rw[ai fun hx=>h ((xZ he).1 hx),ai h]
theorem ag9 {a b:Dv} (ha:a.Ok) (hb:b.Ok):CC Eb (UX a (UX b []))=some [.bool (decide (a=b))]:=by
 refine ag4 ?_
 unfold U2
 obtain ⟨L,es,nx,dn⟩:=a
 obtain ⟨L',aI,U3,dn'⟩:=b
 simp only[aQ]
 by_cases h1:L=L'
 case neg=>
  rw[cK fun h=>h1 (Dv.mk.inj h).1]
  exact bT (by rw[oS];exact h1) rfl
 refine bF (by rw[u9];exact h1) ?_
 by_cases U:dn=dn'
 case neg=>
  rw[cK fun h=>U (Dv.mk.inj h).2.2.2]
  exact bT (by rw[oS];exact U) rfl
 refine bF (by rw[u9];exact U) ?_
 by_cases h3:es.length=aI.length
 case neg=>
  rw[cK fun h=>h3 (by rw[(Dv.mk.inj h).2.1])]
  exact bT (by rw[oS];omega) rfl
 refine bF (by rw[u9,h3]) ?_
 by_cases h4:nx.length=U3.length
 case neg=>
  rw[cK fun h=>h4 (by rw[(Dv.mk.inj h).2.2.1])]
  exact bT (by rw[oS];omega) rfl
 refine bF (by rw[u9,h4]) ?_
 refine bs (ag6 ha.es hb.es ha.el h3) ?_
 by_cases h5:es=aI
 case neg=>
  rw[ai h5,cK fun h=>h5 (Dv.mk.inj h).2.1];rfl
 rw[aj h5]
 simp only[b9,un]
 refine bs (ag8 ha.rl ha.nl h4) ?_
 by_cases h6:nx=U3
 ·rw[aj h6,eT (by rw[h1,U,h5,h6])];rfl
 ·rw[ai h6,cK fun h=>h6 (Dv.mk.inj h).2.2.1];rfl
end Go.AM
set_option maxRecDepth 100000
namespace Go.AM
open Go.Proofs
noncomputable def U4 (C:ag):Option (List V):=
 some [.int .i64 7,.int .i64 0,.list aa ([.agg [.int .i64 5,.int .i64 0,.list aa ([.agg [.int .i64 3,.int .i64 0,.list aa ([]:List V)],.agg [.int .i64 3,.int .i64 1,.list aa ([]:List V)]]:List V)]]:List V)]
theorem aha {r:Option (List V)} (h:U4 CC=r):CC Ee []=r:=
 bn (key:=38) (L:=cq) (bs:=[]) (by kernel_rfl) aw (bc (by kernel_rfl) h)
noncomputable def U5 (C:ag):Option (List V):=
 (C Ee []).bind fun r1=>
 (C D8 [.int .i64 ((V.nth r1 0).toInt),.int .i64 ((V.nth (r1.drop 1) 0).toInt),.list aa ((V.nth (r1.drop 2) 0).toList),.int .i64 2]).bind fun r2=>
 bif (((V.nth (r2.drop 2) 0).toInt):Int)==0 then
  bif ((((V.nth (r2.drop 3) 0).toList).length:Int):Int)==3 then
  bif decide (0<(((V.nth (r2.drop 3) 0).toList).length:Int)) then
   (((V.nth (r2.drop 3) 0).toList)[0]?).bind fun x3=>
   bif x3.toBool then
   bif decide (1<(((V.nth (r2.drop 3) 0).toList).length:Int)) then
    (((V.nth (r2.drop 3) 0).toList)[1]?).bind fun x4=>
    some [.bool (!x4.toBool)]
   else none
   else
   some [.bool false]
  else none
  else
  some [.bool false]
 else
  some [.bool false]
theorem ahb {r:Option (List V)} (h:U5 CC=r):CC D7 []=r:=
 bn (key:=13) (L:=cq) (bs:=[]) (by kernel_rfl) aw (bc (by kernel_rfl) h)
end Go.AM
set_option maxRecDepth 100000
namespace Go.AM
open Go.Proofs Ex
def ye:Ex:= .node 7 0 [.node 5 0 [.node 3 0 [],.node 3 1 []]]
theorem ahc:ye.Ok:=by
 refine .node (by omega) (by omega) (by unfold maxLen;simp) fun k hk=> ?_
 rw[eb.1 hk]
 refine .node (by omega) (by omega) (by unfold maxLen;simp) fun k hk=> ?_
 rcases dc.1 hk with rfl|hk
 ·exact .node (by omega) (by omega) (by simp) (by simp)
 ·rw[eb.1 hk]
  exact .node (by omega) (by omega) (by simp) (by simp)
theorem ahd:(BN ye 2).2=0∧(BN ye 2).1.F=[true,false,false]:=by decide+kernel
theorem ahe:CC D7 []=some [.bool true]:=by
 refine ahb ?_
 unfold U5
 have eW:CC Ee []=some (eO ye):=by
  refine aha ?_
  unfold U4 ye
  simp only[eO,Ex.op,Ex.ch,Ex.kids,cF,fM,dD]
 refine bs eW ?_
 refine bs (agZ ahc 2) ?_
 obtain ⟨h1,U⟩:=ahd
 generalize BN ye 2=p at h1 U
 obtain ⟨⟨L,F,N⟩,f⟩:=p
 simp only at h1 U
 subst h1 U
 rfl
end Go.AM
set_option maxRecDepth 100000
namespace Go.AM
open Go.Proofs
noncomputable def U6 (C:ag) (ah ar:Int) (ae:List V) (letters:Int):Option (List V):=
 (C D9 [.int .i64 ah,.int .i64 ar,.list aa ae,.int .i64 letters]).bind fun r1=>
 (C Ea [.int .i64 ah,.int .i64 ar,.list aa ae,.int .i64 letters]).bind fun r2=>
 bif (((V.nth (r1.drop 2) 0).toInt):Int)==((V.nth (r2.drop 2) 0).toInt) then
  (C Eb [.int .i64 ((V.nth r1 0).toInt),.list aa ((V.nth (r1.drop 3) 0).toList),.list cr ((V.nth ((r1.drop 3).drop 1) 0).toList),.int .i64 ((V.nth (r1.drop 1) 0).toInt),.int .i64 ((V.nth r2 0).toInt),.list aa ((V.nth (r2.drop 3) 0).toList),.list cr ((V.nth ((r2.drop 3).drop 1) 0).toList),.int .i64 ((V.nth (r2.drop 1) 0).toInt)]).bind fun r3=>
  bif (V.nth r3 0).toBool then
  (C D7 []).bind fun r4=>
  some [.bool ((V.nth r4 0).toBool)]
  else
  some [.bool false]
 else
  some [.bool false]
theorem ahf {ah ar:Int} {ae:List V} {letters:Int} {r:Option (List V)} (h:U6 CC ah ar ae letters=r):CC IG [.int .i64 ah,.int .i64 ar,.list aa ae,.int .i64 letters]=r:=
 bn (key:=5) (L:=cq) (bs:=[]) (by kernel_rfl) aw (bc (by kernel_rfl) h)
end Go.AM
set_option maxRecDepth 100000
namespace Go.AM
open Go.Proofs Ex
theorem ahg:Dv.zero.Ok:=⟨by simp[Dv.zero],by simp[Dv.zero],by simp[Dv.zero],by simp[Dv.zero]⟩
theorem ahh (e:Ex) (L:Int):(ya e L).1.Ok:=by
 unfold ya
 split
 ·next hv=>exact agU (Lv hv)
 ·exact ahg
theorem Vc (e:Ex) (h:e.Ok) (L:Int):CC IG (bN e [.int .i64 L])=some [.bool true]:=by
 refine ahf ?_
 unfold U6
 have hk:=ahh e L
 exact bs (agV h L) (bs (ag5 h L) (bT (beq_self_eq_true _) (bs (ag9 hk hk) (bT (eT rfl) (bs ahe rfl)))))
end Go.AM
set_option maxRecDepth 100000
namespace Go.AM
theorem WT.Vb {P:Program} {t:TypeId} {x:V} (hu:P.underlying t=some (.int .i64)) (h:WT P t x): ∃n:Int,x= .int .i64 n∧ -9223372036854775808≤n∧n≤9223372036854775807:=by
 obtain ⟨n,rfl,h1,U⟩:=h.dE hu
 have e1:IntKind.min .i64= -9223372036854775808:=by decide
 have e2:IntKind.max .i64=9223372036854775807:=by decide
 rw[e1] at h1
 rw[e2] at U
 exact ⟨n,rfl,h1,U⟩
theorem WT.HE {P:Program} {t:TypeId} {x:V} (hu:P.underlying t=some (.int .u8)) (h:WT P t x): ∃n:Int,x= .int .u8 n∧0≤n∧n≤255:=by
 obtain ⟨n,rfl,h1,U⟩:=h.dE hu
 have e1:IntKind.min .u8=0:=by decide
 have e2:IntKind.max .u8=255:=by decide
 rw[e1] at h1
 rw[e2] at U
 exact ⟨n,rfl,h1,U⟩
end Go.AM
