/-
  Functions of the program, lifted to plain data.
-/
import Derived.Test.YtppefogdkedaiaaP5
set_option linter.unusedVariables false
set_option linter.unusedSimpArgs false
set_option maxRecDepth 100000
namespace Go.AM
open Go.Proofs
noncomputable abbrev EM:Code:=cJ Try.prog (ay.aY 50)
noncomputable def EN (C:ag) (t24:Bool) (eF eb:Int) (dt:List V) (kD kE qy qz:Int) (qA:Bool) (adX JU adY adZ:Int) (pe fB jW EO:List V) {β:Type} (kr:(Int × Int × (List V))→Option β):Option β:=
 bif t24 then
  kr (adY,adZ,EO)
 else
  kr (adX,JU,jW)
noncomputable def RZ (C:ag):cy:=fun β n ds k=>
 bif Nat.beq n 399 then iA HT [[2,3,4,5,6,7,8,9,0,0,14,15,0]] (@EN C) ds k else
 none
abbrev ad0 (C:ag) (b:cu):Prop:=cv Try.prog ay C (RZ C) 50 (cM Try.prog (ay.aY 50)) (ay.sin 50).a8.length b
theorem ad1 (C:ag):ad0 C (.cond 24 (aw [1,1,0,1,0,1,1,1,0,0,1,0] EM) (aw [1,1,0,1,0,1,1,1,0,0,1,1] EM)):=
 iT HT [[2,3,4,5,6,7,8,9,0,0,14,15,0]] (@EN C) (by kernel_rfl) (bf (bs:=[]) (by kernel_rfl) av) (bf (bs:=[]) (by kernel_rfl) av) (fun ds=>by kernel_rfl) (fun i β k=>by kernel_rfl) (fun β ds k=>by kernel_rfl)
noncomputable def R0 (C:ag) (dK:Int) (dL:Bool) (ah ar:Int) (ae:List V):Option (List V):=
 bif (ah:Int)==2 then
  some [.int .i64 1,.int .i64 0,.list aa ([]:List V),.int .i64 2,.int .i64 0,.list aa ([]:List V),.bool true]
 else
  bif (ah:Int)==3 then
  EN C ((ar:Int)==dK) ah ar ae 0 0 0 0 false 1 0 2 0 ([]:List V) ([]:List V) ([]:List V) ([]:List V) (un fun (JU:Int)=>un fun (ad2:Int) (EP:List V)=>
   some [.int .i64 JU,.int .i64 ad2,.list aa EP,.int .i64 3,.int .i64 ar,.list aa ([]:List V),.bool false])
  else
  bif (ah:Int)==4 then
   bif (ah:Int)==4 then
   (C vQ [.int .i64 dK,.bool dL,.int .i64 ah,.int .i64 ar,.list aa ae]).bind fun r4=>
   some [.int .i64 ((V.nth r4 0).toInt),.int .i64 ((V.nth (r4.drop 1) 0).toInt),.list aa ((V.nth ((r4.drop 1).drop 1) 0).toList),.int .i64 ((V.nth (((r4.drop 1).drop 1).drop 1) 0).toInt),.int .i64 ((V.nth ((((r4.drop 1).drop 1).drop 1).drop 1) 0).toInt),.list aa ((V.nth (((((r4.drop 1).drop 1).drop 1).drop 1).drop 1) 0).toList),.bool ((V.nth ((((((r4.drop 1).drop 1).drop 1).drop 1).drop 1).drop 1) 0).toBool)]
   else
   bif (ah:Int)==7 then
    (ae[0]?).bind fun x5=>
    (C nV [.int .i64 dK,.bool dL,.int .i64 ((x5.cell 0).toInt),.int .i64 ((x5.cell 1).toInt),.list aa ((x5.cell 2).toList)]).bind fun r6=>
    (C jP [.int .i64 7,.list aa ([.agg [.int .i64 ((V.nth (((r6.drop 1).drop 1).drop 1) 0).toInt),.int .i64 ((V.nth ((((r6.drop 1).drop 1).drop 1).drop 1) 0).toInt),.list aa ((V.nth (((((r6.drop 1).drop 1).drop 1).drop 1).drop 1) 0).toList)]]:List V)]).bind fun r7=>
    (C jP [.int .i64 5,.list aa ([.agg [.int .i64 ((V.nth r6 0).toInt),.int .i64 ((V.nth (r6.drop 1) 0).toInt),.list aa ((V.nth ((r6.drop 1).drop 1) 0).toList)],.agg [.int .i64 ((V.nth r7 0).toInt),.int .i64 ((V.nth (r7.drop 1) 0).toInt),.list aa ((V.nth ((r7.drop 1).drop 1) 0).toList)]]:List V)]).bind fun r8=>
    some [.int .i64 ((V.nth r8 0).toInt),.int .i64 ((V.nth (r8.drop 1) 0).toInt),.list aa ((V.nth ((r8.drop 1).drop 1) 0).toList),.int .i64 ((V.nth r7 0).toInt),.int .i64 ((V.nth (r7.drop 1) 0).toInt),.list aa ((V.nth ((r7.drop 1).drop 1) 0).toList),.bool true]
   else
    bif (ah:Int)==5 then
    (C vR [.int .i64 dK,.bool dL,.int .i64 ah,.int .i64 ar,.list aa ae]).bind fun r9=>
    some [.int .i64 ((V.nth r9 0).toInt),.int .i64 ((V.nth (r9.drop 1) 0).toInt),.list aa ((V.nth ((r9.drop 1).drop 1) 0).toList),.int .i64 ((V.nth (((r9.drop 1).drop 1).drop 1) 0).toInt),.int .i64 ((V.nth ((((r9.drop 1).drop 1).drop 1).drop 1) 0).toInt),.list aa ((V.nth (((((r9.drop 1).drop 1).drop 1).drop 1).drop 1) 0).toList),.bool ((V.nth ((((((r9.drop 1).drop 1).drop 1).drop 1).drop 1).drop 1) 0).toBool)]
    else
    some [.int .i64 1,.int .i64 0,.list aa ([]:List V),.int .i64 1,.int .i64 0,.list aa ([]:List V),.bool false]
  else
   bif (ah:Int)==6 then
   bif (ah:Int)==6 then
    (C vQ [.int .i64 dK,.bool dL,.int .i64 ah,.int .i64 ar,.list aa ae]).bind fun dV=>
    some [.int .i64 ((V.nth dV 0).toInt),.int .i64 ((V.nth (dV.drop 1) 0).toInt),.list aa ((V.nth ((dV.drop 1).drop 1) 0).toList),.int .i64 ((V.nth (((dV.drop 1).drop 1).drop 1) 0).toInt),.int .i64 ((V.nth ((((dV.drop 1).drop 1).drop 1).drop 1) 0).toInt),.list aa ((V.nth (((((dV.drop 1).drop 1).drop 1).drop 1).drop 1) 0).toList),.bool ((V.nth ((((((dV.drop 1).drop 1).drop 1).drop 1).drop 1).drop 1) 0).toBool)]
   else
    bif (ah:Int)==7 then
    (ae[0]?).bind fun eI=>
    (C nV [.int .i64 dK,.bool dL,.int .i64 ((eI.cell 0).toInt),.int .i64 ((eI.cell 1).toInt),.list aa ((eI.cell 2).toList)]).bind fun fy=>
    (C jP [.int .i64 7,.list aa ([.agg [.int .i64 ((V.nth (((fy.drop 1).drop 1).drop 1) 0).toInt),.int .i64 ((V.nth ((((fy.drop 1).drop 1).drop 1).drop 1) 0).toInt),.list aa ((V.nth (((((fy.drop 1).drop 1).drop 1).drop 1).drop 1) 0).toList)]]:List V)]).bind fun gf=>
    (C jP [.int .i64 5,.list aa ([.agg [.int .i64 ((V.nth fy 0).toInt),.int .i64 ((V.nth (fy.drop 1) 0).toInt),.list aa ((V.nth ((fy.drop 1).drop 1) 0).toList)],.agg [.int .i64 ((V.nth gf 0).toInt),.int .i64 ((V.nth (gf.drop 1) 0).toInt),.list aa ((V.nth ((gf.drop 1).drop 1) 0).toList)]]:List V)]).bind fun kC=>
    some [.int .i64 ((V.nth kC 0).toInt),.int .i64 ((V.nth (kC.drop 1) 0).toInt),.list aa ((V.nth ((kC.drop 1).drop 1) 0).toList),.int .i64 ((V.nth gf 0).toInt),.int .i64 ((V.nth (gf.drop 1) 0).toInt),.list aa ((V.nth ((gf.drop 1).drop 1) 0).toList),.bool true]
    else
    bif (ah:Int)==5 then
     (C vR [.int .i64 dK,.bool dL,.int .i64 ah,.int .i64 ar,.list aa ae]).bind fun lk=>
     some [.int .i64 ((V.nth lk 0).toInt),.int .i64 ((V.nth (lk.drop 1) 0).toInt),.list aa ((V.nth ((lk.drop 1).drop 1) 0).toList),.int .i64 ((V.nth (((lk.drop 1).drop 1).drop 1) 0).toInt),.int .i64 ((V.nth ((((lk.drop 1).drop 1).drop 1).drop 1) 0).toInt),.list aa ((V.nth (((((lk.drop 1).drop 1).drop 1).drop 1).drop 1) 0).toList),.bool ((V.nth ((((((lk.drop 1).drop 1).drop 1).drop 1).drop 1).drop 1) 0).toBool)]
    else
     some [.int .i64 1,.int .i64 0,.list aa ([]:List V),.int .i64 1,.int .i64 0,.list aa ([]:List V),.bool false]
   else
   bif (ah:Int)==8 then
    (C vQ [.int .i64 dK,.bool dL,.int .i64 ah,.int .i64 ar,.list aa ae]).bind fun kB=>
    some [.int .i64 ((V.nth kB 0).toInt),.int .i64 ((V.nth (kB.drop 1) 0).toInt),.list aa ((V.nth ((kB.drop 1).drop 1) 0).toList),.int .i64 ((V.nth (((kB.drop 1).drop 1).drop 1) 0).toInt),.int .i64 ((V.nth ((((kB.drop 1).drop 1).drop 1).drop 1) 0).toInt),.list aa ((V.nth (((((kB.drop 1).drop 1).drop 1).drop 1).drop 1) 0).toList),.bool ((V.nth ((((((kB.drop 1).drop 1).drop 1).drop 1).drop 1).drop 1) 0).toBool)]
   else
    bif (ah:Int)==7 then
    (ae[0]?).bind fun qq=>
    (C nV [.int .i64 dK,.bool dL,.int .i64 ((qq.cell 0).toInt),.int .i64 ((qq.cell 1).toInt),.list aa ((qq.cell 2).toList)]).bind fun iF=>
    (C jP [.int .i64 7,.list aa ([.agg [.int .i64 ((V.nth (((iF.drop 1).drop 1).drop 1) 0).toInt),.int .i64 ((V.nth ((((iF.drop 1).drop 1).drop 1).drop 1) 0).toInt),.list aa ((V.nth (((((iF.drop 1).drop 1).drop 1).drop 1).drop 1) 0).toList)]]:List V)]).bind fun er=>
    (C jP [.int .i64 5,.list aa ([.agg [.int .i64 ((V.nth iF 0).toInt),.int .i64 ((V.nth (iF.drop 1) 0).toInt),.list aa ((V.nth ((iF.drop 1).drop 1) 0).toList)],.agg [.int .i64 ((V.nth er 0).toInt),.int .i64 ((V.nth (er.drop 1) 0).toInt),.list aa ((V.nth ((er.drop 1).drop 1) 0).toList)]]:List V)]).bind fun iZ=>
    some [.int .i64 ((V.nth iZ 0).toInt),.int .i64 ((V.nth (iZ.drop 1) 0).toInt),.list aa ((V.nth ((iZ.drop 1).drop 1) 0).toList),.int .i64 ((V.nth er 0).toInt),.int .i64 ((V.nth (er.drop 1) 0).toInt),.list aa ((V.nth ((er.drop 1).drop 1) 0).toList),.bool true]
    else
    bif (ah:Int)==5 then
     (C vR [.int .i64 dK,.bool dL,.int .i64 ah,.int .i64 ar,.list aa ae]).bind fun oh=>
     some [.int .i64 ((V.nth oh 0).toInt),.int .i64 ((V.nth (oh.drop 1) 0).toInt),.list aa ((V.nth ((oh.drop 1).drop 1) 0).toList),.int .i64 ((V.nth (((oh.drop 1).drop 1).drop 1) 0).toInt),.int .i64 ((V.nth ((((oh.drop 1).drop 1).drop 1).drop 1) 0).toInt),.list aa ((V.nth (((((oh.drop 1).drop 1).drop 1).drop 1).drop 1) 0).toList),.bool ((V.nth ((((((oh.drop 1).drop 1).drop 1).drop 1).drop 1).drop 1) 0).toBool)]
    else
     some [.int .i64 1,.int .i64 0,.list aa ([]:List V),.int .i64 1,.int .i64 0,.list aa ([]:List V),.bool false]
theorem ad3 {dK:Int} {dL:Bool} {ah ar:Int} {ae:List V} {r:Option (List V)} (h:R0 CC dK dL ah ar ae=r):CC nV [.int .i64 dK,.bool dL,.int .i64 ah,.int .i64 ar,.list aa ae]=r:=
 a9 (key:=50) (L:=RZ CC) (bs:=[.cond 24 (aw [1,1,0,1,0,1,1,1,0,0,1,0] EM) (aw [1,1,0,1,0,1,1,1,0,0,1,1] EM)]) (by kernel_rfl) (bG (ad1 CC) av) (aW (by kernel_rfl) h)
end Go.AM
set_option maxRecDepth 100000
namespace Go.AM
open Go.Proofs Ex
def qB (c:Int) (e:Ex):List V:=bJ (aL (bZ c e)) (bJ (aL e) [.bool e.cY])
abbrev zE:V:= .agg [.int .i64 0,.int .i64 0,.list aa ([]:List V)]
theorem rV {α:Type} {A:List V} {n:Nat} {z:V} {i:Nat} (h:i=A.length) {K:V→Option α}:(bif (decide (0≤(i:Int)))&&(decide ((i:Int)<((A++List.replicate (n+1) z).length:Int))) then ((A++List.replicate (n+1) z)[((i:Int)).toNat]?).bind K else none)=K z:=by
 refine rS ?_
 rw[h,gK (b6 _)]
 simp
theorem rW {A:List V} {n:Nat} {z v:V} {i:Nat} (h:i=A.length):(A++List.replicate (n+1) z).set i v=A++[v]++List.replicate n z:=by
 rw[List.replicate_succ,RG _ _ _ _ h]
theorem ad4 (a:Ex):V.agg [.int .i64 a.op,.int .i64 a.cl,.list aa (a.kids.map enc)]=a.enc:=(et a).symm
theorem JV {c:Int} {e:Ex} (hw:e.wf 6=true):(aL (bZ c e)).size≤e.size*e.size:=
 lu (zN _ (ui e hw)) (RP e 6 hw)
theorem ER {a m:Nat} (h:a≤m):a*a≤m*m:=Nat.mul_le_mul h h
theorem R3 {e:Ex} (hw:e.wf 6=true) (hs:e.size≤1000000):Gd 6 (aL e)∧(aL e).Ok∧(aL e).size≤e.size:=by
 have h1:=l7 e hw
 have U:=zN e hw
 exact ⟨h1,rI (by omega) _ h1.2 (by omega),U⟩
def mf (c:Int):List Ex→List Ex
 | []=>[]
 | k::ks=>aL (bZ c k)::(if k.cY=true then mf c ks else [])
def AD (ss:List Ex):Nat→List Ex→List Ex
 | _,[]=>[]
 | i,d::ds=>(if d.op=1 then d else dw 5 0 (d::ss.drop (i+1)))::AD ss (i+1) ds
theorem R4 {c:Int}: ∀(ks pre:List Ex),AD ((pre++ks).map aL) pre.length (mf c ks)=rT c ks
 | [],pre=>rfl
 | k::ks,pre=>by
  have ih:=R4 (c:=c) ks (pre++[k])
  have e1:((pre++k::ks).map aL).drop (pre.length+1)=ks.map aL:=by
   rw[fP,cG,show pre.length+1=(pre.map aL++[aL k]).length by simp,show pre.map aL++aL k::ks.map aL=(pre.map aL++[aL k])++ks.map aL by simp,List.drop_left]
  unfold mf rT AD EG
  rw[e1]
  refine congrArg _ ?_
  split
  ·rw[←ih];simp
  ·rfl
theorem R5 {c:Int}: ∀ks:List Ex,(mf c ks).length≤ks.length
 | []=>b6 _
 | k::ks=>by
  have:=R5 (c:=c) ks
  unfold mf
  split<;>simp<;>omega
theorem R6 {c:Int}: ∀{ks:List Ex} {d:Ex},d∈mf c ks→∃k∈ks,d=aL (bZ c k)
 | k::ks,d,h=>by
  unfold mf at h
  rcases cX.1 h with rfl|h
  ·exact ⟨k,by simp,rfl⟩
  ·split at h
   ·obtain ⟨x,hx,e⟩:=R6 h
    exact ⟨x,by simp[hx],e⟩
   ·cases h
theorem JW: ∀{ks:List Ex},(∀k∈ks,k.wf 6=true)→aK (ks.map aL)≤aK ks
 | [],_=>by simp[aK]
 | k::ks,h=>by
  have a:=zN k (h k (by simp))
  have b:=JW (ks:=ks) fun k hk=>h k (by simp[hk])
  simp only[cG,aK];omega
theorem JX {ks:List Ex} {f:Ex→Ex} (h: ∀k∈ks,Gd 6 (f k)∧(f k).Ok):(∀k∈ks.map f,Gd 6 k)∧∀k∈ks.map f,k.Ok:=
 ⟨fun x hx=>by obtain ⟨k,hk,rfl⟩:=gj.1 hx;exact (h k hk).1,fun x hx=>by obtain ⟨k,hk,rfl⟩:=gj.1 hx;exact (h k hk).2⟩
theorem JY {n:Nat} (h:n≤1000000):Nat.ble (n*40) cB=true:=by rw[dC,qn];omega
theorem ES {n:Nat} (h:n≤1000000):((decide (0≤(n:Int)))&&((decide ((n:Int)≤(n:Int)))&&(Nat.ble (((n:Int).toNat)*40) cB)))=true:=adF (by omega) (by omega)
def kF (ks:List Ex):Nat:=(ks.filter Ex.cY).length
section
variable {c:Int} {nm:Bool} {ks:List Ex}
variable (hn:ks.length≤1000) (ih: ∀k∈ks,CC nV (.int .i64 c:: .bool nm::bJ k [])=some (qB c k))
include hn ih
theorem ad5 {a b c1 c2 c3 c4:Int} {b1:Bool} {l1 l2 l3:List V}: ∀(aG pre:List Ex),ks=pre++aG→
  Loop (EH CC (ks.map enc) (ks.length:Int) c nm a b l1 c1 c2 c3 c4 b1 l2 l3) (((kF pre:Nat):Int),((pre.length:Nat):Int),(pre.map fun k=>aL (bZ c k)).map enc++List.replicate aG.length zE,(pre.map aL).map enc++List.replicate aG.length zE)
   = some (((kF ks:Nat):Int),(ks.length:Int),false,(ks.map fun k=>aL (bZ c k)).map enc,(ks.map aL).map enc):=by
 intro aG
 induction aG with
 | nil=>
  intro pre e
  rw[dz] at e
  subst e
  refine bc ?_
  simp only[EH,Ay,un]
  rw[aA,ai (by omega),cQ (by omega)]
  simp
 | cons k aG eU=>
  intro pre e
  have bK:pre.length<ks.length:=by rw[e];simp
  have bX:idx (ks.map enc) (pre.length:Int)=some k.enc:=by rw[e];exact iU _ _ _
  refine (bS ?_).trans (eU (pre++[k]) (by simp[e]))
  simp only[EH,Ay,un]
  refine bT (uh bK) (bs bX ?_)
  rw[bq,br,bt]
  refine bs (ih k (by rw[e];simp)) ?_
  refine (rV (by simp)).trans ?_
  refine (rV (by simp)).trans ?_
  rw[Int.toNat_natCast]
  have hc:kF (pre++[k])=kF pre+(if k.cY=true then 1 else 0):=by
   unfold kF
   rw[mo,b8]
   cases hk:k.cY<;>simp[hk]
  have ki:kF pre≤pre.length:=sh _ _
  have uP:pre.length=((pre.map fun k=>aL (bZ c k)).map enc).length:=by simp
  have jy:pre.length=((pre.map aL).map enc).length:=by simp
  rw[List.length_cons,rW uP,rW jy]
  cases hk:k.cY with
  | true=>
   refine bT hk ?_
   rw[om (by omega),om (by omega),hc,hk]
   simp only[db,fP,cG,gl,b8,List.length_cons,List.length_nil]
   rw[et (aL (bZ c k)),et (aL k)]
   rfl
  | false=>
   refine bF hk ?_
   rw[om (by omega),hc,hk]
   simp only[ai Bool.false_ne_true,fP,cG,gl,b8,List.length_cons,List.length_nil]
   rw[et (aL (bZ c k)),et (aL k)]
   rfl
theorem ad6 {c1 c2 c3 c4:Int} {b1:Bool} {l1 l2:List V} (hs: ∀k∈ks,CC zb (.int .i64 c:: .bool nm::bJ k [])=some (gZ (aL k))): ∀(aG pre B:List Ex) (b:Bool),ks=pre++aG→B.length≤pre.length→
  Loop (AA CC (ks.map enc) (ks.length:Int) c nm c1 c2 c3 c4 b1 l1 l2) (b,((pre.length:Nat):Int),B.map enc,(pre.map aL).map enc++List.replicate aG.length zE)
   = some (b&&aG.all Ex.cY,(ks.length:Int),false,(B++(if b=true then mf c aG else [])).map enc,(ks.map aL).map enc):=by
 intro aG
 induction aG with
 | nil=>
  intro pre B b e hB
  rw[dz] at e
  subst e
  refine bc ?_
  simp only[AA,xb,un]
  rw[aA,ai (by omega),cQ (by omega)]
  simp[mf]
 | cons k aG eU=>
  intro pre B b e hB
  have bK:pre.length<ks.length:=by rw[e];simp
  have bX:idx (ks.map enc) (pre.length:Int)=some k.enc:=by rw[e];exact iU _ _ _
  have jy:pre.length=((pre.map aL).map enc).length:=by simp
  cases b with
  | false=>
   refine (bS ?_).trans (eU (pre++[k]) B false (by simp[e]) (by simp;omega))
   simp only[AA,xb,un]
   refine bT (uh bK) (bs bX (bT rfl ?_))
   rw[bq,br,bt]
   refine bs (hs k (by rw[e];simp)) ?_
   refine (rV (by simp)).trans ?_
   rw[Int.toNat_natCast,List.length_cons,rW jy,om (by omega)]
   simp only[fP,cG,gl,b8,List.length_cons,List.length_nil]
   rw[et (aL k)]
   rfl
  | true=>
   refine ((bS ?_).trans (eU (pre++[k]) (B++[aL (bZ c k)]) k.cY (by simp[e]) (by simp;omega))).trans ?_
   ·simp only[AA,xb,un]
    refine bT (uh bK) (bs bX (bF rfl ?_))
    rw[bq,br,bt]
    refine bs (ih k (by rw[e];simp)) ?_
    refine bT (JY (by simp;omega)) ?_
    refine (rV (by simp)).trans ?_
    rw[Int.toNat_natCast,List.length_cons,rW jy,om (by omega)]
    simp only[fP,cG,gl,b8,List.length_cons,List.length_nil]
    rw[et (aL k),et (aL (bZ c k))]
    rfl
   ·simp only[ml,List.all_cons,db]
    rw[show mf c (k::aG)=aL (bZ c k)::(if k.cY=true then mf c aG else []) from rfl,ca]
    rfl
end
theorem ad7 {ss D:List Ex} {b b1:Bool} {c1 c2 c3 c4:Int} {l1 l2:List V} (hD:D.length≤ss.length) (hss:ss.length≤1000) (hd: ∀d∈D,Gd 6 d∧d.Ok∧d.size≤500000) (hsg: ∀k∈ss,Gd 6 k∧k.Ok) (aR:aK ss≤500000): ∀(aG pre P:List Ex),D=pre++aG→P.length=pre.length→
  Loop (EL CC b (D.length:Int) c1 c2 c3 c4 b1 (ss.map enc) (D.map enc) l1 l2) (((pre.length:Nat):Int),P.map enc++List.replicate aG.length zE)
   = some ((D.length:Int),false,(P++AD ss pre.length aG).map enc):=by
 intro aG
 induction aG with
 | nil=>
  intro pre P e hP
  rw[dz] at e
  subst e
  refine bc ?_
  simp only[EL,AB,un]
  rw[aA,ai (by omega),cQ (by omega)]
  simp[AD]
 | cons d aG eU=>
  intro pre P e hP
  have bK:pre.length<D.length:=by rw[e];simp
  have hm:d∈D:=by rw[e];simp
  have bX:(D.map enc)[pre.length]? =some d.enc:=by rw[e];simp
  have jy:pre.length=(P.map enc).length:=by simp[hP]
  refine ((bS ?_).trans (eU (pre++[d]) (P++[if d.op=1 then d else dw 5 0 (d::ss.drop (pre.length+1))]) (by simp[e]) (by simp[hP]))).trans ?_
  ·simp only[EL,AB,un]
   refine bT (uh bK) ?_
   refine (rS bX).trans ?_
   rw[bq,br,bt,eS]
   by_cases h1:d.op=1
   ·rw[aj h1,aj h1]
    refine (rV jy).trans ?_
    rw[Int.toNat_natCast,List.length_cons,rW jy,om (by omega)]
    simp only[fP,cG,gl,b8,List.length_cons,List.length_nil]
    rw[et d]
   ·rw[ai h1,ai h1,om (by omega),Int.toNat_natCast,bm]
    refine bT (uy.2 ⟨ef (by omega),ef (by omega)⟩) ?_
    have ht:((ss.map enc).drop (pre.length+1)).take (ss.length-(pre.length+1))=(ss.drop (pre.length+1)).map enc:=by
     rw[←List.map_drop,List.take_of_length_le (by simp)]
    rw[ht]
    refine bT (JY (by simp;omega)) ?_
    have hg: ∀k∈d::ss.drop (pre.length+1),Gd 6 k∧k.Ok:=fun k hk=>by
     rcases cX.1 hk with rfl|hk
     ·exact ⟨(hd _ hm).1,(hd _ hm).2.1⟩
     ·exact hsg k (List.mem_of_mem_drop hk)
    have hz:aK (d::ss.drop (pre.length+1))≤1000000:=by
     have h1:=(hd d hm).2.2
     have U:=D5 (ss.take (pre.length+1)) (ss.drop (pre.length+1))
     rw[Bd] at U
     simp only[aK];omega
    rw[JQ,←fP]
    refine bs (qx (o:=5) (fun k hk=>(hg k hk).1) (fun k hk=>(hg k hk).2) hz (by omega)) ?_
    refine (rV jy).trans ?_
    rw[Int.toNat_natCast,List.length_cons,rW jy]
    simp only[fP,cG,gl,b8,List.length_cons,List.length_nil]
    rw[et (dw 5 0 (d::ss.drop (pre.length+1)))]
    rfl
  ·rw[b8,ca]
   rfl
theorem R7: ∀ks:List Ex,oa ks=ks.all Ex.cY
 | []=>rfl
 | k::ks=>by simp[oa,R7 ks]
theorem R8: ∀ks:List Ex,lY ks=decide ((kF ks:Int)>0)
 | []=>by simp[lY,kF]
 | k::ks=>by
  have:=R8 ks
  unfold kF at*
  cases hk:k.cY
  ·simp[lY,hk,this]
  ·simp[lY,hk]
theorem R9: ∀ks:List Ex,oa ks=((kF ks:Int)==(ks.length:Int))
 | []=>by simp[oa,kF]
 | k::ks=>by
  have h:=R9 ks
  have hl:kF ks≤ks.length:=sh _ _
  unfold kF at*
  rw[oa,h,ow]
  cases hk:k.cY
  ·simp[hk];omega
  ·simp[hk]
theorem ad8 {c:Int} {nm:Bool}: ∀e:Ex,e.wf 6=true→e.size≤400→(nm=true→Gd 6 e)→CC nV (.int .i64 c:: .bool nm::bJ e [])=some (qB c e):=
 ind fun o l ks ih hw hs kK=>by
  obtain ⟨h1,U⟩:=g9 hw
  have hl:=o7 ks
  have Sa:aK ks≤399:=by simp only[size] at hs;omega
  have ET: ∀k∈ks,k.size≤399:=fun k hk=>lu (zJ hk) Sa
  have kh: ∀k∈ks,CC nV (.int .i64 c:: .bool nm::bJ k [])=some (qB c k):=fun k hk=>ih k hk (U k hk) (by have:=ET k hk;omega) fun h=>(kK h).kids k hk
  have hsm: ∀k∈ks,CC zb (.int .i64 c:: .bool nm::bJ k [])=some (gZ (aL k)):=fun k hk=>by
   refine adN ?_
   unfold RQ
   cases nm with
   | true=>refine bT rfl ?_;rw[PX k ((kK rfl).kids k hk)];rfl
   | false=>
    refine bF rfl ?_
    have:=ET k hk
    exact bs (RH (n:=6) (by omega) k (U k hk) (by omega)) rfl
  have dA: ∀k∈ks,(aL (bZ c k)).size≤160000:=fun k hk=>by
   have a:=JV (c:=c) (U k hk)
   have b:=ER (ET k hk)
   omega
  have AE: ∀k∈ks,Gd 6 (aL (bZ c k))∧(aL (bZ c k)).Ok:=fun k hk=>by
   have a:=l7 _ (ui (c:=c) k (U k hk))
   have b:=dA k hk
   exact ⟨a,rI (by omega) _ a.2 (by omega)⟩
  have EU: ∀k∈ks,Gd 6 (aL k)∧(aL k).Ok:=fun k hk=>by
   have a:=R3 (U k hk) (by have:=ET k hk;omega)
   exact ⟨a.1,a.2.1⟩
  have hnz:=JW U
  have hbz:aK (ks.map fun k=>aL (bZ c k))≤160000:=by
   have a:=JR (f:=fun k=>aL (bZ c k)) fun k hk=>JV (c:=c) (U k hk)
   have b:=ER Sa
   omega
  have JZ:(o=4∨o=6∨o=8)→CC vQ (.int .i64 c:: .bool nm::bJ (.node o l ks) [])=some (qB c (.node o l ks)):=fun ho=>by
   obtain ⟨a1,a2⟩:=JX AE
   obtain ⟨b1,b2⟩:=JX EU
   have jh:l=0:=by rcases eG h1 with h|h<;>omega
   refine adS ?_
   unfold RT
   simp only[Ex.op,Ex.kids,Ex.cl,bm]
   refine bT (ES (by omega)) (bT (ES (by omega)) ?_)
   have J0:=ad5 (ks:=ks) (nm:=nm) (c:=c) (by omega) kh (a:=o) (b:=l) (c1:=0) (c2:=0) (c3:=0) (c4:=0) (b1:=false) (l1:=ks.map enc) (l2:=[]) (l3:=[]) ks [] rfl
   rw[Int.toNat_natCast]
   refine bs J0 ?_
   unfold qB
   rw[adJ ho,lZ,jh]
   rcases ho with rfl|rfl|rfl
   ·refine bs (qx a1 a2 (by omega) (.inl rfl)) ?_
    refine bs (qx b1 b2 (by omega) (.inl rfl)) ?_
    refine bT rfl ?_
    rw[←R8]
    rfl
   ·refine bs (qx a1 a2 (by omega) (.inr (.inr rfl))) ?_
    refine bs (qx b1 b2 (by omega) (.inr (.inr rfl))) ?_
    refine bF rfl (bT rfl ?_)
    rw[←R9]
    rfl
   ·obtain ⟨k,rfl⟩:=xy.1 (show ks.length=1 by rcases eG h1 with h|h<;>omega)
    refine bs (ED (AE k (by simp)).1 (.inr rfl)) ?_
    refine bs (ED (EU k (by simp)).1 (.inr rfl)) ?_
    refine bF rfl (bF rfl (bT rfl ?_))
    refine congrArg some ?_
    have:(((kF [k]:Nat):Int)==0)=(Ex.node 8 0 [k]).cY:=by
     simp only[Ex.cY,kF]
     cases hk:k.cY<;>simp[hk,lY]
    rw[this]
    rfl
  have ad9:o=5→CC vR (.int .i64 c:: .bool nm::bJ (.node o l ks) [])=some (qB c (.node o l ks)):=fun ho=>by
   subst ho
   have bw:ks≠[]:=by rintro rfl;rcases eG h1 with h|h<;>simp at h<;>omega
   have jh:l=0:=by rcases eG h1 with h|h<;>omega
   obtain ⟨b1,b2⟩:=JX EU
   have hD:=R5 (c:=c) ks
   refine adW ?_
   unfold RW
   simp only[Ex.op,Ex.kids,Ex.cl,bm]
   refine bT (ES (by omega)) ?_
   rw[Int.toNat_natCast]
   have J0:=ad6 (ks:=ks) (nm:=nm) (c:=c) (by omega) kh (c1:=0) (c2:=0) (c3:=0) (c4:=0) (b1:=false) (l1:=[]) (l2:=[]) hsm ks [] [] true rfl (b6 _)
   refine bs J0 ?_
   simp only[un,List.nil_append,db,ml,bm]
   refine bT (ES (by omega)) ?_
   rw[Int.toNat_natCast]
   have bK:=ad7 (ss:=ks.map aL) (D:=mf c ks) (b:=ks.all Ex.cY) (c1:=0) (c2:=0) (c3:=0) (c4:=0) (b1:=false) (l1:=[]) (l2:=[]) (by simp;omega) (by simp;omega) (fun d hd=>by
    obtain ⟨k,hk,rfl⟩:=R6 hd
    have:=dA k hk
    exact ⟨(AE k hk).1,(AE k hk).2,by omega⟩) (fun k hk=>⟨b1 k hk,b2 k hk⟩) (by omega) (mf c ks) [] [] rfl rfl
   have he:=R4 (c:=c) ks []
   rw[List.nil_append] at he
   rw[List.length_nil] at bK he
   rw[he] at bK
   refine bs bK ?_
   simp only[un,List.nil_append]
   have uU:=parts_eq (c:=c) U
   have Sb:=EF (c:=c) U fun k hk=>ui k (U k hk)
   have hcz:aK (iH c ks)≤160000:=by
    have a:=JS (c:=c) (ks:=ks) fun k hk=>RP k 6 (U k hk)
    have b:=ER (show 1+aK ks≤400 by omega)
    omega
   have hpz:aK (rT c ks)≤160000:=by rw[uU];have:=JW Sb;omega
   have Sd: ∀k∈rT c ks,Gd 6 k∧k.Ok:=fun k hk=>by
    have hz:=zJ hk
    rw[uU] at hk
    obtain ⟨x,hx,rfl⟩:=gj.1 hk
    have a:=l7 x (Sb x hx)
    exact ⟨a,rI (by omega) _ a.2 (by omega)⟩
   refine bs (qx (fun k hk=>(Sd k hk).1) (fun k hk=>(Sd k hk).2) (by omega) (.inl rfl)) ?_
   refine bs (qx b1 b2 (by omega) (.inr (.inl rfl))) ?_
   unfold qB
   rw[adM bw U,lZ,jh,←R7]
   rfl
  refine ad3 ?_
  unfold R0 EN
  simp only[Ex.op,Ex.kids,Ex.cl]
  rcases eG h1 with ⟨rfl,h⟩|⟨rfl,⟨rfl,h⟩|⟨rfl,h⟩|⟨rfl,h⟩|⟨rfl,h⟩|⟨rfl,h⟩|⟨rfl,h⟩|⟨rfl,h⟩⟩
  ·obtain rfl:=pr.1 (show ks.length=0 by omega)
   refine bF rfl (bT rfl ?_)
   unfold qB
   rw[w9,aj rfl,lZ,lj (by omega)]
   rw[eS]
   by_cases vq:l=c
   ·rw[aj vq,aj vq];rfl
   ·rw[ai vq,ai vq];rfl
  ·obtain rfl:=pr.1 (show ks.length=0 by omega)
   rfl
  ·obtain rfl:=pr.1 (show ks.length=0 by omega)
   rfl
  ·exact bF rfl (bF rfl (bT rfl (bT rfl (bs (JZ (.inl rfl)) rfl))))
  ·refine bF rfl (bF rfl (bF rfl (bF rfl (bF rfl (bF rfl (bT rfl ?_))))))
   exact bs (ad9 rfl) rfl
  ·exact bF rfl (bF rfl (bF rfl (bT rfl (bT rfl (bs (JZ (.inr (.inl rfl))) rfl)))))
  ·obtain ⟨k,rfl⟩:=xy.1 (show ks.length=1 by omega)
   refine bF rfl (bF rfl (bF rfl (bF rfl (bF rfl (bT rfl ?_)))))
   refine bs (a:=k.enc) rfl ?_
   rw[bq,br,bt]
   refine bs (kh k (by simp)) ?_
   have hk:=EU k (by simp)
   have hb:=AE k (by simp)
   have hj:=ED hk.1 (o:=7) (.inl rfl)
   rw[cG,gl,et] at hj
   refine bs hj ?_
   have pV:dw 7 0 [aL k]=aL (.node 7 0 [k]):=by rw[lZ];rfl
   have J1:=R3 hw (by omega)
   have OM:=dA k (by simp)
   have fH:=qx (n:=6) (ks:=[aL (bZ c k),aL (.node 7 0 [k])]) (o:=5) (fun x hx=>by
    rcases cX.1 hx with rfl|hx
    ·exact hb.1
    ·rw[dW.1 hx];exact J1.1) (fun x hx=>by
    rcases cX.1 hx with rfl|hx
    ·exact hb.2
    ·rw[dW.1 hx];exact J1.2.1) (by have:=J1.2.2;simp only[aK];omega) (by omega)
   rw[cG,cG,gl,et (aL (bZ c k)),et (aL (.node 7 0 [k])),←pV] at fH
   refine bs fH ?_
   unfold qB
   rw[adK,←pV]
   rfl
  ·exact bF rfl (bF rfl (bF rfl (bF rfl (bT rfl (bs (JZ (.inr (.inr rfl))) rfl)))))
structure Dv where
 L:Int
 es:List Ex
 nx:List (List Int)
 dn:Int
deriving DecidableEq
def Dv.zero:Dv:=⟨0,[],[],0⟩
def kG (e:Ex) (c:Nat):Option Ex:=if (aL (bZ c e)).val 6=0 then some (aL (bZ c e)) else none
def nh (e:Ex):Nat→Nat→List Ex→List Int→Option (List Ex × List Int)
 | 0,_,es,row=>some (es,row)
 | n+1,x,es,row=>(kG e x).bind fun d=>
  if d∈es then nh e n (x+1) es (row++[(es.idxOf d:Int)])
  else if es.length=512 then none else nh e n (x+1) (es++[d]) (row++[(es.length:Int)])
def proc (s:Dv):Option Dv:=(nh (s.es.getD s.dn.toNat ba) s.L.toNat 0 s.es []).map fun p=>⟨s.L,p.1,s.nx++[p.2],s.dn+1⟩
def rX:Nat→Dv→Option Dv
 | 0,s=>some s
 | n+1,s=>if s.dn<s.es.length then (proc s).bind (rX n) else some s
def qC (e:Ex) (L:Int):Dv:=⟨L,[aL e],[],0⟩
theorem Se {L:Int} (h:L≤6): ∀e:Ex,e.wf L=true→e.wf 6=true:=ind fun o l ks ih hw=>by
 obtain ⟨h1,U⟩:=g9 hw
 refine tI ?_ fun k hk=>ih k hk (U k hk)
 unfold dv at h1⊢
 by_cases ho:o=3
 ·rw[aj ho] at h1⊢
  have:=lr h1
  exact ef (by omega)
 ·rw[ai ho] at h1⊢;exact h1
theorem J2 {e:Ex} {L:Int} (h:e.val L=0):(1≤L∧L≤6)∧e.depth≤40∧e.size≤400∧e.wf L=true:=by
 unfold Ex.val at h
 repeat' split at h
 all_goals first|omega|skip
 next a b c=>exact ⟨a,b.1,b.2,c⟩
theorem val_mk {e:Ex} {L:Int} (h:(1≤L∧L≤6)∧e.depth≤40∧e.size≤400∧e.wf L=true):e.val L=0:=by
 unfold Ex.val
 rw[aj h.1,aj ⟨h.2.1,h.2.2.1⟩,aj h.2.2.2]
theorem EV {e:Ex} {L:Int} (h:e.val L=0):e.val 6=0:=by
 obtain ⟨h1,U,h3,h4⟩:=J2 h
 exact val_mk ⟨by omega,U,h3,Se h1.2 e h4⟩
theorem J3 {e:Ex} {L:Int} (h:e.val L=0):(aL e).val L=0:=by
 obtain ⟨h1,U,h3,h4⟩:=J2 h
 have:=zN e h4
 have:=aaZ e h4
 exact val_mk ⟨h1,by omega,by omega,(l7 e h4).2⟩
def Nv (e:Ex):Prop:=Gd 6 e∧e.val 6=0
theorem Nv.aL {e:Ex} (h:Nv e):aL e=e:=PX e h.1
theorem EW {e d:Ex} {c:Nat} (he:Nv e) (h:kG e c=some d):Nv d∧d=Go.AM.aL (bZ c e):=by
 unfold kG at h
 split at h
 ·next hv=>
  cases h
  exact ⟨⟨l7 _ (ui e he.1.2),hv⟩,rfl⟩
 ·cases h
structure Es (es:List Ex):Prop where
 le:es.length≤512
 nv: ∀e∈es,Nv e
 nd:es.Nodup
def pf (e:Ex) (es:List Ex) (n:Nat) (row:List Int):Prop:=row.length=n∧∀x,x<n→∃j:Nat,row.getD x 0=j∧j<es.length∧kG e x=some (es.getD j ba)
theorem pf.mono {e:Ex} {es t:List Ex} {n:Nat} {row:List Int} (h:pf e es n row):pf e (es++t) n row:=⟨h.1,fun x hx=>by
 obtain ⟨j,h1,U,h3⟩:=h.2 x hx
 refine ⟨j,h1,by rw[b8];omega,?_⟩
 rw[h3,hX,hX,hU U]⟩
theorem pf.snoc {e:Ex} {es:List Ex} {n j:Nat} {row:List Int} (h:pf e es n row) (h1:j<es.length) (U:kG e n=some (es.getD j ba)):pf e es (n+1) (row++[(j:Int)]):=by
 refine ⟨by rw[b8,h.1];rfl,fun x hx=> ?_⟩
 rcases ou x n with c|c
 ·obtain ⟨i,i1,i2,i3⟩:=h.2 x c
  refine ⟨i,?_,i2,i3⟩
  rw[←i1,hX,hX,hU (by rw[h.1];exact c)]
 ·obtain rfl:x=n:=by omega
  refine ⟨j,?_,h1,U⟩
  rw[hX,gK (by rw[h.1];exact b6 _),h.1]
  simp
theorem Es.snoc {es:List Ex} {d:Ex} (h:Es es) (hd:Nv d) (hn:d∉es) (hl:es.length≠512):Es (es++[d]):=by
 refine ⟨by have:=h.le;simp;omega,fun e he=> ?_,?_⟩
 ·rcases eh.1 he with he|he
  ·exact h.nv e he
  ·rw[dW.1 he];exact hd
 ·rw[Bf]
  refine ⟨h.nd,by simp,fun a ha b hb=> ?_⟩
  rw[dW.1 hb]
  rintro rfl
  exact hn ha
theorem aea {es:List Ex} {d:Ex} (h:d∈es):es.getD (es.idxOf d) ba=d:=by
 have:=List.idxOf_lt_length_iff.2 h
 rw[hX,bE this,Option.getD_some,List.getElem_idxOf]
theorem J4 {e:Ex} (he:Nv e): ∀(n x:Nat) (es:List Ex) (row:List Int) (p:List Ex × List Int),Es es→pf e es x row→nh e n x es row=some p→Es p.1∧pf e p.1 (x+n) p.2∧∃t,p.1=es++t
 | 0,x,es,row,p,h1,U,h=>by
  cases h
  exact ⟨h1,U,[],by simp⟩
 | n+1,x,es,row,p,h1,U,h=>by
  rw[nh] at h
  cases hs:kG e x with
  | none=>rw[hs] at h;cases h
  | some d=>
   rw[hs] at h
   obtain ⟨hd,_⟩:=EW he hs
   simp only[Option.bind_some] at h
   by_cases hm:d∈es
   ·rw[aj hm] at h
    have:=J4 he n (x+1) es _ p h1 (U.snoc (List.idxOf_lt_length_iff.2 hm) (by rw[hs,aea hm])) h
    rw[show x+(n+1)=x+1+n by omega]
    exact this
   ·rw[ai hm] at h
    by_cases hl:es.length=512
    ·rw[aj hl] at h;cases h
    ·rw[ai hl] at h
     obtain ⟨a,b,t,c⟩:=J4 he n (x+1) (es++[d]) _ p (h1.snoc hd hm hl) (U.mono.snoc (by simp) (by rw[hs,hX];simp)) h
     rw[show x+(n+1)=x+1+n by omega]
     exact ⟨a,b,d::t,by rw[c,ca];rfl⟩
structure Gs (s:Dv):Prop where
 L:1≤s.L∧s.L≤6
 ne:s.es≠[]
 es:Es s.es
 dn:0≤s.dn∧s.dn≤s.es.length
 nl:s.nx.length=s.dn.toNat
 row: ∀q,q<s.dn.toNat→pf (s.es.getD q ba) s.es s.L.toNat (s.nx.getD q [])
theorem AF {α:Type} {a b:List α} {i:Nat} {z:α} (h:i<a.length):(a++b).getD i z=a.getD i z:=by
 rw[hX,hX,hU h]
theorem Sf {α:Type} {a:List α} {i:Nat} {z:α} (h:i<a.length):a.getD i z∈a:=by
 rw[hX,bE h];simp
theorem Sg {s t:Dv} (h:proc s=some t): ∃p,nh (s.es.getD s.dn.toNat ba) s.L.toNat 0 s.es []=some p∧t=⟨s.L,p.1,s.nx++[p.2],s.dn+1⟩:=by
 unfold proc at h
 cases hr:nh (s.es.getD s.dn.toNat ba) s.L.toNat 0 s.es [] with
 | none=>rw[hr] at h;cases h
 | some p=>rw[hr] at h;cases h;exact ⟨p,rfl,rfl⟩
theorem Sh {s t:Dv} (hs:Gs s) (hd:s.dn<s.es.length) (h:proc s=some t):Gs t∧t.L=s.L∧t.dn=s.dn+1∧∃r,t.es=s.es++r:=by
 obtain ⟨p,hp,rfl⟩:=Sg h
 have Si:=hs.dn
 have hq:s.dn.toNat<s.es.length:=by omega
 obtain ⟨a,b,r,c⟩:=J4 (hs.es.nv _ (Sf hq)) _ 0 _ _ p hs.es ⟨rfl,fun x hx=>by omega⟩ hp
 have hn:=hs.nl
 refine ⟨⟨hs.L,by rw[c];simp[hs.ne],a,⟨by show 0≤s.dn+1;omega,?_⟩,?_,fun q yr=> ?_⟩,rfl,rfl,r,c⟩
 ·show s.dn+1≤(p.1.length:Int)
  rw[c,b8];omega
 ·show (s.nx++[p.2]).length=(s.dn+1).toNat
  rw[b8,hn];simp;omega
 ·have hq3:q<(s.dn+1).toNat:=yr
  show pf (p.1.getD q ba) p.1 s.L.toNat ((s.nx++[p.2]).getD q [])
  rcases ou q s.dn.toNat with e|e
  ·rw[AF (by omega),c,AF (by omega)]
   exact (hs.row q e).mono
  ·obtain rfl:q=s.dn.toNat:=by omega
   rw[hX (l:=s.nx++[p.2]),gK (by omega),hn,Nat.sub_self]
   simp only[List.getElem?_cons_zero,Option.getD_some]
   rw[gi] at b
   have e1:p.1.getD s.dn.toNat ba=s.es.getD s.dn.toNat ba:=by rw[c,AF (by omega)]
   rw[e1]
   exact b
theorem Sj: ∀(n:Nat) (s t:Dv),Gs s→rX n s=some t→Gs t∧t.L=s.L∧(∃r,t.es=s.es++r)∧(t.dn=t.es.length∨t.dn=s.dn+n)
 | 0,s,t,hs,h=>by cases h;exact ⟨hs,rfl,⟨[],by simp⟩,.inr (by simp)⟩
 | n+1,s,t,hs,h=>by
  rw[rX] at h
  by_cases hd:s.dn<s.es.length
  ·rw[aj hd] at h
   cases hp:proc s with
   | none=>rw[hp] at h;cases h
   | some u=>
    rw[hp] at h
    obtain ⟨a,b,c,r,d⟩:=Sh hs hd hp
    obtain ⟨e,f,⟨r2,g⟩,i⟩:=Sj n u t a h
    refine ⟨e,f.trans b,⟨r++r2,by rw[g,d,ca]⟩,?_⟩
    rcases i with i|i
    ·exact .inl i
    ·exact .inr (by rw[i,c];omega)
  ·rw[ai hd] at h
   cases h
   exact ⟨hs,rfl,⟨[],by simp⟩,.inl (by have:=hs.dn;omega)⟩
theorem Sk {e:Ex} {L:Int} (h:e.val L=0):Gs (qC e L):=by
 obtain ⟨h1,U,h3,h4⟩:=J2 h
 refine ⟨h1,by simp[qC],⟨by simp[qC],fun x hx=> ?_,by simp[qC]⟩,by simp[qC],rfl,fun q hq=>by simp[qC] at hq⟩
 rw[dW.1 hx]
 exact ⟨l7 e (Se h1.2 e h4),EV (J3 h)⟩
def jX:List UInt8→Ex→Option Ex
 | [],e=>some e
 | b::w,e=>(kG e (b.toNat-97)).bind (jX w)
theorem Sl: ∀(w v:List UInt8) (e:Ex),jX (w++v) e=(jX w e).bind (jX v)
 | [],v,e=>rfl
 | b::w,v,e=>by
  rw[List.cons_append,jX,jX]
  cases kG e (b.toNat-97) with
  | none=>rfl
  | some d=>exact Sl w v d
end Go.AM
set_option maxRecDepth 100000
namespace Go.AM
open Go.Proofs
noncomputable def Sm (C:ag) (dK dL:Int) (AG:List V) (J5 J6:Int) (J7:List V) (J8:Bool):Option (List V):=
 (C tt [.int .i64 dK,.int .i64 dL,.list aa AG,.int .i64 6]).bind fun r1=>
 bif (((V.nth r1 0).toInt):Int) != 0 then
  some [.int .i64 0,.int .i64 0,.list aa ([]:List V),.int .i64 3]
 else
  some [.int .i64 dK,.int .i64 dL,.list aa AG,.int .i64 0]
theorem aeb {dK dL:Int} {AG:List V} {J5 J6:Int} {J7:List V} {J8:Bool} {r:Option (List V)} (h:Sm CC dK dL AG J5 J6 J7 J8=r):CC HG [.int .i64 dK,.int .i64 dL,.list aa AG,.int .i64 J5,.int .i64 J6,.list aa J7,.bool J8]=r:=
 a9 (key:=149) (L:=b9) (bs:=[]) (by kernel_rfl) av (aW (by kernel_rfl) h)
noncomputable def Sn (C:ag) (ah ar:Int) (ae:List V) (cl:Int):Option (List V):=
 (C nV [.int .i64 cl,.bool true,.int .i64 ah,.int .i64 ar,.list aa ae]).bind fun r1=>
 (C HG [.int .i64 ((V.nth r1 0).toInt),.int .i64 ((V.nth (r1.drop 1) 0).toInt),.list aa ((V.nth ((r1.drop 1).drop 1) 0).toList),.int .i64 ((V.nth (((r1.drop 1).drop 1).drop 1) 0).toInt),.int .i64 ((V.nth ((((r1.drop 1).drop 1).drop 1).drop 1) 0).toInt),.list aa ((V.nth (((((r1.drop 1).drop 1).drop 1).drop 1).drop 1) 0).toList),.bool ((V.nth ((((((r1.drop 1).drop 1).drop 1).drop 1).drop 1).drop 1) 0).toBool)]).bind fun r2=>
 some [.int .i64 ((V.nth r2 0).toInt),.int .i64 ((V.nth (r2.drop 1) 0).toInt),.list aa ((V.nth ((r2.drop 1).drop 1) 0).toList),.int .i64 ((V.nth (r2.drop 3) 0).toInt)]
theorem aec {ah ar:Int} {ae:List V} {cl:Int} {r:Option (List V)} (h:Sn CC ah ar ae cl=r):CC y8 [.int .i64 ah,.int .i64 ar,.list aa ae,.int .i64 cl]=r:=
 a9 (key:=53) (L:=b9) (bs:=[]) (by kernel_rfl) av (aW (by kernel_rfl) h)
end Go.AM
set_option maxRecDepth 100000
namespace Go.AM
open Go.Proofs Ex
abbrev J9 (p:Ex × Int):List V:=bJ p.1 [.int .i64 p.2]
def rY (x:Ex):Ex × Int:=if x.val 6=0 then (x,0) else (ba,3)
theorem aed {x y:Ex} {b:Bool} (hx:x.Ok):CC HG (bJ x (bJ y [.bool b]))=some (J9 (rY x)):=by
 refine aeb ?_
 unfold Sm rY
 refine bs (DY x hx 6) ?_
 by_cases hv:x.val 6=0
 ·rw[aj hv]
  exact bF (by simp[hv]) rfl
 ·rw[ai hv]
  exact bT (by simp[hv]) rfl
theorem aee {c:Int} {e:Ex} (hv:e.val 6=0):Gd 6 (aL (bZ c e))∧(aL (bZ c e)).Ok∧(aL (bZ c e)).size≤160000:=by
 obtain ⟨_,U,h3⟩:=n0 hv
 have a:=l7 _ (ui (c:=c) e h3)
 have b:=JV (c:=c) h3
 have d:=ER U
 exact ⟨a,rI (by omega) _ a.2 (by omega),by omega⟩
theorem So {e:Ex} (he:Nv e) (c:Int):CC y8 (bJ e [.int .i64 c])=some (J9 (rY (aL (bZ c e)))):=by
 obtain ⟨_,U,h3⟩:=n0 he.2
 refine aec ?_
 unfold Sn
 refine bs (ad8 (c:=c) (nm:=true) e h3 U fun _=>he.1) ?_
 refine bs (aed (y:=aL e) (b:=e.cY) (aee (c:=c) he.2).2.1) ?_
 unfold rY
 split<;>rfl
end Go.AM
set_option maxRecDepth 100000
namespace Go.AM
open Go.Proofs
theorem aef (n:Int):CC vJ [.int .i64 n]=some [.bool (decide (1≤n∧n≤6))]:=by
 refine Pn ?_
 unfold IY
 rw[aA]
 split
 ·refine congrArg (fun b=>some [V.bool b]) ?_;rw[ux];omega
 ·have: ¬(1≤n∧n≤6):=by omega
  simp[this]
noncomputable abbrev Sp:Code:=cJ Try.prog (ay.aY 52)
noncomputable def AH (C:ag) (w:List UInt8) (letters t18 t19:Int) {β:Type} (kn:Int→Option β) (kr:((Bool) ⊕ (Int × Bool))→Option β):Option β:=
 bif decide ((t19:Int)<t18) then
  (bif decide (0≤t19) then (w[(t19:Int).toNat]?).map fun b=>V.int .u8 b.toNat else none).bind fun x1=>
  bif decide ((x1.toInt:Int)<97) then
  kr (.inl false)
  else
  (bif decide (0≤t19) then (w[(t19:Int).toNat]?).map fun b=>V.int .u8 b.toNat else none).bind fun x2=>
  bif decide (((IntKind.wrap .i64 (IntKind.wrap .u8 (x2.toInt-97))):Int)≥letters) then
   kr (.inl false)
  else
   kn (IntKind.wrap .i64 (t19+1))
 else
  kr (.inr (t19,decide ((t19:Int)<t18)))
noncomputable def EX (C:ag) (w:List UInt8) (letters t18:Int):(Int)→Option ((Int) ⊕ ((Bool) ⊕ (Int × Bool))):=fun t19=>AH C w letters t18 t19 (fun y=>some (.inl y)) (fun r=>some (.inr r))
noncomputable def Sq (C:ag):cy:=fun β n ds k=>
 bif Nat.beq n 65 then cj HU [false,false,false,true] [[0],[1,2,3,0,0]] (@AH C) ds k else
 none
abbrev aeg (C:ag) (b:cu):Prop:=cv Try.prog ay C (Sq C) 52 (cM Try.prog (ay.aY 52)) (ay.sin 52).a8.length b
theorem aeh (C:ag):aeg C (.loop (aw [1,1,0,1,0,0] Sp)):=
 cw HU [false,false,false,true] [[0],[1,2,3,0,0]] (@AH C) (by kernel_rfl) (bf (bs:=[]) (by kernel_rfl) av) (fun ds=>by kernel_rfl) (fun i x=>by kernel_rfl) (fun i x β k=>by kernel_rfl) (fun β ds k=>by kernel_rfl)
noncomputable def Sr (C:ag) (w:List UInt8) (letters:Int):Option (List V):=
 bif decide ((letters:Int)<1) then
  some [.bool false]
 else
  bif decide ((letters:Int)>6) then
  some [.bool false]
  else
  bif decide (((w.length:Int):Int)>2048) then
   some [.bool false]
  else
   (Loop (EX C w letters (w.length:Int)) 0).bind (bY (fun (jQ:Bool)=>
    some [.bool jQ]) (un fun (lX:Int) (o4:Bool)=>
    some [.bool true]))
theorem aei {w:List UInt8} {letters:Int} {r:Option (List V)} (h:Sr CC w letters=r):CC Dq [.str w,.int .i64 letters]=r:=
 a9 (key:=52) (L:=Sq CC) (bs:=[.loop (aw [1,1,0,1,0,0] Sp)]) (by kernel_rfl) (bG (aeh CC) av) (aW (by kernel_rfl) h)
noncomputable abbrev Ss:Code:=cJ Try.prog (ay.aY 18)
noncomputable def AI (C:ag) (w:List UInt8) (letters i:Int) {β:Type} (kn:Int→Option β) (kr:((Bool) ⊕ (Int × Bool))→Option β):Option β:=
 bif decide ((i:Int)<(w.length:Int)) then
  (bif decide (0≤i) then (w[(i:Int).toNat]?).map fun b=>V.int .u8 b.toNat else none).bind fun x2=>
  bif decide ((x2.toInt:Int)<97) then
  kr (.inl false)
  else
  (bif decide (0≤i) then (w[(i:Int).toNat]?).map fun b=>V.int .u8 b.toNat else none).bind fun x3=>
  bif decide (((IntKind.wrap .i64 (IntKind.wrap .u8 (x3.toInt-97))):Int)≥letters) then
   kr (.inl false)
  else
   kn (IntKind.wrap .i64 (i+1))
 else
  kr (.inr (i,decide ((i:Int)<(w.length:Int))))
noncomputable def EY (C:ag) (w:List UInt8) (letters:Int):(Int)→Option ((Int) ⊕ ((Bool) ⊕ (Int × Bool))):=fun i=>AI C w letters i (fun y=>some (.inl y)) (fun r=>some (.inr r))
noncomputable def Su (C:ag):cy:=fun β n ds k=>
 bif Nat.beq n 65 then cj HL [false,false,true] [[0],[1,2,0,0]] (@AI C) ds k else
 none
abbrev aej (C:ag) (b:cu):Prop:=cv Try.prog ay C (Su C) 18 (cM Try.prog (ay.aY 18)) (ay.sin 18).a8.length b
theorem aek (C:ag):aej C (.loop (aw [1,1,0,1,0,0] Ss)):=
 cw HL [false,false,true] [[0],[1,2,0,0]] (@AI C) (by kernel_rfl) (bf (bs:=[]) (by kernel_rfl) av) (fun ds=>by kernel_rfl) (fun i x=>by kernel_rfl) (fun i x β k=>by kernel_rfl) (fun β ds k=>by kernel_rfl)
noncomputable def Sv (C:ag) (w:List UInt8) (letters:Int):Option (List V):=
 (C vJ [.int .i64 letters]).bind fun r1=>
 bif !((V.nth r1 0).toBool) then
  some [.bool false]
 else
  bif decide (((w.length:Int):Int)>2048) then
  some [.bool false]
  else
  (Loop (EY C w letters) 0).bind (bY (fun (lX:Bool)=>
   some [.bool lX]) (un fun (cF:Int) (lg:Bool)=>
   some [.bool true]))
theorem ael {w:List UInt8} {letters:Int} {r:Option (List V)} (h:Sv CC w letters=r):CC Di [.str w,.int .i64 letters]=r:=
 a9 (key:=18) (L:=Su CC) (bs:=[.loop (aw [1,1,0,1,0,0] Ss)]) (by kernel_rfl) (bG (aek CC) av) (aW (by kernel_rfl) h)
def da (w:List UInt8) (i:Nat):Int:=((w.getD i 0).toNat:Int)-97
def ni (w:List UInt8) (L:Int):Prop:=1≤L∧L≤6∧w.length≤2048∧∀i,i<w.length→0≤da w i∧da w i<L
instance (w:List UInt8) (L:Int):Decidable (ni w L):=by unfold ni;infer_instance
theorem EZ {w:List UInt8} {i:Nat} (h:i<w.length):(bif decide (0≤(i:Int)) then (w[((i:Nat):Int).toNat]?).map (fun b=>V.int .u8 b.toNat) else none)=some (.int .u8 ((w.getD i 0).toNat:Int)):=by
 rw[aA,aj (by omega),Int.toNat_natCast]
 simp[h]
theorem Sw (b:UInt8):b.toNat<256:=b.toNat_lt
theorem Ka {w:List UInt8} {i:Nat} (h:0≤da w i):IntKind.wrap .u8 (((w.getD i 0).toNat:Int)-97)=da w i:=by
 have:=Sw (w.getD i 0)
 unfold da at*
 exact yY h (by omega)
theorem Sy {w:List UInt8} {i:Nat}:da w i<256:=by
 have:=Sw (w.getD i 0)
 unfold da
 omega
theorem aem {w:List UInt8} {L:Int} (hl:w.length≤2048):Loop (EX CC w L (w.length:Int)) 0=some (if∀i,i<w.length→0≤da w i∧da w i<L then .inr ((w.length:Int),false) else .inl false):=by
 refine OO (good:=fun i=>0≤da w i∧da w i<L) w.length (fun i=>(i:Int)) (Sum.inl false:Bool ⊕ (Int × Bool)) (Sum.inr ((w.length:Int),false)) (fun i hi=> ?_) ?_
 ·simp only[EX,AH,un]
  rw[aA,aj (by omega),EZ hi]
  simp only[Option.bind_some,V.toInt_int,aA]
  by_cases h1:0≤da w i
  ·have e7:=h1
   unfold da at e7
   rw[ai (by omega),Ka h1,wrap64 (by omega) (by have:= @Sy w i;omega)]
   by_cases U:da w i<L
   ·rw[ai (by omega),aj ⟨h1,U⟩,wrap64 (by omega) (by omega)]
    simp
   ·rw[aj (by omega),ai (fun h=>U h.2)]
  ·have e7:=h1
   unfold da at e7
   rw[aj (by omega),ai (fun h=>h1 h.1)]
 ·simp only[EX,AH,un]
  rw[aA,ai (by omega)]
  simp
theorem aen {w:List UInt8} {L:Int} (hl:w.length≤2048):Loop (EY CC w L) 0=some (if∀i,i<w.length→0≤da w i∧da w i<L then .inr ((w.length:Int),false) else .inl false):=by
 refine OO (good:=fun i=>0≤da w i∧da w i<L) w.length (fun i=>(i:Int)) (Sum.inl false:Bool ⊕ (Int × Bool)) (Sum.inr ((w.length:Int),false)) (fun i hi=> ?_) ?_
 ·simp only[EY,AI,un]
  rw[aA,aj (by omega),EZ hi]
  simp only[Option.bind_some,V.toInt_int,aA]
  by_cases h1:0≤da w i
  ·have e7:=h1
   unfold da at e7
   rw[ai (by omega),Ka h1,wrap64 (by omega) (by have:= @Sy w i;omega)]
   by_cases U:da w i<L
   ·rw[ai (by omega),aj ⟨h1,U⟩,wrap64 (by omega) (by omega)]
    simp
   ·rw[aj (by omega),ai (fun h=>U h.2)]
  ·have e7:=h1
   unfold da at e7
   rw[aj (by omega),ai (fun h=>h1 h.1)]
 ·simp only[EY,AI,un]
  rw[aA,ai (by omega)]
  simp
theorem aeo (w:List UInt8) (L:Int):CC Dq [.str w,.int .i64 L]=some [.bool (decide (ni w L))]:=by
 refine aei ?_
 unfold Sr
 simp only[aA]
 by_cases h1:L<1
 ·rw[aj h1,cQ (fun h=>by have:=h.1;omega)]
 rw[ai h1]
 by_cases U:L>6
 ·rw[aj U,cQ (fun h=>by have:=h.2.1;omega)]
 rw[ai U]
 by_cases h3:(w.length:Int)>2048
 ·rw[aj h3,cQ (fun h=>by have:=h.2.2.1;omega)]
 rw[ai h3,aem (by omega)]
 by_cases h4: ∀i,i<w.length→0≤da w i∧da w i<L
 ·rw[aj h4,ef (show ni w L from ⟨by omega,by omega,by omega,h4⟩)]
  simp[bY,un]
 ·rw[ai h4,cQ (fun h=>h4 h.2.2.2)]
  simp[bY,un]
theorem aep (w:List UInt8) (L:Int):CC Di [.str w,.int .i64 L]=some [.bool (decide (ni w L))]:=by
 refine ael ?_
 unfold Sv
 rw[aef]
 simp only[Option.bind_some,V.aS,V.dU,gC,aA]
 by_cases h1: ¬(1≤L∧L≤6)
 ·rw[ai h1,cQ (fun h=>h1 ⟨h.1,h.2.1⟩)]
 have h1:=Classical.not_not.1 h1
 rw[aj h1]
 by_cases h3:(w.length:Int)>2048
 ·rw[aj h3,cQ (fun h=>by have:=h.2.2.1;omega)]
 rw[ai h3,aen (by omega)]
 by_cases h4: ∀i,i<w.length→0≤da w i∧da w i<L
 ·rw[aj h4,ef (show ni w L from ⟨h1.1,h1.2,by omega,h4⟩)]
  simp[bY,un]
 ·rw[ai h4,cQ (fun h=>h4 h.2.2.2)]
  simp[bY,un]
noncomputable abbrev Sz:Code:=cJ Try.prog (ay.aY 28)
noncomputable def xc (C:ag) (w:List UInt8) (t23 kD kE:Int) (ee:List V) (t24 eF eb:Int) (dt:List V) {β:Type} (kn:(Int × Int × Int × (List V))→Option β) (kr:((Int × Int × Int × (List V)) ⊕ (Int × Bool × Int × Int × (List V)))→Option β):Option β:=
 bif decide ((t24:Int)<t23) then
  (bif decide (0≤t24) then (w[(t24:Int).toNat]?).map fun b=>V.int .u8 b.toNat else none).bind fun x4=>
  (C y8 [.int .i64 eF,.int .i64 eb,.list aa dt,.int .i64 (IntKind.wrap .i64 (IntKind.wrap .u8 (x4.toInt-97)))]).bind fun r5=>
  bif (((V.nth (r5.drop 3) 0).toInt):Int) != 0 then
  kr (.inl ((V.nth (r5.drop 3) 0).toInt,0,0,([]:List V)))
  else
  kn (IntKind.wrap .i64 (t24+1),(V.nth r5 0).toInt,(V.nth (r5.drop 1) 0).toInt,(V.nth ((r5.drop 1).drop 1) 0).toList)
 else
  kr (.inr (t24,decide ((t24:Int)<t23),eF,eb,dt))
noncomputable def uk (C:ag) (w:List UInt8) (t23 kD kE:Int) (ee:List V):(Int × Int × Int × (List V))→Option ((Int × Int × Int × (List V)) ⊕ ((Int × Int × Int × (List V)) ⊕ (Int × Bool × Int × Int × (List V)))):=un fun t24=>un fun eF=>un fun eb dt=>xc C w t23 kD kE ee t24 eF eb dt (fun y=>some (.inl y)) (fun r=>some (.inr r))
noncomputable def SA (C:ag):cy:=fun β n ds k=>
 bif Nat.beq n 129 then cj HM [false,false,true,true,true,true,false,false,false] [[0,0,0,0],[1,2,0,0,0,0,0,7,8,9]] (@xc C) ds k else
 none
abbrev aeq (C:ag) (b:cu):Prop:=cv Try.prog ay C (SA C) 28 (cM Try.prog (ay.aY 28)) (ay.sin 28).a8.length b
theorem aer (C:ag):aeq C (.loop (aw [1,1,1,1,0,1,0,0] Sz)):=
 cw HM [false,false,true,true,true,true,false,false,false] [[0,0,0,0],[1,2,0,0,0,0,0,7,8,9]] (@xc C) (by kernel_rfl) (bf (bs:=[]) (by kernel_rfl) av) (fun ds=>by kernel_rfl) (fun i x=>by kernel_rfl) (fun i x β k=>by kernel_rfl) (fun β ds k=>by kernel_rfl)
noncomputable def SB (C:ag) (ah ar:Int) (ae:List V) (w:List UInt8):Option (List V):=
 (C tt [.int .i64 ah,.int .i64 ar,.list aa ae,.int .i64 6]).bind fun r1=>
 bif (((V.nth r1 0).toInt):Int) != 0 then
  some [.int .i64 0,.int .i64 0,.list aa ([]:List V),.int .i64 ((V.nth r1 0).toInt)]
 else
  (C Dq [.str w,.int .i64 6]).bind fun r2=>
  bif !((V.nth r2 0).toBool) then
  some [.int .i64 0,.int .i64 0,.list aa ([]:List V),.int .i64 1]
  else
  (C y7 [.int .i64 ah,.int .i64 ar,.list aa ae]).bind fun r3=>
  (Loop (uk C w (w.length:Int) 0 0 ([]:List V)) (0,(V.nth r3 0).toInt,(V.nth (r3.drop 1) 0).toInt,(V.nth ((r3.drop 1).drop 1) 0).toList)).bind (bY (un fun (lg:Int)=>un fun (Kb:Int)=>un fun (Kc:Int) (um:List V)=>
   some [.int .i64 Kb,.int .i64 Kc,.list aa um,.int .i64 lg]) (un fun (DX:Int)=>un fun (zy:Bool)=>un fun (aes:Int)=>un fun (aet:Int) (aeu:List V)=>
   some [.int .i64 aes,.int .i64 aet,.list aa aeu,.int .i64 0]))
theorem aev {ah ar:Int} {ae:List V} {w:List UInt8} {r:Option (List V)} (h:SB CC ah ar ae w=r):CC vI [.int .i64 ah,.int .i64 ar,.list aa ae,.str w]=r:=
 a9 (key:=28) (L:=SA CC) (bs:=[.loop (aw [1,1,1,1,0,1,0,0] Sz)]) (by kernel_rfl) (bG (aer CC) av) (aW (by kernel_rfl) h)
end Go.AM
set_option maxRecDepth 100000
namespace Go.AM
open Go.Proofs Ex
def xd (w:List UInt8) (e:Ex):Ex × Int:=match jX w e with|some x=>(x,0)|none=>(ba,3)
def rZ (e:Ex) (w:List UInt8):Ex × Int:=if e.val 6=0 then (if ni w 6 then xd w (aL e) else (ba,1)) else (ba,e.val 6)
theorem aew {e:Ex} {c:Nat}:rY (aL (bZ c e))=match kG e c with|some d=>(d,0)|none=>(ba,3):=by
 unfold rY kG
 split<;>rfl
theorem Kd {e:Ex} (h:Nv e):e.Ok:=rI (by omega) e h.1.2 (by have:=n0 h.2;omega)
theorem SC {e:Ex} (h:e.val 6=0):Nv (aL e):=⟨l7 e (n0 h).2.2,J3 h⟩
theorem aex {w:List UInt8} (hw: ∀i,i<w.length→0≤da w i∧da w i<6) {pre:List UInt8} {b:UInt8} {aG:List UInt8} (e:w=pre++b::aG):w.getD pre.length 0=b∧97≤b.toNat∧da w pre.length=((b.toNat-97:Nat):Int):=by
 have h1:w.getD pre.length 0=b:=by rw[e,hX];simp
 have U:=hw pre.length (by rw[e];simp)
 unfold da at*
 rw[h1] at U⊢
 exact ⟨rfl,by omega,by omega⟩
theorem aey {w:List UInt8} (hw: ∀i,i<w.length→0≤da w i∧da w i<6) {pre:List UInt8} {b:UInt8} {aG:List UInt8} (e:w=pre++b::aG):IntKind.wrap .i64 (IntKind.wrap .u8 (((w.getD pre.length 0).toNat:Int)-97))=((b.toNat-97:Nat):Int):=by
 have h1:=aex hw e
 have U:=hw pre.length (by rw[e];simp)
 rw[Ka U.1,wrap64 (by omega) (by omega),h1.2.2]
section
variable {w:List UInt8} (hl:w.length≤2048) (hw: ∀i,i<w.length→0≤da w i∧da w i<6)
include hl hw
theorem aez {a b:Int} {l:List V}: ∀(aG pre:List UInt8) (x:Ex),w=pre++aG→Nv x→
  (∀y,jX aG x=some y→Loop (uk CC w (w.length:Int) a b l) (((pre.length:Nat):Int),x.op,x.cl,x.kids.map enc)=some (.inr ((w.length:Int),false,y.op,y.cl,y.kids.map enc)))
  ∧(jX aG x=none→Loop (uk CC w (w.length:Int) a b l) (((pre.length:Nat):Int),x.op,x.cl,x.kids.map enc)=some (.inl (3,0,0,[]))):=by
 intro aG
 induction aG with
 | nil=>
  intro pre x e hx
  rw[dz] at e
  subst e
  refine ⟨fun y hy=> ?_,fun hy=>by simp[jX] at hy⟩
  cases hy
  refine bc ?_
  simp only[uk,xc,un]
  rw[aA,ai (by omega),cQ (by omega)]
 | cons c aG eU=>
  intro pre x e hx
  have bK:pre.length<w.length:=by rw[e];simp
  have hs:=aey hw e
  have hb:=So hx ((c.toNat-97:Nat):Int)
  rw[aew] at hb
  rw[jX]
  cases bL:kG x (c.toNat-97) with
  | none=>
   rw[bL] at hb
   refine ⟨fun y hy=>(by cases hy),fun _=>bc ?_⟩
   simp only[uk,xc,un]
   refine bT (uh bK) (bs (EZ bK) ?_)
   rw[V.toInt_int,hs]
   refine bs hb ?_
   rfl
  | some d=>
   rw[bL] at hb
   obtain ⟨i1,i2⟩:=eU (pre++[c]) d (by simp[e]) (EW hx bL).1
   have dF:uk CC w (w.length:Int) a b l (((pre.length:Nat):Int),x.op,x.cl,x.kids.map enc)=some (.inl ((((pre++[c]).length:Nat):Int),d.op,d.cl,d.kids.map enc)):=by
    simp only[uk,xc,un]
    refine bT (uh bK) (bs (EZ bK) ?_)
    rw[V.toInt_int,hs]
    refine bs hb ?_
    refine bF rfl ?_
    rw[om (by omega),b8]
    rfl
   exact ⟨fun y hy=>(bS dF).trans (i1 y hy),fun hy=>(bS dF).trans (i2 hy)⟩
end
theorem Ke (e:Ex) (h:e.Ok) (w:List UInt8):CC vI (bJ e [.str w])=some (J9 (rZ e w)):=by
 refine aev ?_
 unfold SB rZ
 refine bs (DY e h 6) ?_
 by_cases hv:e.val 6=0
 ·rw[aj hv]
  refine bF (by simp[hv]) (bs (aeo w 6) ?_)
  by_cases hw:ni w 6
  ·rw[aj hw]
   refine bF (by simp[hw]) ?_
   have hn:=RI e h
   rw[aj hv] at hn
   refine bs hn ?_
   obtain ⟨l1,l2⟩:=aez hw.2.2.1 hw.2.2.2 (a:=0) (b:=0) (l:=[]) w [] (aL e) rfl (SC hv)
   unfold xd
   cases hg:jX w (aL e) with
   | none=>exact bs (l2 hg) rfl
   | some y=>exact bs (l1 y hg) rfl
  ·rw[ai hw]
   exact bT (by simp[hw]) rfl
 ·rw[ai hv]
  refine bT (by simp[hv]) rfl
end Go.AM
set_option maxRecDepth 100000
namespace Go.AM
open Go.Proofs
noncomputable def SD (C:ag) (ah ar:Int) (ae:List V) (cA:Int):Option (List V):=
 (C Dj [.int .i64 ah,.int .i64 ar,.list aa ae]).bind fun r1=>
 bif (V.nth r1 0).toBool then
  (C Df [.int .i64 ah,.int .i64 ar,.list aa ae]).bind fun r2=>
  some [.bool (decide ((((V.nth r2 0).toInt):Int)≤cA))]
 else
  some [.bool false]
theorem aeA {ah ar:Int} {ae:List V} {cA:Int} {r:Option (List V)} (h:SD CC ah ar ae cA=r):CC Dh [.int .i64 ah,.int .i64 ar,.list aa ae,.int .i64 cA]=r:=
 a9 (key:=17) (L:=b9) (bs:=[]) (by kernel_rfl) av (aW (by kernel_rfl) h)
end Go.AM
set_option maxRecDepth 100000
namespace Go.AM
open Go.Proofs Ex
theorem aeB (e:Ex) (h:e.Ok) (m:Int):CC Dh (bJ e [.int .i64 m])=some [.bool (decide (e.val 6=0∧(e.size:Int)≤m))]:=by
 refine aeA ?_
 unfold SD
 refine bs (aaJ e h) ?_
 by_cases hv:e.val 6=0
 ·refine bT (ef hv) (bs (aaM e h (n0 hv).2.1) ?_)
  rw[V.aS,V.toInt_int]
  refine congrArg (fun b=>some [V.bool b]) ?_
  rw[ux]
  exact ⟨fun x=>⟨hv,x⟩,fun x=>x.2⟩
 ·refine bF (cQ hv) ?_
  rw[cQ fun x=>hv x.1]
theorem Kf: ∀(w:List UInt8) (e x:Ex),Nv e→jX w e=some x→Nv x
 | [],e,x,he,h=>by cases h;exact he
 | b::w,e,x,he,h=>by
  rw[jX] at h
  cases hs:kG e (b.toNat-97) with
  | none=>rw[hs] at h;cases h
  | some d=>rw[hs] at h;exact Kf w d x (EW he hs).1 h
theorem aeC {w v:List UInt8} {L:Int} (h:ni (w++v) L):ni w L∧ni v L:=by
 obtain ⟨h1,U,h3,h4⟩:=h
 rw[b8] at h3 h4
 refine ⟨⟨h1,U,by omega,fun i hi=> ?_⟩,⟨h1,U,by omega,fun i hi=> ?_⟩⟩
 ·have:=h4 i (by omega)
  unfold da at*
  rwa [AF hi] at this
 ·have:=h4 (w.length+i) (by omega)
  unfold da at*
  rwa [hX,gK (by omega),Nat.add_sub_cancel_left,←hX] at this
end Go.AM
set_option maxRecDepth 100000
namespace Go.AM
open Go.Proofs
noncomputable abbrev SE:Code:=cJ Try.prog (ay.aY 48)
noncomputable def uo (C:ag) (SF SG:Int) (E0:List V) (SH SI:Int) (AJ:List V) (i:Int) {β:Type} (kn:Int→Option β) (kr:((Int) ⊕ (Int × Bool))→Option β):Option β:=
 bif decide ((i:Int)<(E0.length:Int)) then
  bif decide ((i:Int)<(AJ.length:Int)) then
  (idx E0 i).bind fun x3=>
  (idx AJ i).bind fun x4=>
  (C vM [.int .i64 ((x3.cell 0).toInt),.int .i64 ((x3.cell 1).toInt),.list aa ((x3.cell 2).toList),.int .i64 ((x4.cell 0).toInt),.int .i64 ((x4.cell 1).toInt),.list aa ((x4.cell 2).toList)]).bind fun r5=>
  bif (((V.nth r5 0).toInt):Int) != 0 then
   kr (.inl ((V.nth r5 0).toInt))
  else
   kn (IntKind.wrap .i64 (i+1))
  else
  kr (.inr (i,decide ((i:Int)<(AJ.length:Int))))
 else
  kr (.inr (i,false))
noncomputable def r0 (C:ag) (SF SG:Int) (E0:List V) (SH SI:Int) (AJ:List V):(Int)→Option ((Int) ⊕ ((Int) ⊕ (Int × Bool))):=fun i=>uo C SF SG E0 SH SI AJ i (fun y=>some (.inl y)) (fun r=>some (.inr r))
noncomputable def SJ (C:ag):cy:=fun β n ds k=>
 bif Nat.beq n 97 then cj HS [true,false,false,false,false,false,false] [[0],[0,0,2,3,4,5,6,7]] (@uo C) ds k else
 none
abbrev aeD (C:ag) (b:cu):Prop:=cv Try.prog ay C (SJ C) 48 (cM Try.prog (ay.aY 48)) (ay.sin 48).a8.length b
theorem aeE (C:ag):aeD C (.loop (aw [1,1,0,1,0,0] SE)):=
 cw HS [true,false,false,false,false,false,false] [[0],[0,0,2,3,4,5,6,7]] (@uo C) (by kernel_rfl) (bf (bs:=[]) (by kernel_rfl) av) (fun ds=>by kernel_rfl) (fun i x=>by kernel_rfl) (fun i x β k=>by kernel_rfl) (fun β ds k=>by kernel_rfl)
noncomputable def SK (C:ag) (fW fX:Int) (gE:List V) (fY fZ:Int) (gF:List V):Option (List V):=
 bif (fW:Int) != fY then
  (C vP [.bool (decide ((fW:Int)<fY))]).bind fun r1=>
  some [.int .i64 ((V.nth r1 0).toInt)]
 else
  bif (fX:Int) != fZ then
  (C vP [.bool (decide ((fX:Int)<fZ))]).bind fun r2=>
  some [.int .i64 ((V.nth r2 0).toInt)]
  else
  (Loop (r0 C fW fX gE fY fZ gF) 0).bind (bY (fun (lg:Int)=>
   some [.int .i64 lg]) (un fun (i_7:Int) (OX:Bool)=>
   bif ((gE.length:Int):Int)==(gF.length:Int) then
    some [.int .i64 0]
   else
    (C vP [.bool (decide (((gE.length:Int):Int)<(gF.length:Int)))]).bind fun r9=>
    some [.int .i64 ((V.nth r9 0).toInt)]))
theorem aeF {fW fX:Int} {gE:List V} {fY fZ:Int} {gF:List V} {r:Option (List V)} (h:SK CC fW fX gE fY fZ gF=r):CC vM [.int .i64 fW,.int .i64 fX,.list aa gE,.int .i64 fY,.int .i64 fZ,.list aa gF]=r:=
 a9 (key:=48) (L:=SJ CC) (bs:=[.loop (aw [1,1,0,1,0,0] SE)]) (by kernel_rfl) (bG (aeE CC) av) (aW (by kernel_rfl) h)
noncomputable def aeG (C:ag) (less:Bool):Option (List V):=
 bif less then
  some [.int .i64 (-1)]
 else
  some [.int .i64 1]
theorem aeH {less:Bool} {r:Option (List V)} (h:aeG CC less=r):CC vP [.bool less]=r:=
 a9 (key:=67) (L:=b9) (bs:=[]) (by kernel_rfl) av (aW (by kernel_rfl) h)
end Go.AM
set_option maxRecDepth 100000
namespace Go.AM
open Go.Proofs Ex
theorem Kg (b:Bool):CC vP [.bool b]=some [.int .i64 (fL b)]:=by
 refine aeH ?_
 cases b<;>rfl
theorem aeI {ks bC:List Ex} {a0 a1 b0 b1:Int} (hlen:ks.length≤maxLen) (ih: ∀k∈ks,∀e:Ex,e.Ok→CC vM (bJ k (bJ e []))=some [.int .i64 (cmp k e)]) (cR: ∀k∈bC,Ex.Ok k):
  ∀(aG pre iC nZ:List Ex),ks=pre++aG→bC=nZ++iC→pre.length=nZ.length→
  (∃c,Loop (r0 CC a0 a1 (ks.map enc) b0 b1 (bC.map enc)) ((pre.length:Nat):Int)=some (.inl c)∧c9 aG iC=c)∨
  (∃i b,Loop (r0 CC a0 a1 (ks.map enc) b0 b1 (bC.map enc)) ((pre.length:Nat):Int)=some (.inr (i,b))∧c9 aG iC=if ks.length=bC.length then 0 else fL (decide (ks.length<bC.length))):=by
 intro aG
 induction aG with
 | nil=>
  intro pre iC nZ aV jo kz
  subst aV
  refine .inr ⟨((pre.length:Nat):Int),false,bc ?_,?_⟩
  ·simp only[r0,uo,dz,bm,aA]
   rw[ai (by omega)]
  ·cases iC with
   | nil=>simp[c9,jo,kz]
   | cons a l=>simp[c9,jo,kz,fL]
 | cons k aG eU=>
  intro pre iC nZ aV jo kz
  have bK:pre.length<ks.length:=by rw[aV];simp
  have:=qm
  have bX:idx (ks.map enc) (pre.length:Int)=some k.enc:=by rw[aV];exact iU _ _ _
  cases iC with
  | nil=>
   have hl:bC.length=pre.length:=by rw[jo,kz];simp
   refine .inr ⟨((pre.length:Nat):Int),false,bc ?_,?_⟩
   ·simp only[r0,uo,bm,aA]
    rw[aj (by omega),ai (by omega)]
    simp[hl]
   ·rw[ai (by omega)]
    simp[c9,fL,show¬ks.length<bC.length by omega]
  | cons k' iC=>
   have hl:pre.length<bC.length:=by rw[jo,kz];simp
   have zD:idx (bC.map enc) (pre.length:Int)=some k'.enc:=by rw[jo,kz];exact iU _ _ _
   have e1:=ih k (by rw[aV];simp) k' (cR k' (by rw[jo];simp))
   by_cases hc:cmp k k'=0
   ·have dF:r0 CC a0 a1 (ks.map enc) b0 b1 (bC.map enc) ((pre.length:Nat):Int)=some (.inl (((pre++[k]).length:Nat):Int)):=by
     simp only[r0,uo,bm,aA]
     rw[aj (by omega),aj (by omega),bX,zD]
     simp only[Option.bind_some,bq,br,bt]
     rw[e1,hc]
     simp only[Option.bind_some,V.aS,V.toInt_int,vz,db]
     rw[wrap64 (by omega) (by omega)]
     simp
    rw[bS dF]
    simp only[c9,hc,ne_eq,mg,fN]
    exact eU (pre++[k]) iC (nZ++[k']) (by rw[aV];simp) (by rw[jo];simp) (by simp[kz])
   ·refine .inl ⟨cmp k k',bc ?_,by simp[c9,hc]⟩
    simp only[r0,uo,bm,aA]
    rw[aj (by omega),aj (by omega),bX,zD]
    simp only[Option.bind_some,bq,br,bt]
    rw[e1]
    simp only[Option.bind_some,V.aS,V.toInt_int,vz,ai hc]
theorem aeJ: ∀a:Ex,a.Ok→∀b:Ex,b.Ok→CC vM (bJ a (bJ b []))=some [.int .i64 (cmp a b)]:=
 ind fun o l ks ih au b hb=>by
  obtain ⟨o',l',bC⟩:=b
  refine aeF ?_
  unfold SK
  rw[tG]
  simp only[Ex.op,Ex.cl,Ex.kids,vz]
  by_cases h1:o=o'
  ·by_cases U:l=l'
   ·rw[aj h1,aj U,ai (by simp[h1]),ai (by simp[U])]
    rcases aeI (a0:=o) (a1:=l) (b0:=o') (b1:=l') au.len (fun k hk e he=>ih k hk (au.lW k hk) e he) hb.lW ks [] bC [] rfl rfl rfl with ⟨c,q1,q2⟩|⟨i,b,q1,q2⟩
    ·simp only[List.length_nil,Int.ofNat_zero,Int.natCast_zero] at q1
     erw [q1];rw[q2];rfl
    ·simp only[List.length_nil,Int.ofNat_zero,Int.natCast_zero] at q1
     erw [q1];rw[q2]
     simp only[Option.bind_some,bY,un,bm,eS]
     by_cases hl:ks.length=bC.length
     ·rw[aj (by omega),aj hl]
     ·rw[ai (by omega),ai hl,Kg]
      simp
   ·rw[aj h1,ai U,ai (by simp[h1]),aj U,Kg]
    simp only[Option.bind_some,V.aS,V.toInt_int];rfl
  ·rw[ai h1,aj h1,Kg]
   simp only[Option.bind_some,V.aS,V.toInt_int];rfl
end Go.AM
set_option maxRecDepth 100000
namespace Go.AM
open Go.Proofs
noncomputable def SL (C:ag) (fW fX:Int) (gE:List V) (fY fZ:Int) (gF:List V):Option (List V):=
 (C vM [.int .i64 fW,.int .i64 fX,.list aa gE,.int .i64 fY,.int .i64 fZ,.list aa gF]).bind fun r1=>
 some [.bool ((((V.nth r1 0).toInt):Int)==0)]
theorem aeK {fW fX:Int} {gE:List V} {fY fZ:Int} {gF:List V} {r:Option (List V)} (h:SL CC fW fX gE fY fZ gF=r):CC y6 [.int .i64 fW,.int .i64 fX,.list aa gE,.int .i64 fY,.int .i64 fZ,.list aa gF]=r:=
 a9 (key:=27) (L:=b9) (bs:=[]) (by kernel_rfl) av (aW (by kernel_rfl) h)
end Go.AM
set_option maxRecDepth 100000
namespace Go.AM
open Go.Proofs Ex
theorem aeL (a:Ex) (ha:a.Ok) (b:Ex) (hb:b.Ok):CC y6 (bJ a (bJ b []))=some [.bool (decide (cmp a b=0))]:=by
 refine aeK ?_
 unfold SL
 refine (congrArg (fun o=>Option.bind o _) (aeJ a ha b hb)).trans ?_
 simp only[Option.bind_some,V.aS,V.toInt_int]
 congr 3
theorem aeM {a b:Ex} (ha:a.Ok) (hb:b.Ok):CC y6 (bJ a (bJ b []))=some [.bool (decide (a=b))]:=by
 rw[aeL a ha b hb]
 refine congrArg (fun x=>some [V.bool x]) ?_
 rw[ux];exact Pz
end Go.AM
set_option maxRecDepth 100000
namespace Go.AM
open Go.Proofs
noncomputable abbrev SM:Code:=cJ Try.prog (ay.aY 61)
noncomputable def AK (C:ag) (t19:List V) (t20 t21:Int) {β:Type} (kn:Int→Option β) (kr:((Bool) ⊕ (Int × Bool))→Option β):Option β:=
 bif decide ((t21:Int)<t20) then
  (idx t19 t21).bind fun x2=>
  (C jO [.int .i64 ((x2.cell 0).toInt),.int .i64 ((x2.cell 1).toInt),.list aa ((x2.cell 2).toList)]).bind fun r3=>
  bif !((V.nth r3 0).toBool) then
  kr (.inl false)
  else
  kn (IntKind.wrap .i64 (t21+1))
 else
  kr (.inr (t21,decide ((t21:Int)<t20)))
noncomputable def sa (C:ag) (t19:List V) (t20:Int):(Int)→Option ((Int) ⊕ ((Bool) ⊕ (Int × Bool))):=fun t21=>AK C t19 t20 t21 (fun y=>some (.inl y)) (fun r=>some (.inr r))
noncomputable def SN (C:ag):cy:=fun β n ds k=>
 bif Nat.beq n 161 then cj HX [false,false,true] [[0],[1,2,0,0]] (@AK C) ds k else
 none
abbrev aeN (C:ag) (b:cu):Prop:=cv Try.prog ay C (SN C) 61 (cM Try.prog (ay.aY 61)) (ay.sin 61).a8.length b
theorem aeO (C:ag):aeN C (.loop (aw [1,0,1,0,1,1,1,1,1,0,0,1,0,0] SM)):=
 cw HX [false,false,true] [[0],[1,2,0,0]] (@AK C) (by kernel_rfl) (bf (bs:=[]) (by kernel_rfl) av) (fun ds=>by kernel_rfl) (fun i x=>by kernel_rfl) (fun i x β k=>by kernel_rfl) (fun β ds k=>by kernel_rfl)
noncomputable def SO (C:ag) (ah ar:Int) (ae:List V):Option (List V):=
 bif (ah:Int)==2 then
  bif (ah:Int)==2 then
  some [.bool true]
  else
  bif (ah:Int)==4 then
   (C DK [.list aa ae]).bind fun r1=>
   some [.bool ((V.nth r1 0).toBool)]
  else
   bif (ah:Int)==5 then
   bif (ah:Int)==5 then
    (Loop (sa C ae (ae.length:Int)) 0).bind (bY (fun (lX:Bool)=>
     some [.bool lX]) (un fun (o4:Int) (lg:Bool)=>
     some [.bool true]))
   else
    bif (ah:Int)==8 then
    bif ((ae.length:Int):Int)==1 then
     (ae[0]?).bind fun x7=>
     (C jO [.int .i64 ((x7.cell 0).toInt),.int .i64 ((x7.cell 1).toInt),.list aa ((x7.cell 2).toList)]).bind fun r8=>
     some [.bool (!((V.nth r8 0).toBool))]
    else
     some [.bool false]
    else
    some [.bool false]
   else
   bif (ah:Int)==6 then
    (Loop (sa C ae (ae.length:Int)) 0).bind (bY (fun (rE:Bool)=>
     some [.bool rE]) (un fun (DX:Int) (zy:Bool)=>
     some [.bool true]))
   else
    bif (ah:Int)==8 then
    bif ((ae.length:Int):Int)==1 then
     (ae[0]?).bind fun EK=>
     (C jO [.int .i64 ((EK.cell 0).toInt),.int .i64 ((EK.cell 1).toInt),.list aa ((EK.cell 2).toList)]).bind fun gf=>
     some [.bool (!((V.nth gf 0).toBool))]
    else
     some [.bool false]
    else
    some [.bool false]
 else
  bif (ah:Int)==7 then
  some [.bool true]
  else
  bif (ah:Int)==4 then
   (C DK [.list aa ae]).bind fun kC=>
   some [.bool ((V.nth kC 0).toBool)]
  else
   bif (ah:Int)==5 then
   bif (ah:Int)==5 then
    (Loop (sa C ae (ae.length:Int)) 0).bind (bY (fun (zA:Bool)=>
     some [.bool zA]) (un fun (OZ:Int) (Yu:Bool)=>
     some [.bool true]))
   else
    bif (ah:Int)==8 then
    bif ((ae.length:Int):Int)==1 then
     (ae[0]?).bind fun wG=>
     (C jO [.int .i64 ((wG.cell 0).toInt),.int .i64 ((wG.cell 1).toInt),.list aa ((wG.cell 2).toList)]).bind fun er=>
     some [.bool (!((V.nth er 0).toBool))]
    else
     some [.bool false]
    else
    some [.bool false]
   else
   bif (ah:Int)==6 then
    (Loop (sa C ae (ae.length:Int)) 0).bind (bY (fun (O1:Bool)=>
     some [.bool O1]) (un fun (IW:Int) (IX:Bool)=>
     some [.bool true]))
   else
    bif (ah:Int)==8 then
    bif ((ae.length:Int):Int)==1 then
     (ae[0]?).bind fun js=>
     (C jO [.int .i64 ((js.cell 0).toInt),.int .i64 ((js.cell 1).toInt),.list aa ((js.cell 2).toList)]).bind fun JE=>
     some [.bool (!((V.nth JE 0).toBool))]
    else
     some [.bool false]
    else
    some [.bool false]
theorem aeP {ah ar:Int} {ae:List V} {r:Option (List V)} (h:SO CC ah ar ae=r):CC jO [.int .i64 ah,.int .i64 ar,.list aa ae]=r:=
 a9 (key:=61) (L:=SN CC) (bs:=[.loop (aw [1,0,1,0,1,1,1,1,1,0,0,1,0,0] SM)]) (by kernel_rfl) (bG (aeO CC) av) (aW (by kernel_rfl) h)
noncomputable def SP (C:ag) (s:List V):Option (List V):=
 (C DL [.list aa s]).bind fun r1=>
 some [.bool (decide ((((V.nth r1 0).toInt):Int)≥0))]
theorem aeQ {s:List V} {r:Option (List V)} (h:SP CC s=r):CC DK [.list aa s]=r:=
 a9 (key:=150) (L:=b9) (bs:=[]) (by kernel_rfl) av (aW (by kernel_rfl) h)
noncomputable abbrev SQ:Code:=cJ Try.prog (ay.aY 151)
noncomputable def AL (C:ag) (s:List V) (t7 t8:Int) {β:Type} (kn:Int→Option β) (kr:((Int) ⊕ (Int × Bool))→Option β):Option β:=
 bif decide ((t8:Int)<t7) then
  (idx s t8).bind fun x1=>
  (C jO [.int .i64 ((x1.cell 0).toInt),.int .i64 ((x1.cell 1).toInt),.list aa ((x1.cell 2).toList)]).bind fun r2=>
  bif (V.nth r2 0).toBool then
  kr (.inl t8)
  else
  kn (IntKind.wrap .i64 (t8+1))
 else
  kr (.inr (t8,decide ((t8:Int)<t7)))
noncomputable def E1 (C:ag) (s:List V) (t7:Int):(Int)→Option ((Int) ⊕ ((Int) ⊕ (Int × Bool))):=fun t8=>AL C s t7 t8 (fun y=>some (.inl y)) (fun r=>some (.inr r))
noncomputable def SR (C:ag):cy:=fun β n ds k=>
 bif Nat.beq n 33 then cj IT [false,false,true] [[0],[1,2,0,0]] (@AL C) ds k else
 none
abbrev aeR (C:ag) (b:cu):Prop:=cv Try.prog ay C (SR C) 151 (cM Try.prog (ay.aY 151)) (ay.sin 151).a8.length b
theorem aeS (C:ag):aeR C (.loop (aw [1,0,1,0,0] SQ)):=
 cw IT [false,false,true] [[0],[1,2,0,0]] (@AL C) (by kernel_rfl) (bf (bs:=[]) (by kernel_rfl) av) (fun ds=>by kernel_rfl) (fun i x=>by kernel_rfl) (fun i x β k=>by kernel_rfl) (fun β ds k=>by kernel_rfl)
noncomputable def Kh (C:ag) (s:List V):Option (List V):=
 (Loop (E1 C s (s.length:Int)) 0).bind (bY (fun (jQ:Int)=>
  some [.int .i64 jQ]) (un fun (lX:Int) (o4:Bool)=>
  some [.int .i64 (-1)]))
theorem SS {s:List V} {r:Option (List V)} (h:Kh CC s=r):CC DL [.list aa s]=r:=
 a9 (key:=151) (L:=SR CC) (bs:=[.loop (aw [1,0,1,0,0] SQ)]) (by kernel_rfl) (bG (aeS CC) av) (aW (by kernel_rfl) h)
end Go.AM
set_option maxRecDepth 100000
namespace Go.AM
open Go.Proofs Ex
theorem aeT {ks:List Ex} (hlen:ks.length≤maxLen) (ih: ∀k∈ks,CC jO (bJ k [])=some [.bool k.cY]):CC DK [.list aa (ks.map enc)]=some [.bool (lY ks)]:=by
 have:=qm
 refine aeQ ?_
 unfold SP
 have hl:=PM (step:=E1 CC (ks.map enc) ((ks.map enc).length:Int)) (ks:=ks) (fun i=>(i:Int)) cY (fun i=> .inl (i:Int)) (.inr (((ks.length:Nat):Int),false))
  (fun pre k aG aV=>by
   have bK:pre.length<ks.length:=by rw[aV];simp
   have hm:k∈ks:=by rw[aV];simp
   simp only[E1,AL,bm,aA]
   rw[aj (by omega),show idx (ks.map enc) (pre.length:Int)=some k.enc by rw[aV];exact iU _ _ _]
   simp only[Option.bind_some,bq,br,bt]
   rw[ih k hm]
   simp only[Option.bind_some,V.aS,V.dU]
   rw[wrap64 (by omega) (by omega)]
   cases k.cY<;>simp)
  (by
   simp only[E1,AL,bm,aA]
   rw[ai (by omega)]
   simp) ks [] rfl
 simp only[List.length_nil,Int.ofNat_zero,Int.natCast_zero] at hl
 rcases hl with ⟨h1,i,U⟩|⟨h1,U⟩
 ·have hi:CC DL [.list aa (ks.map enc)]=some [.int .i64 (i:Int)]:=by
   refine SS ?_
   unfold Kh
   erw [U];rfl
  rw[hi,I7,h1]
  simp
 ·have hi:CC DL [.list aa (ks.map enc)]=some [.int .i64 (-1)]:=by
   refine SS ?_
   unfold Kh
   erw [U];rfl
  rw[hi,I7,h1]
  simp
theorem aeU {letters:Int}: ∀e:Ex,e.Ok→e.wf letters=true→CC jO (bJ e [])=some [.bool e.cY]:=
 ind fun o l ks ih au yX=>by
  have:=qm
  have hlen:=au.len
  obtain ⟨w1,w2⟩:=g9 yX
  have kh: ∀k∈ks,CC jO (bJ k [])=some [.bool k.cY]:=fun k hk=>ih k hk (au.lW k hk) (w2 k hk)
  refine aeP ?_
  have oR:(Loop (sa CC (ks.map enc) ((ks.map enc).length:Int)) 0).bind (bY (fun (t:Bool)=>some [V.bool t]) (un fun (_:Int) (_:Bool)=>some [V.bool true]))=some [.bool (oa ks)]:=by
   have hl:=PM (step:=sa CC (ks.map enc) ((ks.map enc).length:Int)) (ks:=ks) (fun i=>(i:Int)) (fun k=> !(cY k)) (fun _=> .inl false) (.inr (((ks.length:Nat):Int),false))
    (fun pre k aG aV=>by
     have bK:pre.length<ks.length:=by rw[aV];simp
     have hm:k∈ks:=by rw[aV];simp
     simp only[sa,AK,bm,aA]
     rw[aj (by omega),show idx (ks.map enc) (pre.length:Int)=some k.enc by rw[aV];exact iU _ _ _]
     simp only[Option.bind_some,bq,br,bt]
     rw[kh k hm]
     simp only[Option.bind_some,V.aS,V.dU]
     rw[wrap64 (by omega) (by omega)]
     cases k.cY<;>simp)
    (by
     simp only[sa,AK,bm,aA]
     rw[ai (by omega)]
     simp) ks [] rfl
   simp only[List.length_nil,Int.ofNat_zero,Int.natCast_zero] at hl
   rcases hl with ⟨h1,i,U⟩|⟨h1,U⟩
   ·erw [U];rw[I8,h1];rfl
   ·erw [U];rw[I8,h1];rfl
  unfold SO
  simp only[Ex.op,Ex.cl,Ex.kids]
  rw[oR,aeT hlen kh]
  simp only[cY]
  rcases zB o with rfl|rfl|rfl|rfl|rfl|rfl|rfl|rfl|ho
  case inr.inr.inr.inr.inr.inr.inr.inr=>
   have n2:o≠2:=by omega
   have n4:o≠4:=by omega
   have n5:o≠5:=by omega
   have n6:o≠6:=by omega
   have n7:o≠7:=by omega
   have n8:o≠8:=by omega
   simp[n2,n4,n5,n6,n7,n8]
  case inr.inr.inr.inr.inr.inr.inr.inl=>
   have h1:=aaL w1
   match ks,h1,kh with
   | [k],_,kh=>
    have:=kh k (by simp)
    simp only[cG,gl,List.length_singleton,List.getElem?_cons_zero,Option.bind_some,bq,br,bt]
    rw[this]
    simp[lY]
  all_goals simp
def fC (op:Int):Int:=if op=4 then 1 else if op=6 then 2 else if op=5 then 3 else if op=8 then 4 else if op=7 then 5 else 6
def eg (op least:Int) (t:List UInt8):List UInt8:=if fC op<least then 40::(t++[41]) else t
mutual
def Ex.text:Ex→List UInt8
 | .node o l ks=>
  if o=1 then [48] else if o=2 then [49] else if o=3 then [UInt8.ofNat (97+l).toNat]
  else if o=8 then 33::texts [] 4 true ks else if o=7 then texts [] 5 true ks++[42]
  else if o=4 then texts [124] 2 true ks else if o=6 then texts [38] 3 true ks else texts [] 4 true ks
def Ex.texts (sep:List UInt8) (least:Int) (first:Bool):List Ex→List UInt8
 | []=>[]
 | k::ks=>(if first then [] else sep)++(eg k.op least (text k)++texts sep least false ks)
end
theorem aeV (op least:Int) (t:List UInt8):(eg op least t).length≤t.length+2:=by
 unfold eg;split<;>simp
theorem SU (sep:List UInt8) (hs:sep.length≤1) (least:Int): ∀(ks:List Ex) (f:Bool),(∀k∈ks,k.text.length+3≤4*k.size)→(texts sep least f ks).length≤4*aK ks
 | [],f,_=>by simp[texts]
 | k::ks,f,h=>by
  have h1:=h k (by simp)
  have U:=SU sep hs least ks false fun k hk=>h k (by simp[hk])
  have h3:=aeV k.op least k.text
  simp only[texts,b8,aK]
  cases f<;>simp<;>omega
theorem SV: ∀e:Ex,e.text.length+3≤4*e.size:=ind fun o l ks ih=>by
 have h:=fun sep hs least=>SU sep hs least ks true ih
 have h1:=h [] (by simp) 4
 have U:=h [] (by simp) 5
 have h3:=h [124] (by simp) 2
 have h4:=h [38] (by simp) 3
 simp only[text,size]
 repeat' split
 all_goals simp
 all_goals omega
def TX (m:Int) (k:Ex):List UInt8:=eg k.op m k.text
def mb (o:Int) (e:Ex):List Ex:=if e.op=o then e.kids else [e]
theorem AN (sep:List UInt8) (m:Int) (k:Ex) (ks:List Ex):texts sep m false (k::ks)=sep++(TX m k++texts sep m false ks):=by simp[texts,TX]
theorem AO (sep:List UInt8) (m:Int) (k:Ex) (ks:List Ex):texts sep m true (k::ks)=TX m k++texts sep m false ks:=by simp[texts,TX]
theorem SW (e:Ex):TX 1 e=texts [124] 2 true (mb 4 e):=by
 obtain ⟨o,l,ks⟩:=e
 unfold mb TX
 by_cases h:o=4
 ·subst h;simp[Ex.op,Ex.kids,fC,text,eg]
 ·have hl:2≤fC o:=by
   unfold fC
   repeat' split
   all_goals omega
  rw[ai (show¬(Ex.node o l ks).op=4 from h),AO]
  show eg o 1 _=eg o 2 _++[]
  rw[dz]
  unfold eg
  by_cases U:fC o<1
  ·rw[aj U,aj (by omega)]
  ·rw[ai U,ai (by omega)]
theorem SY (e:Ex):TX 2 e=texts [38] 3 true (mb 6 e):=by
 obtain ⟨o,l,ks⟩:=e
 unfold mb TX
 by_cases h:o=6
 ·subst h;simp[Ex.op,Ex.kids,fC,text,eg]
 ·have hl:fC o≠2:=by
   unfold fC
   repeat' split
   all_goals omega
  rw[ai (show¬(Ex.node o l ks).op=6 from h),AO]
  show eg o 2 _=eg o 3 _++[]
  rw[dz]
  unfold eg
  by_cases U:fC o<2
  ·rw[aj U,aj (by omega)]
  ·rw[ai U,ai (by omega)]
theorem SZ (e:Ex):TX 3 e=texts [] 4 true (mb 5 e):=by
 obtain ⟨o,l,ks⟩:=e
 unfold mb TX
 by_cases h:o=5
 ·subst h;simp[Ex.op,Ex.kids,fC,text,eg]
 ·have hl:fC o≠3:=by
   unfold fC
   repeat' split
   all_goals omega
  rw[ai (show¬(Ex.node o l ks).op=5 from h),AO]
  show eg o 3 _=eg o 4 _++[]
  rw[dz]
  unfold eg
  by_cases U:fC o<3
  ·rw[aj U,aj (by omega)]
  ·rw[ai U,ai (by omega)]
theorem AP (l:Int) (k:Ex):TX 4 (.node 8 l [k])=33::TX 4 k:=by
 simp[TX,eg,Ex.op,fC,text,texts]
theorem AQ {e:Ex} (h:e.op≠8):TX 4 e=TX 5 e:=by
 unfold TX eg fC
 repeat' split
 all_goals first|rfl|omega
theorem aeW (l:Int) (k:Ex):TX 5 (.node 7 l [k])=TX 5 k++[42]:=by
 simp[TX,eg,Ex.op,fC,text,texts]
theorem aeX {e:Ex} (h:e.op≠7):TX 5 e=TX 6 e:=by
 unfold TX eg fC
 repeat' split
 all_goals first|rfl|omega
theorem pg {e:Ex} (h:4≤e.op∧e.op≤8):TX 6 e=40::(TX 1 e++[41]):=by
 unfold TX eg fC
 repeat' split
 all_goals first|rfl|omega
theorem Ki {e:Ex} (h:e.wf 6=true):(e= .node 1 0 []∨e= .node 2 0 []∨(∃l:Int,0≤l∧l<6∧e= .node 3 l []))∨(4≤e.op∧e.op≤8):=by
 obtain ⟨o,l,ks⟩:=e
 obtain ⟨h1,U⟩:=g9 h
 simp only[Ex.op]
 rcases eG h1 with ⟨rfl,h,h3,h4⟩|⟨rfl,⟨rfl,h⟩|⟨rfl,h⟩|⟨rfl,h⟩|⟨rfl,h⟩|⟨rfl,h⟩|⟨rfl,h⟩|⟨rfl,h⟩⟩
 ·obtain rfl:=pr.1 (show ks.length=0 by omega)
  exact .inl (.inr (.inr ⟨l,h3,h4,rfl⟩))
 ·obtain rfl:=pr.1 (show ks.length=0 by omega)
  exact .inl (.inl rfl)
 ·obtain rfl:=pr.1 (show ks.length=0 by omega)
  exact .inl (.inr (.inl rfl))
 all_goals exact .inr (by omega)
def AR (c:UInt8):Prop:=c=48∨c=49∨c=40∨c=97∨c=98∨c=99∨c=100∨c=101∨c=102
theorem qD {l:Int} (h0:0≤l) (h1:l<6):UInt8.ofNat (97+l).toNat=97∧l=0∨UInt8.ofNat (97+l).toNat=98∧l=1∨UInt8.ofNat (97+l).toNat=99∧l=2∨UInt8.ofNat (97+l).toNat=100∧l=3∨UInt8.ofNat (97+l).toNat=101∧l=4∨UInt8.ofNat (97+l).toNat=102∧l=5:=by
 rcases (show l=0∨l=1∨l=2∨l=3∨l=4∨l=5 by omega) with rfl|rfl|rfl|rfl|rfl|rfl<;>decide
theorem aeY {e:Ex} (h:e.wf 6=true): ∃c t,TX 6 e=c::t∧AR c:=by
 rcases Ki h with (rfl|rfl|⟨l,h0,h1,rfl⟩)|h
 ·exact ⟨48,[],rfl,.inl rfl⟩
 ·exact ⟨49,[],rfl,.inr (.inl rfl)⟩
 ·refine ⟨UInt8.ofNat (97+l).toNat,[],by simp[TX,eg,fC,Ex.op,text],?_⟩
  unfold AR
  rcases qD h0 h1 with h|h|h|h|h|h<;>simp[h.1]
 ·exact ⟨40,_,pg h,.inr (.inr (.inl rfl))⟩
theorem AS {o l:Int} {ks:List Ex} (h:(Ex.node o l ks).wf 6=true) (ho:o=7∨o=8): ∃k,ks=[k]∧k.wf 6=true∧l=0:=by
 obtain ⟨h1,U⟩:=g9 h
 rcases eG h1 with h|⟨h0,h⟩
 ·omega
 ·obtain ⟨k,rfl⟩:=xy.1 (show ks.length=1 by omega)
  exact ⟨k,rfl,U k (by simp),h0⟩
def Kj (e:Ex):Nat→Ex
 | 0=>e
 | n+1=> .node 7 0 [Kj e n]
theorem Kk: ∀e:Ex,e.wf 6=true→∃(b:Ex) (n:Nat),e=Kj b n∧b.op≠7∧b.wf 6=true∧TX 5 e=TX 6 b++List.replicate n 42:=ind fun o l ks ih h=>by
 by_cases ho:o=7
 ·subst ho
  obtain ⟨k,rfl,hk,rfl⟩:=AS h (.inl rfl)
  obtain ⟨b,n,h1,U,h3,h4⟩:=ih k (by simp) hk
  exact ⟨b,n+1,by rw[h1];rfl,U,h3,by rw[aeW,h4,List.replicate_succ',ca]⟩
 ·exact ⟨.node o l ks,0,rfl,ho,h,by rw[aeX (show (Ex.node o l ks).op≠7 from ho)];simp⟩
theorem Kl {e:Ex} (h:e.wf 6=true): ∃c t,TX 5 e=c::t∧AR c:=by
 obtain ⟨b,n,_,_,h3,h4⟩:=Kk e h
 obtain ⟨c,t,h5,h6⟩:=aeY h3
 exact ⟨c,t++List.replicate n 42,by rw[h4,h5];rfl,h6⟩
theorem aeZ {e:Ex} (h:e.wf 6=true): ∃c t,TX 4 e=c::t∧(c=33∨AR c):=by
 by_cases ho:e.op=8
 ·obtain ⟨o,l,ks⟩:=e
  obtain rfl:o=8:=ho
  obtain ⟨k,rfl,_⟩:=AS h (.inr rfl)
  exact ⟨33,TX 4 k,AP _ _,.inl rfl⟩
 ·obtain ⟨c,t,h1,U⟩:=Kl h
  exact ⟨c,t,by rw[AQ ho,h1],.inr U⟩
def gg (m:Int) (c:UInt8):Prop:=if m=1 then c=41 else if m=2 then c=41∨c=124 else if m=3 then c=41∨c=124∨c=38 else if m=6 then True else c≠42
def fo (m:Int) (r:List UInt8):Prop:= ∀c t,r=c::t→gg m c
theorem S0 {m:Int}:fo m []:=fun c t h=>by cases h
theorem Km {m:Int} {c:UInt8} {t:List UInt8} (h:gg m c):fo m (c::t):=fun c' t' e=>by cases e;exact h
def jv (m:Int) (e:Ex):Prop:= ∀(e':Ex) (r r':List UInt8),e'.wf 6=true→fo m r→fo m r'→TX m e++r=TX m e'++r'→e=e'∧r=r'
theorem AT {o:Int} {e:Ex} (h:e.wf 6=true): ∀x∈mb o e,x.wf 6=true:=fun x hx=>by
 unfold mb at hx
 split at hx
 ·obtain ⟨o,l,ks⟩:=e
  exact (g9 h).2 x hx
 ·rw[dW.1 hx];exact h
theorem S3 {o:Int} {e:Ex} (ho:4≤o∧o≤6) (h:e.wf 6=true): ∃x xs,mb o e=x::xs:=by
 unfold mb
 split
 ·next kT=>
  obtain ⟨o,l,ks⟩:=e
  obtain ⟨h1,U⟩:=g9 h
  simp only[Ex.op] at kT
  match ks,h1 with
  | [],h1=>rcases eG h1 with h|⟨_,h⟩<;>simp at h<;>omega
  | x::xs,_=>exact ⟨x,xs,rfl⟩
 ·exact ⟨e,[],rfl⟩
theorem ae0 {o:Int} {e e':Ex} (ho:4≤o∧o≤6) (h:e.wf 6=true) (h':e'.wf 6=true) (he:mb o e=mb o e'):e=e':=by
 have hl: ∀{x:Ex},x.wf 6=true→x.op=o→x.cl=0∧2≤x.kids.length:=fun {x} hx Hd=>by
  obtain ⟨o,l,ks⟩:=x
  obtain ⟨h1,U⟩:=g9 hx
  simp only[Ex.op,Ex.cl,Ex.kids] at*
  rcases eG h1 with h|⟨_,h⟩<;>omega
 unfold mb at he
 by_cases h1:e.op=o
 ·obtain ⟨a1,a2⟩:=hl h h1
  rw[aj h1] at he
  by_cases U:e'.op=o
  ·obtain ⟨b1,b2⟩:=hl h' U
   rw[aj U] at he
   obtain ⟨o1,l1,k1⟩:=e
   obtain ⟨o2,l2,k2⟩:=e'
   simp only[Ex.op,Ex.cl,Ex.kids] at*
   subst he h1 U a1 b1
   rfl
  ·rw[ai U] at he
   rw[he] at a2
   simp at a2
 ·rw[ai h1] at he
  by_cases U:e'.op=o
  ·obtain ⟨b1,b2⟩:=hl h' U
   rw[aj U] at he
   rw[←he] at b2
   simp at b2
  ·rw[ai U] at he
   exact (fO he).1
section
variable {sep:List UInt8} {m:Int} (hh: ∀y:Ex,y.wf 6=true→∃c t,sep++TX m y=c::t∧gg m c∧¬gg (m-1) c) (hf: ∀c,gg (m-1) c→gg m c)
include hh hf
theorem E2 {ys:List Ex} {r:List UInt8} (hy: ∀y∈ys,y.wf 6=true) (hr:fo (m-1) r):fo m (texts sep m false ys++r):=by
 cases ys with
 | nil=>exact fun c t e=>hf c (hr c t e)
 | cons y ys=>
  obtain ⟨c,t,h1,U,h3⟩:=hh y (hy y (by simp))
  rw[AN,←ca sep,h1]
  exact Km U
theorem S4: ∀(xs ys:List Ex) (r r':List UInt8),(∀x∈xs,x.wf 6=true∧jv m x)→(∀y∈ys,y.wf 6=true)→fo (m-1) r→fo (m-1) r'→texts sep m false xs++r=texts sep m false ys++r'→xs=ys∧r=r'
 | [],[],r,r',_,_,_,_,h=>⟨rfl,h⟩
 | [],y::ys,r,r',_,hy,hr,_,h=>by
  obtain ⟨c,t,h1,U,h3⟩:=hh y (hy y (by simp))
  rw[AN,←ca sep,h1] at h
  exact absurd (hr c _ (by simpa[texts] using h)) h3
 | x::xs,[],r,r',hx,_,_,hr,h=>by
  obtain ⟨c,t,h1,U,h3⟩:=hh x (hx x (by simp)).1
  rw[AN,←ca sep,h1] at h
  exact absurd (hr c _ (by simpa[texts] using h.symm)) h3
 | x::xs,y::ys,r,r',hx,hy,hr,gT,h=>by
  rw[AN,AN,ca,ca,ca,ca] at h
  obtain ⟨rfl,U⟩:=(hx x (by simp)).2 y _ _ (hy y (by simp)) (E2 hh hf (fun z hz=>(hx z (by simp[hz])).1) hr) (E2 hh hf (fun z hz=>hy z (by simp[hz])) gT) (List.append_cancel_left h)
  obtain ⟨rfl,h3⟩:=S4 xs ys r r' (fun z hz=>hx z (by simp[hz])) (fun z hz=>hy z (by simp[hz])) hr gT U
  exact ⟨rfl,h3⟩
theorem Kn {o:Int} (ho:4≤o∧o≤6) (ht: ∀e:Ex,TX (m-1) e=texts sep m true (mb o e)) {e:Ex} (he:e.wf 6=true) (ih: ∀x∈mb o e,jv m x):jv (m-1) e:=by
 intro e' r r' gx hr gT h
 rw[ht,ht] at h
 obtain ⟨x,xs,hx⟩:=S3 ho he
 obtain ⟨y,ys,hy⟩:=S3 ho gx
 have wx:=AT (o:=o) he
 have wy:=AT (o:=o) gx
 rw[hx] at wx ih
 rw[hy] at wy
 rw[hx,hy,AO,AO,ca,ca] at h
 obtain ⟨rfl,U⟩:=ih x (by simp) y _ _ (wy y (by simp)) (E2 hh hf (fun z hz=>wx z (by simp[hz])) hr) (E2 hh hf (fun z hz=>wy z (by simp[hz])) gT) h
 obtain ⟨rfl,h3⟩:=S4 hh hf xs ys r r' (fun z hz=>⟨wx z (by simp[hz]),ih z (by simp[hz])⟩) (fun z hz=>wy z (by simp[hz])) hr gT U
 exact ⟨ae0 ho he gx (by rw[hx,hy]),h3⟩
end
theorem Ko {c:UInt8} (h:AR c):c≠33∧c≠41∧c≠42∧c≠124∧c≠38:=by
 rcases h with rfl|rfl|rfl|rfl|rfl|rfl|rfl|rfl|rfl<;>decide
theorem ae1 {e:Ex} (he:e.wf 6=true) (ih: ∀x∈mb 4 e,jv 2 x):jv 1 e:=
 Kn (sep:=[124]) (m:=2) (fun y _=>⟨124,_,rfl,by simp[gg],by simp[gg]⟩) (fun c h=>by simp[gg] at h⊢;exact .inl h) (o:=4) (by omega) SW he ih
theorem si {e:Ex} (he:e.wf 6=true) (ih: ∀x∈mb 6 e,jv 3 x):jv 2 e:=
 Kn (sep:=[38]) (m:=3) (fun y _=>⟨38,_,rfl,by simp[gg],by simp[gg]⟩) (fun c h=>by simp[gg] at h⊢;rcases h with h|h<;>simp[h]) (o:=6) (by omega) SY he ih
theorem ae2 {e:Ex} (he:e.wf 6=true) (ih: ∀x∈mb 5 e,jv 4 x):jv 3 e:=
 Kn (sep:=[]) (m:=4) (fun y hy=>by
  obtain ⟨c,t,h1,U⟩:=aeZ hy
  refine ⟨c,t,h1,?_⟩
  rcases U with rfl|U
  ·simp[gg]
  ·have:=Ko U
   simp[gg,this]) (fun c h=>by simp[gg] at h⊢;rcases h with rfl|rfl|rfl<;>decide) (o:=5) (by omega) SZ he ih
theorem ae3 {e:Ex} (he:e.wf 6=true) (ih8: ∀k,e= .node 8 0 [k]→jv 4 k) (ih:e.op≠8→jv 5 e):jv 4 e:=by
 intro e' r r' gx hr gT h
 by_cases h1:e.op=8
 ·obtain ⟨o,l,ks⟩:=e
  obtain rfl:o=8:=h1
  obtain ⟨k,rfl,hk,rfl⟩:=AS he (.inr rfl)
  rw[AP] at h
  by_cases U:e'.op=8
  ·obtain ⟨o',l',bC⟩:=e'
   obtain rfl:o'=8:=U
   obtain ⟨k',rfl,cR,rfl⟩:=AS gx (.inr rfl)
   rw[AP] at h
   obtain ⟨rfl,h3⟩:=ih8 k rfl k' r r' cR hr gT (fO h).2
   exact ⟨rfl,h3⟩
  ·rw[AQ U] at h
   obtain ⟨c,t,h3,h4⟩:=Kl gx
   rw[h3] at h
   exact absurd (fO h).1.symm (Ko h4).1
 ·rw[AQ h1] at h
  by_cases U:e'.op=8
  ·obtain ⟨o',l',bC⟩:=e'
   obtain rfl:o'=8:=U
   obtain ⟨k',rfl,cR,rfl⟩:=AS gx (.inr rfl)
   rw[AP] at h
   obtain ⟨c,t,h3,h4⟩:=Kl he
   rw[h3] at h
   exact absurd (fO h).1 (Ko h4).1
  ·rw[AQ U] at h
   exact ih h1 e' r r' gx (by simpa[fo,gg] using hr) (by simpa[fo,gg] using gT) h
theorem S5 {r r':List UInt8} (hr:fo 5 r) (gT:fo 5 r'): ∀{n n':Nat},List.replicate n 42++r=List.replicate n' 42++r'→n=n'∧r=r'
 | 0,0,h=>⟨rfl,h⟩
 | 0,n+1,h=>by
  have:=hr 42 (List.replicate n 42++r') (by simpa[List.replicate_succ] using h)
  simp[gg] at this
 | n+1,0,h=>by
  have:=gT 42 (List.replicate n 42++r) (by simpa[List.replicate_succ] using h.symm)
  simp[gg] at this
 | n+1,n'+1,h=>by
  rw[List.replicate_succ,List.replicate_succ] at h
  obtain ⟨rfl,U⟩:=S5 hr gT (fO h).2
  exact ⟨rfl,U⟩
theorem S6 (r:List UInt8):fo 6 r:=fun c t _=>by simp[gg]
theorem ae4 {b:Ex} {n:Nat} {e:Ex} (h1:e=Kj b n) (U:TX 5 e=TX 6 b++List.replicate n 42) (ih:jv 6 b):jv 5 e:=by
 intro e' r r' gx hr gT h
 obtain ⟨b',n',e1,e2,e3,e4⟩:=Kk e' gx
 rw[U,e4,ca,ca] at h
 obtain ⟨rfl,h3⟩:=ih b' _ _ e3 (S6 _) (S6 _) h
 obtain ⟨rfl,h4⟩:=S5 hr gT h3
 exact ⟨by rw[h1,e1],h4⟩
theorem ae5 {e:Ex} (he:e.wf 6=true) (ih:4≤e.op∧e.op≤8→jv 1 e):jv 6 e:=by
 intro e' r r' gx hr gT h
 have hl: ∀l:Int,TX 6 (.node 3 l [])=[UInt8.ofNat (97+l).toNat]:=fun l=>by simp[TX,eg,fC,Ex.op,text]
 have t1:TX 6 (.node 1 0 [])=[48]:=rfl
 have t2:TX 6 (.node 2 0 [])=[49]:=rfl
 rcases Ki he with (rfl|rfl|⟨l,h0,h1,rfl⟩)|ho<;>rcases Ki gx with (rfl|rfl|⟨l',vf,e7,rfl⟩)|iO
 ·exact ⟨rfl,List.append_cancel_left h⟩
 ·rw[t1,t2] at h;cases (fO h).1
 ·rw[t1,hl] at h
  have:=(fO h).1
  rcases qD vf e7 with h|h|h|h|h|h<;>(rw[h.1] at this;cases this)
 ·rw[t1,pg iO] at h;cases (fO h).1
 ·rw[t1,t2] at h;cases (fO h).1
 ·exact ⟨rfl,List.append_cancel_left h⟩
 ·rw[t2,hl] at h
  have:=(fO h).1
  rcases qD vf e7 with h|h|h|h|h|h<;>(rw[h.1] at this;cases this)
 ·rw[t2,pg iO] at h;cases (fO h).1
 ·rw[t1,hl] at h
  have:=(fO h).1
  rcases qD h0 h1 with h|h|h|h|h|h<;>(rw[h.1] at this;cases this)
 ·rw[t2,hl] at h
  have:=(fO h).1
  rcases qD h0 h1 with h|h|h|h|h|h<;>(rw[h.1] at this;cases this)
 ·rw[hl,hl] at h
  obtain ⟨U,h3⟩:=fO h
  refine ⟨?_,h3⟩
  have:l=l':=by
   rcases qD h0 h1 with ⟨a,rfl⟩|⟨a,rfl⟩|⟨a,rfl⟩|⟨a,rfl⟩|⟨a,rfl⟩|⟨a,rfl⟩<;>rcases qD vf e7 with ⟨b,rfl⟩|⟨b,rfl⟩|⟨b,rfl⟩|⟨b,rfl⟩|⟨b,rfl⟩|⟨b,rfl⟩<;>first|rfl|(rw[a,b] at U;cases U)
  rw[this]
 ·rw[hl,pg iO] at h
  have:=(fO h).1
  rcases qD h0 h1 with h|h|h|h|h|h<;>(rw[h.1] at this;cases this)
 ·rw[t1,pg ho] at h;cases (fO h).1
 ·rw[t2,pg ho] at h;cases (fO h).1
 ·rw[hl,pg ho] at h
  have:=(fO h).1
  rcases qD vf e7 with h|h|h|h|h|h<;>(rw[h.1] at this;cases this)
 ·rw[pg ho,pg iO] at h
  have U:(TX 1 e++[41])++r=(TX 1 e'++[41])++r':=(fO h).2
  rw[ca,ca] at U
  obtain ⟨h3,h4⟩:=ih ho e' _ _ gx (Km (by simp[gg])) (Km (by simp[gg])) U
  exact ⟨h3,(fO h4).2⟩
theorem E3 {sep:List UInt8} {m:Int}: ∀{xs:List Ex} {f:Bool} {x:Ex},x∈xs→(TX m x).length≤(texts sep m f xs).length
 | y::ys,f,x,h=>by
  simp only[texts,b8]
  rcases cX.1 h with rfl|h
  ·show (eg x.op m x.text).length≤_;omega
  ·have:=E3 (sep:=sep) (m:=m) (f:=false) h
   omega
theorem S7: ∀(n:Nat) (m:Int) (e:Ex),1≤m→m≤6→e.wf 6=true→8*(TX m e).length+(7-m).toNat<n→jv m e
 | 0,m,e,_,_,_,h=>by omega
 | n+1,m,e,h1,h6,he,h=>by
  have ih:=S7 n
  rcases (show m=1∨m=2∨m=3∨m=4∨m=5∨m=6 by omega) with rfl|rfl|rfl|rfl|rfl|rfl
  ·refine ae1 he fun x hx=>ih 2 x (by omega) (by omega) (AT he x hx) ?_
   have:=E3 (sep:=[124]) (m:=2) (f:=true) hx
   rw[SW] at h
   omega
  ·refine si he fun x hx=>ih 3 x (by omega) (by omega) (AT he x hx) ?_
   have:=E3 (sep:=[38]) (m:=3) (f:=true) hx
   rw[SY] at h
   omega
  ·refine ae2 he fun x hx=>ih 4 x (by omega) (by omega) (AT he x hx) ?_
   have:=E3 (sep:=[]) (m:=4) (f:=true) hx
   rw[SZ] at h
   omega
  ·refine ae3 he (fun k hk=> ?_) fun ho=> ?_
   ·subst hk
    rw[AP,List.length_cons] at h
    exact ih 4 k (by omega) (by omega) ((g9 he).2 k (by simp)) (by omega)
   ·rw[AQ ho] at h
    exact ih 5 e (by omega) (by omega) he (by omega)
  ·obtain ⟨b,k,e1,e2,e3,e4⟩:=Kk e he
   refine ae4 e1 e4 (ih 6 b (by omega) (by omega) e3 ?_)
   rw[e4,b8] at h
   omega
  ·refine ae5 he fun ho=>ih 1 e (by omega) (by omega) he ?_
   rw[pg ho,List.length_cons,b8] at h
   simp only[List.length_cons,List.length_nil] at h
   omega
theorem S8 (e:Ex):TX 1 e=e.text:=by
 unfold TX eg
 rw[ai]
 unfold fC
 repeat' split
 all_goals omega
theorem S9 {a b:Ex} (ha:a.wf 6=true) (hb:b.wf 6=true) (h:a.text=b.text):a=b:=
 (S7 _ 1 a (by omega) (by omega) ha (xk _) b [] [] hb S0 S0 (by rw[S8,S8,h])).1
end Go.AM
set_option maxRecDepth 100000
namespace Go.AM
open Go.Proofs
noncomputable def Ta (C:ag) (ah ar:Int) (ae:List V):Option (List V):=
 (C za [.int .i64 ah,.int .i64 ar,.list aa ae]).bind fun r1=>
 bif !((V.nth r1 0).toBool) then
  some [.str []]
 else
  (C rz [.int .i64 ah,.int .i64 ar,.list aa ae,.list cL ([]:List V)]).bind fun r2=>
  (C Ds [.list cL ((V.nth r2 0).toList)]).bind fun r3=>
  some [.str ((V.nth r3 0).toStr)]
theorem ae6 {ah ar:Int} {ae:List V} {r:Option (List V)} (h:Ta CC ah ar ae=r):CC vO [.int .i64 ah,.int .i64 ar,.list aa ae]=r:=
 a9 (key:=60) (L:=b9) (bs:=[]) (by kernel_rfl) av (aW (by kernel_rfl) h)
noncomputable abbrev hO:Code:=cJ Try.prog (ay.aY 75)
noncomputable def E4 (C:ag) (t5:Int) (t28:Bool) (eF eb:Int) (dt bN:List V) {β:Type} (kr:(List V)→Option β):Option β:=
 bif t28 then
  (C rB [.list aa dt,.str [38],.int .i64 3,.list cL bN]).bind fun r5=>
  kr ((V.nth r5 0).toList)
 else
  bif (t5:Int)==5 then
  (C rB [.list aa dt,.str [],.int .i64 4,.list cL bN]).bind fun r6=>
  kr ((V.nth r6 0).toList)
  else
  bif (t5:Int)==8 then
   (C oX [.int .u8 33,.list cL bN]).bind fun r7=>
   (C rB [.list aa dt,.str [],.int .i64 4,.list cL ((V.nth r7 0).toList)]).bind fun r8=>
   kr ((V.nth r8 0).toList)
  else
   bif (t5:Int)==7 then
   (C rB [.list aa dt,.str [],.int .i64 5,.list cL bN]).bind fun r9=>
   (C oX [.int .u8 42,.list cL ((V.nth r9 0).toList)]).bind fun dV=>
   kr ((V.nth dV 0).toList)
   else
   kr bN
noncomputable def E5 (C:ag) (t5:Int) (t22:Bool) (eF eb:Int) (dt bN:List V) {β:Type} (kr:(List V)→Option β):Option β:=
 bif t22 then
  (C rB [.list aa dt,.str [124],.int .i64 2,.list cL bN]).bind fun r4=>
  kr ((V.nth r4 0).toList)
 else
  E4 C t5 ((t5:Int)==6) eF eb dt bN (fun (uq:List V)=>
   kr uq)
noncomputable def E6 (C:ag) (t5:Int) (t14:Bool) (eF eb:Int) (dt bN:List V) {β:Type} (kr:(List V)→Option β):Option β:=
 bif t14 then
  (C oX [.int .u8 (IntKind.wrap .u8 (97+(IntKind.wrap .u8 eb))),.list cL bN]).bind fun r3=>
  kr ((V.nth r3 0).toList)
 else
  E5 C t5 ((t5:Int)==4) eF eb dt bN (fun (AU:List V)=>
   kr AU)
noncomputable def E7 (C:ag) (t5:Int) (t10:Bool) (eF eb:Int) (dt bN:List V) {β:Type} (kr:(List V)→Option β):Option β:=
 bif t10 then
  (C oX [.int .u8 49,.list cL bN]).bind fun r2=>
  kr ((V.nth r2 0).toList)
 else
  E6 C t5 ((t5:Int)==3) eF eb dt bN (fun (ae7:List V)=>
   kr ae7)
noncomputable def E8 (C:ag) (t5:Int) (t6:Bool) (eF eb:Int) (dt bN:List V) {β:Type} (kr:(List V)→Option β):Option β:=
 bif t6 then
  (C oX [.int .u8 48,.list cL bN]).bind fun r1=>
  kr ((V.nth r1 0).toList)
 else
  E7 C t5 ((t5:Int)==2) eF eb dt bN (fun (Kp:List V)=>
   kr Kp)
noncomputable def Tb (C:ag):cy:=fun β n ds k=>
 bif Nat.beq n 463 then iA H3 [[0]] (@E4 C) ds k else
 bif Nat.beq n 367 then iA H4 [[0]] (@E5 C) ds k else
 bif Nat.beq n 239 then iA H5 [[0]] (@E6 C) ds k else
 bif Nat.beq n 175 then iA H6 [[0]] (@E7 C) ds k else
 bif Nat.beq n 111 then iA H7 [[0]] (@E8 C) ds k else
 none
abbrev AV (C:ag) (b:cu):Prop:=cv Try.prog ay C (Tb C) 75 (cM Try.prog (ay.aY 75)) (ay.sin 75).a8.length b
theorem ae8 (C:ag):AV C (.cond 28 (aw [1,1,0,1,1,1,1,1,1,1,1,1,0] hO) (aw [1,1,0,1,1,1,1,1,1,1,1,1,1] hO)):=
 iT H3 [[0]] (@E4 C) (by kernel_rfl) (bf (bs:=[]) (by kernel_rfl) av) (bf (bs:=[]) (by kernel_rfl) av) (fun ds=>by kernel_rfl) (fun i β k=>by kernel_rfl) (fun β ds k=>by kernel_rfl)
theorem ae9 (C:ag):AV C (.cond 22 (aw [1,1,0,1,1,1,1,1,1,1,0] hO) (aw [1,1,0,1,1,1,1,1,1,1,1] hO)):=
 iT H4 [[0]] (@E5 C) (by kernel_rfl) (bf (bs:=[]) (by kernel_rfl) av) (bf (bs:=[.cond 28 (aw [1,1,0,1,1,1,1,1,1,1,1,1,0] hO) (aw [1,1,0,1,1,1,1,1,1,1,1,1,1] hO)]) (by kernel_rfl) (bG (ae8 C) av)) (fun ds=>by kernel_rfl) (fun i β k=>by kernel_rfl) (fun β ds k=>by kernel_rfl)
theorem afa (C:ag):AV C (.cond 14 (aw [1,1,0,1,1,1,1,1,0] hO) (aw [1,1,0,1,1,1,1,1,1] hO)):=
 iT H5 [[0]] (@E6 C) (by kernel_rfl) (bf (bs:=[]) (by kernel_rfl) av) (bf (bs:=[.cond 22 (aw [1,1,0,1,1,1,1,1,1,1,0] hO) (aw [1,1,0,1,1,1,1,1,1,1,1] hO)]) (by kernel_rfl) (bG (ae9 C) av)) (fun ds=>by kernel_rfl) (fun i β k=>by kernel_rfl) (fun β ds k=>by kernel_rfl)
theorem afb (C:ag):AV C (.cond 10 (aw [1,1,0,1,1,1,0] hO) (aw [1,1,0,1,1,1,1] hO)):=
 iT H6 [[0]] (@E7 C) (by kernel_rfl) (bf (bs:=[]) (by kernel_rfl) av) (bf (bs:=[.cond 14 (aw [1,1,0,1,1,1,1,1,0] hO) (aw [1,1,0,1,1,1,1,1,1] hO)]) (by kernel_rfl) (bG (afa C) av)) (fun ds=>by kernel_rfl) (fun i β k=>by kernel_rfl) (fun β ds k=>by kernel_rfl)
theorem afc (C:ag):AV C (.cond 6 (aw [1,1,0,1,0] hO) (aw [1,1,0,1,1] hO)):=
 iT H7 [[0]] (@E8 C) (by kernel_rfl) (bf (bs:=[]) (by kernel_rfl) av) (bf (bs:=[.cond 10 (aw [1,1,0,1,1,1,0] hO) (aw [1,1,0,1,1,1,1] hO)]) (by kernel_rfl) (bG (afb C) av)) (fun ds=>by kernel_rfl) (fun i β k=>by kernel_rfl) (fun β ds k=>by kernel_rfl)
noncomputable def Tc (C:ag) (ah ar:Int) (ae bH:List V):Option (List V):=
 E8 C ah ((ah:Int)==1) ah ar ae bH (fun (Kq:List V)=>
  some [.list cL Kq])
theorem afd {ah ar:Int} {ae bH:List V} {r:Option (List V)} (h:Tc CC ah ar ae bH=r):CC rz [.int .i64 ah,.int .i64 ar,.list aa ae,.list cL bH]=r:=
 a9 (key:=75) (L:=Tb CC) (bs:=[.cond 6 (aw [1,1,0,1,0] hO) (aw [1,1,0,1,1] hO)]) (by kernel_rfl) (bG (afc CC) av) (aW (by kernel_rfl) h)
noncomputable abbrev xe:Code:=cJ Try.prog (ay.aY 91)
noncomputable def AW (C:ag) (separator:List UInt8) (least:Int) (t10:List V) (t11 t12:Int) (t18:Bool) (ahD ahE:Int) (ahF bN:List V) {β:Type} (kr:(List V)→Option β):Option β:=
 bif t18 then
  (C Dy [.str separator,.list cL bN]).bind fun r2=>
  kr ((V.nth (r2.drop 1) 0).toList)
 else
  kr bN
noncomputable def AX (C:ag) (separator:List UInt8) (least:Int) (t10:List V) (t11 t12:Int) (ee:List V) {β:Type} (kn:(Int × (List V))→Option β) (kr:(Int × Bool × (List V))→Option β):Option β:=
 bif decide ((t12:Int)<t11) then
  (idx t10 t12).bind fun x1=>
  AW C separator least t10 t11 t12 (decide ((t12:Int)>0)) ((x1.cell 0).toInt) ((x1.cell 1).toInt) ((x1.cell 2).toList) ee (fun (EP:List V)=>
   (C Dz [.int .i64 ((x1.cell 0).toInt)]).bind fun r4=>
   bif decide ((((V.nth r4 0).toInt):Int)≥least) then
   (C rz [.int .i64 ((x1.cell 0).toInt),.int .i64 ((x1.cell 1).toInt),.list aa ((x1.cell 2).toList),.list cL EP]).bind fun r5=>
   kn (IntKind.wrap .i64 (t12+1),(V.nth r5 0).toList)
   else
   (C oX [.int .u8 40,.list cL EP]).bind fun r6=>
   (C rz [.int .i64 ((x1.cell 0).toInt),.int .i64 ((x1.cell 1).toInt),.list aa ((x1.cell 2).toList),.list cL ((V.nth r6 0).toList)]).bind fun r7=>
   (C oX [.int .u8 41,.list cL ((V.nth r7 0).toList)]).bind fun r8=>
   kn (IntKind.wrap .i64 (t12+1),(V.nth r8 0).toList))
 else
  kr (t12,decide ((t12:Int)<t11),ee)
noncomputable def AY (C:ag) (separator:List UInt8) (least:Int) (t10:List V) (t11:Int):(Int × (List V))→Option ((Int × (List V)) ⊕ (Int × Bool × (List V))):=un fun t12 ee=>AX C separator least t10 t11 t12 ee (fun y=>some (.inl y)) (fun r=>some (.inr r))
noncomputable def Td (C:ag):cy:=fun β n ds k=>
 bif Nat.beq n 303 then iA H9 [[1,2,3,4,5,7,8,9,0]] (@AW C) ds k else
 bif Nat.beq n 17 then cj Ia [false,false,false,false,true,true] [[1,2,3,4,0,0,0]] (@AX C) ds k else
 none
abbrev Te (C:ag) (b:cu):Prop:=cv Try.prog ay C (Td C) 91 (cM Try.prog (ay.aY 91)) (ay.sin 91).a8.length b
theorem afe (C:ag):Te C (.cond 18 (aw [1,0,0,1,1,0,0,1,0,1,0] xe) (aw [1,0,0,1,1,0,0,1,0,1,1] xe)):=
 iT H9 [[1,2,3,4,5,7,8,9,0]] (@AW C) (by kernel_rfl) (bf (bs:=[]) (by kernel_rfl) av) (bf (bs:=[]) (by kernel_rfl) av) (fun ds=>by kernel_rfl) (fun i β k=>by kernel_rfl) (fun β ds k=>by kernel_rfl)
theorem aff (C:ag):Te C (.loop (aw [1,0,0] xe)):=
 cw Ia [false,false,false,false,true,true] [[1,2,3,4,0,0,0]] (@AX C) (by kernel_rfl) (bf (bs:=[.cond 18 (aw [1,0,0,1,1,0,0,1,0,1,0] xe) (aw [1,0,0,1,1,0,0,1,0,1,1] xe)]) (by kernel_rfl) (bG (afe C) av)) (fun ds=>by kernel_rfl) (fun i x=>by kernel_rfl) (fun i x β k=>by kernel_rfl) (fun β ds k=>by kernel_rfl)
noncomputable def Tf (C:ag) (kids:List V) (separator:List UInt8) (least:Int) (bH:List V):Option (List V):=
 (Loop (AY C separator least kids (kids.length:Int)) (0,bH)).bind (un fun (rE:Int)=>un fun (DX:Bool) (uq:List V)=>
  some [.list cL uq])
theorem afg {kids:List V} {separator:List UInt8} {least:Int} {bH:List V} {r:Option (List V)} (h:Tf CC kids separator least bH=r):CC rB [.list aa kids,.str separator,.int .i64 least,.list cL bH]=r:=
 a9 (key:=91) (L:=Td CC) (bs:=[.loop (aw [1,0,0] xe)]) (by kernel_rfl) (bG (aff CC) av) (aW (by kernel_rfl) h)
noncomputable def Tg (C:ag) (op:Int):Option (List V):=
 bif (op:Int)==4 then
  some [.int .i64 1]
 else
  bif (op:Int)==6 then
  some [.int .i64 2]
  else
  bif (op:Int)==5 then
   some [.int .i64 3]
  else
   bif (op:Int)==8 then
   some [.int .i64 4]
   else
   bif (op:Int)==7 then
    some [.int .i64 5]
   else
    some [.int .i64 6]
theorem afh {op:Int} {r:Option (List V)} (h:Tg CC op=r):CC Dz [.int .i64 op]=r:=
 a9 (key:=104) (L:=b9) (bs:=[]) (by kernel_rfl) av (aW (by kernel_rfl) h)
noncomputable def Th (C:ag) (c:Int) (bH:List V):Option (List V):=
 bif Nat.ble ((bH.length+([.int .u8 c]:List V).length)*1) cB then
  some [.list cL (bH++([.int .u8 c]:List V))]
 else none
theorem afi {c:Int} {bH:List V} {r:Option (List V)} (h:Th CC c bH=r):CC oX [.int .u8 c,.list cL bH]=r:=
 a9 (key:=90) (L:=b9) (bs:=[]) (by kernel_rfl) av (aW (by kernel_rfl) h)
noncomputable def Ti (C:ag) (s:List UInt8) (bH:List V):Option (List V):=
 bif Nat.ble ((bH.length+(s.map df).length)*1) cB then
  some [.int .i64 (s.length:Int),.list cL (bH++(s.map df))]
 else none
theorem afj {s:List UInt8} {bH:List V} {r:Option (List V)} (h:Ti CC s bH=r):CC Dy [.str s,.list cL bH]=r:=
 a9 (key:=103) (L:=b9) (bs:=[]) (by kernel_rfl) av (aW (by kernel_rfl) h)
noncomputable def Tj (C:ag) (bH:List V):Option (List V):=
 bif Nat.blt 0 bH.length then
  bif decide (0<(bH.length:Int))&&(decide ((bH.length:Int)≤(bH.length:Int))&&(Nat.ble (((bH.length:Int):Int).toNat) mu&&(bH.take (((bH.length:Int):Int).toNat)).all uK)) then
  some [.str (j5 (bH.take (((bH.length:Int):Int).toNat)))]
  else none
 else none
theorem afk {bH:List V} {r:Option (List V)} (h:Tj CC bH=r):CC Ds [.list cL bH]=r:=
 a9 (key:=76) (L:=b9) (bs:=[]) (by kernel_rfl) av (aW (by kernel_rfl) h)
end Go.AM
set_option maxRecDepth 100000
namespace Go.AM
open Go.Proofs Ex
theorem ur (c:UInt8) (b:List UInt8) (h:b.length<2^40):CC oX [.int .u8 c.toNat,.list cL (b.map df)]=some [.list cL ((b++[c]).map df)]:=by
 refine afi ?_
 unfold Th
 simp only[Ht]
 rw[aj (by simp[cB];omega)]
 simp[df]
theorem afl (s b:List UInt8) (h:b.length+s.length<2^40):CC Dy [.str s,.list cL (b.map df)]=some [.int .i64 s.length,.list cL ((b++s).map df)]:=by
 refine afj ?_
 unfold Ti
 simp only[Ht]
 rw[aj (by simp[cB];omega)]
 simp
theorem afm (b:List UInt8):j5 (b.map df)=b:=by
 unfold j5
 rw[List.map_map]
 have:((fun x:V=>UInt8.ofNat x.toInt.toNat) ∘ df)=id:=by
  funext c
  simp[df]
 rw[this,List.map_id]
theorem afn (b:List UInt8) (h0:b≠[]) (h:b.length<2^40):CC Ds [.list cL (b.map df)]=some [.str b]:=by
 refine afk ?_
 unfold Tj
 have hp:0<b.length:=by cases b<;>simp at h0⊢
 have h1:Nat.blt 0 (b.map df).length=true:=by rw[jw];simpa using hp
 have U:(((b.map df).length:Int)).toNat=(b.map df).length:=by simp
 have h3:Nat.ble (b.map df).length mu=true:=Nat.ble_eq_true_of_le (by simp[mu];omega)
 have h4:(b.map df).all uK=true:=by
  rw[eM]
  intro x hx
  obtain ⟨c,_,rfl⟩:=gj.1 hx
  have:=c.toNat_lt
  simp[uK,df]
  omega
 rw[h1,U,pk,h3,h4,afm]
 simp[hp]
theorem afo (op:Int):CC Dz [.int .i64 op]=some [.int .i64 (fC op)]:=by
 refine afh ?_
 unfold Tg fC
 simp only[eS]
 repeat' split
 all_goals rfl
theorem afp {ks:List Ex} (hlen:ks.length≤maxLen) (ih: ∀k∈ks,∀b:List UInt8,b.length+k.text.length<2^40→CC rz (bJ k [.list cL (b.map df)])=some [.list cL ((b++k.text).map df)]) (sep:List UInt8) (least:Int):
  ∀(aG pre:List Ex) (b:List UInt8),ks=pre++aG→b.length+(texts sep least pre.isEmpty aG).length<2^40→
  ∃i t,Loop (AY CC sep least (ks.map enc) ((ks.map enc).length:Int)) (((pre.length:Nat):Int),b.map df)=some (i,t,(b++texts sep least pre.isEmpty aG).map df):=by
 intro aG
 induction aG with
 | nil=>
  intro pre b aV hb
  subst aV
  refine ⟨((pre.length:Nat):Int),false,bc ?_⟩
  simp only[AY,AX,un,dz,bm,aA,texts]
  rw[ai (by omega)]
  simp
 | cons k aG eU=>
  intro pre b aV hb
  have bK:pre.length<ks.length:=by rw[aV];simp
  have hm:k∈ks:=by rw[aV];simp
  have:=qm
  have bX:idx (ks.map enc) (pre.length:Int)=some k.enc:=by rw[aV];exact iU _ _ _
  generalize gz:(if pre.isEmpty then [] else sep)=sp
  have ht:texts sep least pre.isEmpty (k::aG)=sp++(eg k.op least k.text++texts sep least false aG):=by simp only[texts,gz]
  rw[ht] at hb⊢
  simp only[b8] at hb
  have dF:AY CC sep least (ks.map enc) ((ks.map enc).length:Int) (((pre.length:Nat):Int),b.map df)=some (.inl ((((pre++[k]).length:Nat):Int),(b++sp++eg k.op least k.text).map df)):=by
   have h1: ∀{β:Type} (kr:List V→Option β) (o l:Int) (es:List V),AW CC sep least (ks.map enc) ((ks.length:Nat):Int) ((pre.length:Nat):Int) (decide (((pre.length:Nat):Int)>0)) o l es (b.map df) kr=kr ((b++sp).map df):=by
    intro β kr o l es
    unfold AW
    cases pre with
    | nil=>
     simp at gz
     subst gz
     simp
    | cons a pre=>
     simp at gz
     subst gz
     rw[afl _ _ (by omega)]
     have:(0:Int)<((a::pre).length:Int):=by simp only[List.length_cons];omega
     simp[this]
   simp only[AY,AX,un,bm,aA]
   rw[aj (by omega),bX]
   simp only[Option.bind_some,bq,br,bt]
   rw[h1,afo]
   simp only[Option.bind_some,V.aS,V.toInt_int,aA]
   unfold eg at hb⊢
   by_cases hl:fC k.op<least
   ·rw[ai (by omega),aj hl]
    rw[aj hl] at hb
    simp only[List.length_cons,b8,List.length_nil] at hb
    rw[show (V.int .u8 40)= .int .u8 (((40:UInt8).toNat:Nat):Int) by rfl,show (V.int .u8 41)= .int .u8 (((41:UInt8).toNat:Nat):Int) by rfl]
    rw[ur _ _ (by simp;omega)]
    simp only[Option.bind_some,V.aS,V.ld]
    rw[ih k hm _ (by simp;omega)]
    simp only[Option.bind_some,V.aS,V.ld]
    rw[ur _ _ (by simp;omega),wrap64 (by omega) (by omega)]
    simp
   ·rw[aj (by omega),ai hl]
    rw[ai hl] at hb
    rw[ih k hm _ (by simp;omega)]
    simp only[Option.bind_some,V.aS,V.ld]
    rw[wrap64 (by omega) (by omega)]
    simp
  rw[bS dF]
  have hE:(pre++[k]).isEmpty=false:=by cases pre<;>rfl
  have h3:=eU (pre++[k]) (b++sp++eg k.op least k.text) (by rw[aV];simp)
  rw[hE] at h3
  obtain ⟨i,t,U⟩:=h3 (by simp only[b8];omega)
  refine ⟨i,t,U.trans ?_⟩
  simp
theorem afq {ks:List Ex} (hlen:ks.length≤maxLen) (ih: ∀k∈ks,∀b:List UInt8,b.length+k.text.length<2^40→CC rz (bJ k [.list cL (b.map df)])=some [.list cL ((b++k.text).map df)]) (sep:List UInt8) (least:Int) (b:List UInt8)
  (hb:b.length+(texts sep least true ks).length<2^40):CC rB [.list aa (ks.map enc),.str sep,.int .i64 least,.list cL (b.map df)]=some [.list cL ((b++texts sep least true ks).map df)]:=by
 refine afg ?_
 unfold Tf
 obtain ⟨i,t,h⟩:=afp hlen ih sep least ks [] b rfl hb
 simp only[List.length_nil,Int.ofNat_zero,Int.natCast_zero,List.isEmpty_nil] at h
 erw [h]
 rfl
theorem afr {l n:Int} (h:dv 3 l n 6=true):0≤l∧l<6:=by
 simp[dv] at h;omega
theorem Tk {o l n letters:Int} (ho:o<1∨8<o):dv o l n letters=false:=by
 have n1:o≠1:=by omega
 have n2:o≠2:=by omega
 have n3:o≠3:=by omega
 have n7:o≠7:=by omega
 have n8:o≠8:=by omega
 have n9: ¬(4≤o∧o≤6∧2≤n):=by omega
 simp[dv,n1,n2,n3,n7,n8,n9]
theorem afs: ∀e:Ex,e.Ok→e.wf 6=true→∀b:List UInt8,b.length+e.text.length<2^40→CC rz (bJ e [.list cL (b.map df)])=some [.list cL ((b++e.text).map df)]:=
 ind fun o l ks ih au yX b hb=>by
  obtain ⟨w1,w2⟩:=g9 yX
  have hw:=fun sep least b=>afq au.len (fun k hk=>ih k hk (au.lW k hk) (w2 k hk)) sep least b
  refine afd ?_
  unfold Tc E8 E7 E6 E5 E4
  simp only[Ex.op,Ex.cl,Ex.kids]
  rcases zB o with rfl|rfl|rfl|rfl|rfl|rfl|rfl|rfl|ho
  case inr.inr.inr.inr.inr.inr.inr.inr=>rw[Tk ho] at w1;cases w1
  ·simp[text] at hb⊢
   rw[show (V.int .u8 48)= .int .u8 (((48:UInt8).toNat:Nat):Int) by rfl,ur _ _ (by omega)]
   simp
  ·simp[text] at hb⊢
   rw[show (V.int .u8 49)= .int .u8 (((49:UInt8).toNat:Nat):Int) by rfl,ur _ _ (by omega)]
   simp
  ·have hl:=afr w1
   simp[text] at hb⊢
   rw[yY (x:=l) (by omega) (by omega),yY (by omega) (by omega)]
   have:(V.int .u8 (97+l))= .int .u8 (((UInt8.ofNat (97+l).toNat).toNat:Nat):Int):=by
    have:(97+l).toNat<256:=by omega
    simp only[UInt8.toNat_ofNat']
    congr 1
    omega
   rw[this,ur _ _ (by omega)]
   simp
  ·simp[text] at hb⊢
   rw[hw _ _ _ (by omega)]
   simp
  ·simp[text] at hb⊢
   rw[hw _ _ _ (by omega)]
   simp
  ·simp[text] at hb⊢
   rw[hw _ _ _ (by omega)]
   simp
  ·simp[text] at hb⊢
   rw[hw _ _ _ (by omega)]
   simp only[Option.bind_some,V.aS,V.ld]
   rw[show (V.int .u8 42)= .int .u8 (((42:UInt8).toNat:Nat):Int) by rfl,ur _ _ (by simp;omega)]
   simp
  ·simp[text] at hb⊢
   rw[show (V.int .u8 33)= .int .u8 (((33:UInt8).toNat:Nat):Int) by rfl,ur _ _ (by omega)]
   simp only[Option.bind_some,V.aS,V.ld]
   rw[hw _ _ _ (by simp;omega)]
   simp
theorem aft: ∀e:Ex,e.wf 6=true→e.text≠[]:=ind fun o l ks ih h=>by
 obtain ⟨w1,w2⟩:=g9 h
 rcases zB o with rfl|rfl|rfl|rfl|rfl|rfl|rfl|rfl|ho
 case inr.inr.inr.inr.inr.inr.inr.inr=>rw[Tk ho] at w1;cases w1
 case inr.inr.inr.inl=>
  intro hh
  match ks,w1,hh with
  | [],w1,_=>simp[dv] at w1
  | [a],w1,_=>simp[dv] at w1
  | a::b::l,_,hh=>simp[text,texts] at hh
 case inr.inr.inr.inr.inr.inl=>
  intro hh
  match ks,w1,hh with
  | [],w1,_=>simp[dv] at w1
  | [a],w1,_=>simp[dv] at w1
  | a::b::l,_,hh=>simp[text,texts] at hh
 case inr.inr.inr.inr.inl=>
  intro hh
  match ks,w1,w2,hh,ih with
  | [],w1,_,_,_=>simp[dv] at w1
  | a::ks,_,w2,hh,ih=>
   have:=ih a (by simp) (w2 a (by simp))
   simp[text,texts,eg] at hh
   split at hh
   ·simp at hh
   ·exact this hh.1
 all_goals simp[text]
theorem afu (e:Ex) (h:e.Ok):CC vO (bJ e [])=some [.str (if e.val 6=0 then e.text else [])]:=by
 refine ae6 ?_
 unfold Ta
 rw[PR e h]
 by_cases hv:e.val 6=0
 ·obtain ⟨_,U,h3⟩:=n0 hv
  have hl:=SV e
  have hw:=afs e h h3 [] (by simp;omega)
  simp only[gl,List.nil_append] at hw
  simp only[Option.bind_some,V.aS,V.dU,hv,qH,po,cond_false,db]
  rw[hw]
  simp only[Option.bind_some,V.aS,V.ld]
  rw[afn _ (aft e h3) (by omega)]
  simp
 ·simp[hv]
end Go.AM
set_option maxRecDepth 100000
namespace Go.AM
structure Da where
 L:Nat
 st:Nat
 F:List Bool
 N:List (List Nat)
deriving DecidableEq
namespace Da
def n (d:Da):Nat:=d.F.length
def nx (d:Da) (q x:Nat):Nat:=(d.N.getD q []).getD x 0
def fin (d:Da) (q:Nat):Bool:=d.F.getD q false
def run (d:Da) (q:Nat) (w:List Nat):Nat:=w.foldl d.nx q
def acc (d:Da) (q:Nat) (w:List Nat):Bool:=d.fin (d.run q w)
structure Ok (d:Da):Prop where
 l1:1≤d.L
 l6:d.L≤6
 nN:d.N.length=d.n
 row: ∀r∈d.N,r.length=d.L∧∀q∈r,q<d.n
 s:d.st<d.n
 cA:d.n≤512
end Da
def WL (L:Nat) (w:List Nat):Prop:= ∀x∈w,x<L
theorem WL.nil {L:Nat}:WL L []:=fun _ h=>by cases h
theorem WL.cons {L x:Nat} {w:List Nat} (h:x<L) (hw:WL L w):WL L (x::w):=fun y hy=>by
 rcases cX.1 hy with rfl|hy
 ·exact h
 ·exact hw y hy
theorem WL.tail {L x:Nat} {w:List Nat} (h:WL L (x::w)):WL L w:=fun y hy=>h y (by simp[hy])
theorem WL.app {L:Nat} {v w:List Nat}:WL L (v++w)↔WL L v∧WL L w:=by
 unfold WL
 simp only[eh]
 exact ⟨fun h=>⟨fun x hx=>h x (.inl hx),fun x hx=>h x (.inr hx)⟩,fun h x hx=>hx.elim (h.1 x) (h.2 x)⟩
namespace Da
def E9 (d:Da) (q:Nat) (d':Da) (q':Nat):Prop:= ∀w,WL d.L w→d.acc q w=d'.acc q' w
theorem E9.nx {d d':Da} {q q' x:Nat} (h:d.E9 q d' q') (hx:x<d.L):d.E9 (d.nx q x) d' (d'.nx q' x):=fun w hw=>h (x::w) (hw.cons hx)
def pos (d:Da) (t:Nat):Nat:=d.nx (t/d.L) (t %d.L)
def mt (d:Da):Nat→Nat
 | 0=>1
 | t+1=>if d.pos t=d.mt t then d.mt t+1 else d.mt t
structure Num (d:Da):Prop where
 le: ∀t,t<d.n*d.L→d.pos t≤d.mt t
 row: ∀q,q<d.n→q<d.mt (q*d.L)
 all:d.mt (d.n*d.L)=d.n
structure Canon (d:Da) (L:Nat) (K:List Nat→Bool):Prop where
 ok:d.Ok
 hL:d.L=L
 st:d.st=0
 num:d.Num
 red: ∀p q,p<d.n→q<d.n→d.E9 p d q→p=q
 ahG: ∀w,WL L w→d.acc 0 w=K w
end Da
section
variable {α:Type} [DecidableEq α]
def afv (S:List α) (a:α):List α:=if a∈S then S else S++[a]
def Tl (next:α→Nat→α) (S:List α) (a:α):Nat→List α
 | 0=>S
 | x+1=>afv (Tl next S a x) (next a x)
def AZ (L:Nat) (next:α→Nat→α) (a0:α):Nat→List α
 | 0=>[a0]
 | i+1=>match (AZ L next a0 i)[i]? with
  | some a=>Tl next (AZ L next a0 i) a L
  | none=>AZ L next a0 i
variable {L:Nat} {next:α→Nat→α} {a0:α}
section
variable {k:Nat} (hd:(AZ L next a0 k).length≤k)
include hd
end
section
variable {k:Nat} (hd:(AZ L next a0 k).length≤k) {fin:α→Bool}
include hd
end
end
namespace Da
end Da
end Go.AM
set_option maxRecDepth 100000
namespace Go.AM
open Go.Proofs
section
variable {α:Type} (ke:α→V)
def lq (i:Nat):List α→List V
 | []=>[]
 | a::S=> .aX [ke a,iV (i:Int)]::lq (i+1) S
where iV (n:Int):V:= .int .i64 n
end
section
variable {α:Type} [DecidableEq α] {ke:α→V}
variable (hk: ∀a b,lA (ke a) (ke b)=decide (a=b))
include hk
theorem Tm (x:α): ∀(S:List α) (i:Nat),kN (ke x) (lq ke i S)=decide (x∈S)
 | [],_=>by simp[lq,kN]
 | a::S,i=>by
  have c: ∀(p q:V),(V.aX [p,q]).comp 0=p:=fun p q=>rfl
  rw[lq,kN,c,hk,Tm x S (i+1)]
  rw[ow]
  simp
theorem Tn (x:α) (z:V): ∀(S:List α) (i:Nat),x∈S→lB (ke x) (lq ke i S) z= .int .i64 ((i+S.idxOf x:Nat):Int)
 | [],_,h=>by cases h
 | a::S,i,h=>by
  have c: ∀(p q:V),(V.aX [p,q]).comp 0=p:=fun p q=>rfl
  have c1: ∀(p q:V),(V.aX [p,q]).comp 1=q:=fun p q=>rfl
  rw[lq,lB,c,c1,hk]
  by_cases e:x=a
  ·subst e
   rw[ef rfl]
   simp[lq.iV]
  ·rw[cQ e,cond_false,Tn x z S (i+1) ((cX.1 h).resolve_left e),show (a::S).idxOf x=S.idxOf x+1 from by rw[List.idxOf_cons,show (a==x)=false from A9.2 fun h=>e h.symm];rfl]
   congr 2
   omega
theorem To (x:α): ∀(S:List α) (i:Nat),x∉S→hY (ke x) (.int .i64 ((i+S.length:Nat):Int)) (lq ke i S)=lq ke i (S++[x])
 | [],i,_=>by simp[lq,hY,lq.iV]
 | a::S,i,h=>by
  have c: ∀(p q:V),(V.aX [p,q]).comp 0=p:=fun p q=>rfl
  have e:x≠a:=fun e=>h (by simp[e])
  rw[lq,hY,c,hk,cQ e,cond_false,List.cons_append,lq]
  congr 1
  have:=To x S (i+1) fun hx=>h (by simp[hx])
  rw[←this]
  simp only[List.length_cons]
  congr 3
  omega
end
noncomputable def Tp (C:ag) (ah ar:Int) (ae:List V) (cU dh:Int) (bH ee bN:List V):Option (List V):=
 (C vO [.int .i64 ah,.int .i64 ar,.list aa ae]).bind fun r1=>
 bif Nat.ble (((V.nth r1 0).toStr).length) maxLen&&true then
  bif Nat.ble ((bH.length+([.agg [.int .i64 0,.int .i64 0,.list aa ([]:List V)]]:List V).length)*40) cB then
  bif (decide (0≤(bH.length:Int)))&&(decide ((bH.length:Int)<((bH++([.agg [.int .i64 0,.int .i64 0,.list aa ([]:List V)]]:List V)).length:Int))) then
   ((bH++([.agg [.int .i64 0,.int .i64 0,.list aa ([]:List V)]]:List V))[((bH.length:Int):Int).toNat]?).bind fun x2=>
   some [.int .i64 (bH.length:Int),.int .i64 cU,.int .i64 dh,.list dJ (hY (.str ((V.nth r1 0).toStr)) (.int .i64 (bH.length:Int)) bN),.list aa ((bH++([.agg [.int .i64 0,.int .i64 0,.list aa ([]:List V)]]:List V)).set (((bH.length:Int):Int).toNat) (.agg [.int .i64 ah,.int .i64 ar,.list aa ae])),.list c8 ee]
  else none
  else none
 else none
theorem afw {ah ar:Int} {ae:List V} {cU dh:Int} {bH ee bN:List V} {r:Option (List V)} (h:Tp CC ah ar ae cU dh bH ee bN=r):CC y9 [.int .i64 ah,.int .i64 ar,.list aa ae,.int .i64 cU,.int .i64 dh,.list aa bH,.list c8 ee,.list dJ bN]=r:=
 a9 (key:=57) (L:=b9) (bs:=[]) (by kernel_rfl) av (aW (by kernel_rfl) h)
noncomputable def Tq (C:ag) (ah ar:Int) (ae:List V) (letters:Int):Option (List V):=
 (C y9 [.int .i64 ah,.int .i64 ar,.list aa ae,.int .i64 letters,.int .i64 0,.list aa ([]:List V),.list c8 ([]:List V),.list dJ ([]:List V)]).bind fun r1=>
 some [.int .i64 ((V.nth (r1.drop 1) 0).toInt),.int .i64 ((V.nth ((r1.drop 1).drop 1) 0).toInt),.list aa ((V.nth (((r1.drop 1).drop 2).drop 1) 0).toList),.list c8 ((V.nth ((((r1.drop 1).drop 2).drop 1).drop 1) 0).toList),.list dJ ((V.nth ((r1.drop 1).drop 2) 0).toList)]
theorem afx {ah ar:Int} {ae:List V} {letters:Int} {r:Option (List V)} (h:Tq CC ah ar ae letters=r):CC Dm [.int .i64 ah,.int .i64 ar,.list aa ae,.int .i64 letters]=r:=
 a9 (key:=40) (L:=b9) (bs:=[]) (by kernel_rfl) av (aW (by kernel_rfl) h)
noncomputable def Tr (C:ag) (cU dh:Int) (bH ee bN:List V):Option (List V):=
 some [.bool ((dh:Int)==(bH.length:Int)),.int .i64 cU,.int .i64 dh,.list dJ bN,.list aa bH,.list c8 ee]
theorem afy {cU dh:Int} {bH ee bN:List V} {r:Option (List V)} (h:Tr CC cU dh bH ee bN=r):CC Dn [.int .i64 cU,.int .i64 dh,.list aa bH,.list c8 ee,.list dJ bN]=r:=
 a9 (key:=42) (L:=b9) (bs:=[]) (by kernel_rfl) av (aW (by kernel_rfl) h)
noncomputable abbrev Ts:Code:=cJ Try.prog (ay.aY 43)
noncomputable def sb (C:ag) (t16 t17 cU dh:Int) (bN rows fB jW:List V) {β:Type} (kn:(Int × Int × Int × (List V) × (List V) × (List V) × (List V))→Option β) (kr:((Int × Int × Int × (List V) × (List V) × (List V)) ⊕ (Int × Bool × Int × Int × (List V) × (List V) × (List V) × (List V)))→Option β):Option β:=
 bif decide ((t17:Int)<t16) then
  bif (decide (0≤dh))&&(decide (dh<(fB.length:Int))) then
  (fB[(dh:Int).toNat]?).bind fun x1=>
  (C y8 [.int .i64 ((x1.cell 0).toInt),.int .i64 ((x1.cell 1).toInt),.list aa ((x1.cell 2).toList),.int .i64 t17]).bind fun r2=>
  bif (((V.nth (r2.drop 3) 0).toInt):Int) != 0 then
   kr (.inl ((V.nth (r2.drop 3) 0).toInt,cU,dh,bN,fB,jW))
  else
   (C vO [.int .i64 ((V.nth r2 0).toInt),.int .i64 ((V.nth (r2.drop 1) 0).toInt),.list aa ((V.nth ((r2.drop 1).drop 1) 0).toList)]).bind fun r3=>
   bif Nat.ble (((V.nth r3 0).toStr).length) maxLen&&true then
   bif !(kN (.str ((V.nth r3 0).toStr)) bN) then
    bif ((fB.length:Int):Int)==512 then
    kr (.inl (3,cU,dh,bN,fB,jW))
    else
    (C y9 [.int .i64 ((V.nth r2 0).toInt),.int .i64 ((V.nth (r2.drop 1) 0).toInt),.list aa ((V.nth ((r2.drop 1).drop 1) 0).toList),.int .i64 cU,.int .i64 dh,.list aa fB,.list c8 jW,.list dJ bN]).bind fun r4=>
    bif (decide (0≤t17))&&(decide (t17<(rows.length:Int))) then
     (rows[(t17:Int).toNat]?).bind fun x5=>
     kn (IntKind.wrap .i64 (t17+1),(V.nth (r4.drop 1) 0).toInt,(V.nth ((r4.drop 1).drop 1) 0).toInt,(V.nth ((r4.drop 1).drop 2) 0).toList,rows.set ((t17:Int).toNat) (.int .i64 ((V.nth r4 0).toInt)),(V.nth (((r4.drop 1).drop 2).drop 1) 0).toList,(V.nth ((((r4.drop 1).drop 2).drop 1).drop 1) 0).toList)
    else none
   else
    bif (decide (0≤t17))&&(decide (t17<(rows.length:Int))) then
    (rows[(t17:Int).toNat]?).bind fun x6=>
    kn (IntKind.wrap .i64 (t17+1),cU,dh,bN,rows.set ((t17:Int).toNat) (.int .i64 ((lB (.str ((V.nth r3 0).toStr)) bN (.int .i64 0)).toInt)),fB,jW)
    else none
   else none
  else none
 else
  kr (.inr (t17,decide ((t17:Int)<t16),cU,dh,bN,rows,fB,jW))
noncomputable def ot (C:ag) (t16:Int):(Int × Int × Int × (List V) × (List V) × (List V) × (List V))→Option ((Int × Int × Int × (List V) × (List V) × (List V) × (List V)) ⊕ ((Int × Int × Int × (List V) × (List V) × (List V)) ⊕ (Int × Bool × Int × Int × (List V) × (List V) × (List V) × (List V)))):=un fun t17=>un fun cU=>un fun dh=>un fun bN=>un fun rows=>un fun fB jW=>sb C t16 t17 cU dh bN rows fB jW (fun y=>some (.inl y)) (fun r=>some (.inr r))
noncomputable def Tt (C:ag):cy:=fun β n ds k=>
 bif Nat.beq n 49 then cj HQ [false,true,true,true,true,true,true,true] [[0,0,0,0,0,0],[1,0,0,0,0,0,0,0,0]] (@sb C) ds k else
 none
abbrev afz (C:ag) (b:cu):Prop:=cv Try.prog ay C (Tt C) 43 (cM Try.prog (ay.aY 43)) (ay.sin 43).a8.length b
theorem afA (C:ag):afz C (.loop (aw [1,1,0,1,0,0] Ts)):=
 cw HQ [false,true,true,true,true,true,true,true] [[0,0,0,0,0,0],[1,0,0,0,0,0,0,0,0]] (@sb C) (by kernel_rfl) (bf (bs:=[]) (by kernel_rfl) av) (fun ds=>by kernel_rfl) (fun i x=>by kernel_rfl) (fun i x β k=>by kernel_rfl) (fun β ds k=>by kernel_rfl)
noncomputable def Tu (C:ag) (cU dh:Int) (bH ee bN:List V):Option (List V):=
 bif (decide (0≤cU))&&((decide (cU≤cU))&&(Nat.ble (((cU:Int).toNat)*8) cB)) then
  (Loop (ot C ((List.replicate ((cU:Int).toNat) (V.int .i64 0)).length:Int)) (0,cU,dh,bN,List.replicate ((cU:Int).toNat) (V.int .i64 0),bH,ee)).bind (bY (un fun (o5:Int)=>un fun (Kr:Int)=>un fun (um:Int)=>un fun (A0:List V)=>un fun (uq:List V) (AU:List V)=>
   some [.int .i64 o5,.int .i64 Kr,.int .i64 um,.list dJ A0,.list aa uq,.list c8 AU]) (un fun (OY:Int)=>un fun (zz:Bool)=>un fun (Ks:Int)=>un fun (Kt:Int)=>un fun (Ku:List V)=>un fun (A1:List V)=>un fun (Kv:List V) (A3:List V)=>
   bif Nat.ble ((A3.length+([.list mQ A1]:List V).length)*24) cB then
   some [.int .i64 0,.int .i64 Ks,.int .i64 (IntKind.wrap .i64 (Kt+1)),.list dJ Ku,.list aa Kv,.list c8 (A3++([.list mQ A1]:List V))]
   else none))
 else none
theorem afB {cU dh:Int} {bH ee bN:List V} {r:Option (List V)} (h:Tu CC cU dh bH ee bN=r):CC vL [.int .i64 cU,.int .i64 dh,.list aa bH,.list c8 ee,.list dJ bN]=r:=
 a9 (key:=43) (L:=Tt CC) (bs:=[.loop (aw [1,1,0,1,0,0] Ts)]) (by kernel_rfl) (bG (afA CC) av) (aW (by kernel_rfl) h)
end Go.AM
set_option maxRecDepth 100000
namespace Go.AM
open Go.Proofs Ex
def ph (r:List Int):V:= .list mQ (r.map fun n=> .int .i64 n)
def eW (es:List Ex):List V:=lq V.str 0 (es.map Ex.text)
theorem Kw (a b:List UInt8):lA (.str a) (.str b)=decide (a=b):=by
 simp only[lA,V.cells,sk,uE,Bool.and_true]
 rw[ow]
 simp
theorem Kx {es:List Ex} (h: ∀e∈es,Nv e) {d:Ex} (hd:Nv d):d.text∈es.map Ex.text↔d∈es:=by
 rw[gj]
 constructor
 ·rintro ⟨a,ha,he⟩
  rw[←S9 (h a ha).1.2 hd.1.2 he];exact ha
 ·exact fun hx=>⟨d,hx,rfl⟩
theorem Tv {α β:Type} [DecidableEq α] [DecidableEq β] {f:α→β} {d:α}: ∀{es:List α},(∀e∈es,f e=f d→e=d)→(es.map f).idxOf (f d)=es.idxOf d
 | [],_=>rfl
 | e::es,h=>by
  rw[cG,List.idxOf_cons,List.idxOf_cons,Tv fun x hx=>h x (by simp[hx])]
  have:(f e==f d)=(e==d):=by
   rw[ow,beq_iff_eq,beq_iff_eq]
   exact ⟨h e (by simp),fun h=>by rw[h]⟩
  rw[this]
theorem Fb {e:Ex} (h:e.val 6=0):(Nat.ble e.text.length maxLen&&true)=true:=by
 have a:=SV e
 have b:=n0 h
 rw[Bool.and_true,dC]
 unfold maxLen
 omega
theorem Fc {e:Ex} (h:Nv e):CC vO (bJ e [])=some [.str e.text]:=by
 rw[afu e (afC h),aj h.2]
where afC {e:Ex} (h:Nv e):e.Ok:=rI (by omega) e h.1.2 (by have:=n0 h.2;omega)
def xf (s:Dv):List V:=[.int .i64 s.L,.int .i64 s.dn,.list aa (s.es.map enc),.list c8 (s.nx.map ph),.list dJ (eW s.es)]
def Ky (s:Dv):List V:=[.int .i64 s.L,.int .i64 s.dn,.list dJ (eW s.es),.list aa (s.es.map enc),.list c8 (s.nx.map ph)]
theorem afD {es:List Ex} (h: ∀e∈es,Nv e) {d:Ex} (hd:Nv d) (hn:d∉es):hY (.str d.text) (.int .i64 (es.length:Int)) (eW es)=eW (es++[d]):=by
 have:=To (ke:=V.str) Kw d.text (es.map Ex.text) 0 fun hx=>hn ((Kx h hd).1 hx)
 rw[bm,gi] at this
 unfold eW
 rw[this,fP]
 rfl
theorem afE {α:Type} (a:List α) (x y:α):(a++[x]).set a.length y=a++[y]:=by
 simp[List.set_append_right]
theorem Tw {L dn:Int} {es:List Ex} {d:Ex} {nx:List V} (h: ∀e∈es,Nv e) (hd:Nv d) (hn:d∉es) (hl:es.length≤1000):
  CC y9 (bJ d [.int .i64 L,.int .i64 dn,.list aa (es.map enc),.list c8 nx,.list dJ (eW es)])=some [.int .i64 (es.length:Int),.int .i64 L,.int .i64 dn,.list dJ (eW (es++[d])),.list aa ((es++[d]).map enc),.list c8 nx]:=by
 refine afw ?_
 unfold Tp
 refine bs (Fc hd) ?_
 refine bT (Fb hd.2) ?_
 refine bT (JY (by simp;omega)) ?_
 refine (rS (i:=(es.map enc).length) (v:= .agg [.int .i64 0,.int .i64 0,.list aa ([]:List V)]) (by simp)).trans ?_
 rw[Int.toNat_natCast,afE]
 have h1:=afD h hd hn
 rw[bm]
 show some [V.int .i64 (es.length:Int),.int .i64 L,.int .i64 dn,.list dJ (hY (.str d.text) (.int .i64 (es.length:Int)) (eW es)),.list aa (es.map enc++[.agg [.int .i64 d.op,.int .i64 d.cl,.list aa (d.kids.map enc)]]),.list c8 nx]=_
 rw[h1,ad4,fP]
 rfl
theorem afF {e:Ex} {L:Int} (h:Nv e):CC Dm (bJ e [.int .i64 L])=some (xf ⟨L,[e],[],0⟩):=by
 refine afx ?_
 unfold Tq
 refine bs (Tw (L:=L) (dn:=0) (es:=[]) (d:=e) (nx:=[]) (by simp) h (by simp) (by simp)) ?_
 rfl
theorem Kz (s:Dv):CC Dn (xf s)=some (.bool (s.dn==s.es.length)::Ky s):=by
 refine afy ?_
 unfold Tr
 rw[bm]
 rfl
theorem KA {L dn:Int} {e:Ex} {k:Nat} {nx:List V} (hk:dn=(k:Int)) (he:Nv e): ∀(n x:Nat) (es:List Ex) (row:List Int),L=((x+n:Nat):Int)→x+n≤10→Es es→k<es.length→es.getD k ba=e→row.length=x→
  (∀p,nh e n x es row=some p→Loop (ot CC L) (((x:Nat):Int),L,dn,eW es,(row.map fun n=>V.int .i64 n)++List.replicate n (.int .i64 0),es.map enc,nx)=some (.inr (L,false,L,dn,eW p.1,(p.2.map fun n=>V.int .i64 n),p.1.map enc,nx)))
  ∧(nh e n x es row=none→∃y,Loop (ot CC L) (((x:Nat):Int),L,dn,eW es,(row.map fun n=>V.int .i64 n)++List.replicate n (.int .i64 0),es.map enc,nx)=some (.inl (3,y)))
 | 0,x,es,row,hL,hx,nK,gW,sX,hr=>by
  refine ⟨fun p hp=> ?_,fun hp=>by simp[nh] at hp⟩
  cases hp
  refine bc ?_
  simp only[ot,sb,un]
  rw[aA,ai (by omega),cQ (by omega),show L=((x:Nat):Int) by omega]
  simp
 | n+1,x,es,row,hL,hx,nK,gW,sX,hr=>by
  subst hk
  have aO:decide ((x:Int)<L)=true:=ef (by omega)
  have bX:(es.map enc)[k]? =some e.enc:=by
   rw[gk,bE gW,←sX,hX,bE gW];rfl
  have hb:=So he (x:Int)
  have afG:rY (aL (bZ x e))=match kG e x with|some d=>(d,0)|none=>(ba,3):=by
   unfold rY kG;split<;>rfl
  rw[afG] at hb
  have Fe:x=(row.map fun n=>V.int .i64 n).length:=by simp[hr]
  rw[nh]
  cases bL:kG e x with
  | none=>
   rw[bL] at hb
   refine ⟨fun p hp=>(by cases hp),fun _=>⟨(L,(k:Int),eW es,es.map enc,nx),bc ?_⟩⟩
   ·simp only[ot,sb,un]
    refine bT aO ((rS bX).trans ?_)
    rw[bq,br,bt]
    refine bs hb ?_
    exact bT rfl rfl
  | some d=>
   rw[bL] at hb
   have hd:=(EW he bL).1
   have KC:kN (.str d.text) (eW es)=decide (d∈es):=by
    unfold eW
    rw[Tm Kw,ux]
    exact Kx nK.nv hd
   simp only[Option.bind_some]
   by_cases hm:d∈es
   ·rw[aj hm]
    have UF:es.idxOf d<es.length:=List.idxOf_lt_length_iff.2 hm
    obtain ⟨i1,i2⟩:=KA (L:=L) (e:=e) (k:=k) (nx:=nx) rfl he n (x+1) es (row++[(es.idxOf d:Int)]) (by omega) (by omega) nK gW sX (by simp[hr])
    have dF:ot CC L (((x:Nat):Int),L,(k:Int),eW es,(row.map fun n=>V.int .i64 n)++List.replicate (n+1) (.int .i64 0),es.map enc,nx)=some (.inl (((x+1:Nat):Int),L,(k:Int),eW es,((row++[(es.idxOf d:Int)]).map fun n=>V.int .i64 n)++List.replicate n (.int .i64 0),es.map enc,nx)):=by
     simp only[ot,sb,un]
     refine bT aO ((rS bX).trans ?_)
     rw[bq,br,bt]
     refine bs hb (bF rfl (bs (Fc hd) (bT (Fb hd.2) ?_)))
     refine bF (by rw[V.aS,V.C8,KC,ef hm];rfl) ?_
     refine (rV Fe).trans ?_
     rw[Int.toNat_natCast,rW Fe,om (by omega),V.aS,V.C8]
     have hg:lB (.str d.text) (eW es) (.int .i64 0)= .int .i64 (es.idxOf d:Int):=by
      unfold eW
      rw[Tn Kw _ _ _ _ ((Kx nK.nv hd).2 hm),Tv fun x hx=>S9 (nK.nv x hx).1.2 hd.1.2,gi]
     rw[hg,V.toInt_int,fP]
     rfl
    exact ⟨fun p hp=>(bS dF).trans (i1 p hp),fun hp=>by obtain ⟨y,hy⟩:=i2 hp;exact ⟨y,(bS dF).trans hy⟩⟩
   ·rw[ai hm]
    by_cases Ff:es.length=512
    ·rw[aj Ff]
     refine ⟨fun p hp=>(by cases hp),fun _=>⟨(L,(k:Int),eW es,es.map enc,nx),bc ?_⟩⟩
     ·simp only[ot,sb,un]
      refine bT aO ((rS bX).trans ?_)
      rw[bq,br,bt]
      refine bs hb (bF rfl (bs (Fc hd) (bT (Fb hd.2) ?_)))
      refine bT (by rw[V.aS,V.C8,KC,cQ hm];rfl) ?_
      exact bT (by rw[bm,Ff];rfl) rfl
    ·rw[ai Ff]
     have hl:=nK.le
     obtain ⟨i1,i2⟩:=KA (L:=L) (e:=e) (k:=k) (nx:=nx) rfl he n (x+1) (es++[d]) (row++[(es.length:Int)]) (by omega) (by omega) (nK.snoc hd hm Ff) (by simp;omega) (by rw[AF gW,sX]) (by simp[hr])
     have dF:ot CC L (((x:Nat):Int),L,(k:Int),eW es,(row.map fun n=>V.int .i64 n)++List.replicate (n+1) (.int .i64 0),es.map enc,nx)=some (.inl (((x+1:Nat):Int),L,(k:Int),eW (es++[d]),((row++[(es.length:Int)]).map fun n=>V.int .i64 n)++List.replicate n (.int .i64 0),(es++[d]).map enc,nx)):=by
      simp only[ot,sb,un]
      refine bT aO ((rS bX).trans ?_)
      rw[bq,br,bt]
      refine bs hb (bF rfl (bs (Fc hd) (bT (Fb hd.2) ?_)))
      refine bT (by rw[V.aS,V.C8,KC,cQ hm];rfl) ?_
      refine bF (by rw[bm,A9];omega) ?_
      refine bs (Tw nK.nv hd hm (by omega)) ?_
      refine (rV Fe).trans ?_
      rw[Int.toNat_natCast,rW Fe,om (by omega),fP (l₁:=row)]
      rfl
     exact ⟨fun p hp=>(bS dF).trans (i1 p hp),fun hp=>by obtain ⟨y,hy⟩:=i2 hp;exact ⟨y,(bS dF).trans hy⟩⟩
theorem afH {s:Dv} (hs:Gs s) (hd:s.dn<s.es.length):
  (∀t,proc s=some t→CC vL (xf s)=some (.int .i64 0::Ky t))∧(proc s=none→∃l,CC vL (xf s)=some (.int .i64 3::l)):=by
 have Si:=hs.dn
 have hL:=hs.L
 have hq:s.dn.toNat<s.es.length:=by omega
 have kW:=hs.nl
 have hle:=hs.es.le
 have hN:((s.L.toNat:Nat):Int)=s.L:=by omega
 obtain ⟨l1,l2⟩:=KA (L:=s.L) (dn:=s.dn) (e:=s.es.getD s.dn.toNat ba) (k:=s.dn.toNat) (nx:=s.nx.map ph) (by omega) (hs.es.nv _ (Sf hq)) s.L.toNat 0 s.es [] (by omega) (by omega) hs.es hq rfl rfl
 have hf: ∀{r:Option (List V)},((Loop (ot CC s.L) (((0:Nat):Int),s.L,s.dn,eW s.es,List.replicate s.L.toNat (V.int .i64 0),s.es.map enc,s.nx.map ph)).bind (bY (un fun (o5:Int)=>un fun (Kr:Int)=>un fun (um:Int)=>un fun (A0:List V)=>un fun (uq:List V) (AU:List V)=>some [V.int .i64 o5,.int .i64 Kr,.int .i64 um,.list dJ A0,.list aa uq,.list c8 AU]) (un fun (OY:Int)=>un fun (zz:Bool)=>un fun (Ks:Int)=>un fun (Kt:Int)=>un fun (Ku:List V)=>un fun (A1:List V)=>un fun (Kv:List V) (A3:List V)=>bif Nat.ble ((A3.length+([.list mQ A1]:List V).length)*24) cB then some [.int .i64 0,.int .i64 Ks,.int .i64 (IntKind.wrap .i64 (Kt+1)),.list dJ Ku,.list aa Kv,.list c8 (A3++([.list mQ A1]:List V))] else none)))=r→CC vL (xf s)=r:=fun h=>by
  refine afB ?_
  unfold Tu
  refine bT ?_ ?_
  ·refine uy.2 ⟨ef (by omega),uy.2 ⟨ef (by omega),?_⟩⟩
   rw[dC,qn];omega
  ·rw[se,hN]
   exact h
 refine ⟨fun t ht=>hf ?_,fun ht=> ?_⟩
 ·obtain ⟨p,hp,rfl⟩:=Sg ht
  refine bs (l1 p hp) ?_
  simp only[bY,un]
  refine bT (by rw[dC,qn];simp;omega) ?_
  rw[wrap64 (by omega) (by omega)]
  unfold Ky
  simp only[fP]
  rfl
 ·have hr:nh (s.es.getD s.dn.toNat ba) s.L.toNat 0 s.es []=none:=by
   unfold proc at ht
   rwa [Option.map_eq_none_iff] at ht
  obtain ⟨y,hy⟩:=l2 hr
  exact ⟨_,hf (bs hy rfl)⟩
end Go.AM
set_option maxRecDepth 100000
namespace Go.AM
open Go.Proofs
noncomputable abbrev Tx:Code:=cJ Try.prog (ay.aY 44)
noncomputable def A4 (C:ag) (t22 Tz TA:Int) (bN:List V) (Av Aw oo oq:Int) (Fg EO TB TC:List V) (t23:Int) (A5:List V) {β:Type} (kn:(Int × (List V))→Option β) (kr:(Int × Bool × (List V))→Option β):Option β:=
 bif decide ((t23:Int)<t22) then
  bif (decide (0≤t23))&&(decide (t23<(Fg.length:Int))) then
  (Fg[(t23:Int).toNat]?).bind fun x1=>
  (C jO [.int .i64 ((x1.cell 0).toInt),.int .i64 ((x1.cell 1).toInt),.list aa ((x1.cell 2).toList)]).bind fun r2=>
  bif Nat.ble ((A5.length+([.bool ((V.nth r2 0).toBool)]:List V).length)*1) cB then
   kn (IntKind.wrap .i64 (t23+1),A5++([.bool ((V.nth r2 0).toBool)]:List V))
  else none
  else none
 else
  kr (t23,decide ((t23:Int)<t22),A5)
noncomputable def Fh (C:ag) (t22 Tz TA:Int) (bN:List V) (Av Aw oo oq:Int) (Fg EO TB TC:List V):(Int × (List V))→Option ((Int × (List V)) ⊕ (Int × Bool × (List V))):=un fun t23 A5=>A4 C t22 Tz TA bN Av Aw oo oq Fg EO TB TC t23 A5 (fun y=>some (.inl y)) (fun r=>some (.inr r))
noncomputable def TD (C:ag):cy:=fun β n ds k=>
 bif Nat.beq n 49 then cj HR [false,true,false,false,false,false,false,false,false,false,false,false,false,true] [[1,0,0,3,4,5,6,7,8,9,10,11,12,13,0]] (@A4 C) ds k else
 none
abbrev afI (C:ag) (b:cu):Prop:=cv Try.prog ay C (TD C) 44 (cM Try.prog (ay.aY 44)) (ay.sin 44).a8.length b
theorem afJ (C:ag):afI C (.loop (aw [1,1,0,1,0,0] Tx)):=
 cw HR [false,true,false,false,false,false,false,false,false,false,false,false,false,true] [[1,0,0,3,4,5,6,7,8,9,10,11,12,13,0]] (@A4 C) (by kernel_rfl) (bf (bs:=[]) (by kernel_rfl) av) (fun ds=>by kernel_rfl) (fun i x=>by kernel_rfl) (fun i x β k=>by kernel_rfl) (fun β ds k=>by kernel_rfl)
noncomputable def TE (C:ag) (cU dh:Int) (bH ee bN:List V):Option (List V):=
 (Loop (Fh C (bH.length:Int) cU dh bN 0 0 cU 0 bH ee ([]:List V) ([]:List V)) (0,([]:List V))).bind (un fun (jQ:Int)=>un fun (lX:Bool) (b_5:List V)=>
  some [.int .i64 cU,.int .i64 0,.int .i64 cU,.int .i64 dh,.list dJ bN,.list lf b_5,.list c8 ee,.list aa bH])
theorem afK {cU dh:Int} {bH ee bN:List V} {r:Option (List V)} (h:TE CC cU dh bH ee bN=r):CC Dp [.int .i64 cU,.int .i64 dh,.list aa bH,.list c8 ee,.list dJ bN]=r:=
 a9 (key:=44) (L:=TD CC) (bs:=[.loop (aw [1,1,0,1,0,0] Tx)]) (by kernel_rfl) (bG (afJ CC) av) (aW (by kernel_rfl) h)
noncomputable abbrev TF:Code:=cJ Try.prog (ay.aY 14)
noncomputable def xg (C:ag) (kD kE:Int) (ee bN:List V) (cU dh:Int) (pe fB jW:List V) {β:Type} (kn:(Int × Int × (List V) × (List V) × (List V))→Option β) (kr:((Int × Int × Int × (List V) × (List V)) ⊕ (Bool × Int × Int × (List V) × (List V) × (List V)))→Option β):Option β:=
 (C Dn [.int .i64 cU,.int .i64 dh,.list aa pe,.list c8 fB,.list dJ jW]).bind fun r4=>
 bif !((V.nth r4 0).toBool) then
  (C vL [.int .i64 ((V.nth (r4.drop 1) 0).toInt),.int .i64 ((V.nth ((r4.drop 1).drop 1) 0).toInt),.list aa ((V.nth (((r4.drop 1).drop 2).drop 1) 0).toList),.list c8 ((V.nth ((((r4.drop 1).drop 2).drop 1).drop 1) 0).toList),.list dJ ((V.nth ((r4.drop 1).drop 2) 0).toList)]).bind fun r5=>
  bif (((V.nth r5 0).toInt):Int) != 0 then
  kr (.inl ((V.nth r5 0).toInt,0,0,([]:List V),([]:List V)))
  else
  kn ((V.nth (r5.drop 1) 0).toInt,(V.nth ((r5.drop 1).drop 1) 0).toInt,(V.nth (((r5.drop 1).drop 2).drop 1) 0).toList,(V.nth ((((r5.drop 1).drop 2).drop 1).drop 1) 0).toList,(V.nth ((r5.drop 1).drop 2) 0).toList)
 else
  kr (.inr (!((V.nth r4 0).toBool),(V.nth (r4.drop 1) 0).toInt,(V.nth ((r4.drop 1).drop 1) 0).toInt,(V.nth (((r4.drop 1).drop 2).drop 1) 0).toList,(V.nth ((((r4.drop 1).drop 2).drop 1).drop 1) 0).toList,(V.nth ((r4.drop 1).drop 2) 0).toList))
noncomputable def uu (C:ag) (kD kE:Int) (ee bN:List V):(Int × Int × (List V) × (List V) × (List V))→Option ((Int × Int × (List V) × (List V) × (List V)) ⊕ ((Int × Int × Int × (List V) × (List V)) ⊕ (Bool × Int × Int × (List V) × (List V) × (List V)))):=un fun cU=>un fun dh=>un fun pe=>un fun fB jW=>xg C kD kE ee bN cU dh pe fB jW (fun y=>some (.inl y)) (fun r=>some (.inr r))
noncomputable def TG (C:ag):cy:=fun β n ds k=>
 bif Nat.beq n 81 then cj HK [false,false,true,true,false,false,true,true,true] [[0,0,0,0,0],[0,1,2,0,0,5,6,0,0,0]] (@xg C) ds k else
 none
abbrev afL (C:ag) (b:cu):Prop:=cv Try.prog ay C (TG C) 14 (cM Try.prog (ay.aY 14)) (ay.sin 14).a8.length b
theorem afM (C:ag):afL C (.loop (aw [1,1,1,0,0,0] TF)):=
 cw HK [false,false,true,true,false,false,true,true,true] [[0,0,0,0,0],[0,1,2,0,0,5,6,0,0,0]] (@xg C) (by kernel_rfl) (bf (bs:=[]) (by kernel_rfl) av) (fun ds=>by kernel_rfl) (fun i x=>by kernel_rfl) (fun i x β k=>by kernel_rfl) (fun β ds k=>by kernel_rfl)
noncomputable def TH (C:ag) (ah ar:Int) (ae:List V) (letters:Int):Option (List V):=
 (C tt [.int .i64 ah,.int .i64 ar,.list aa ae,.int .i64 letters]).bind fun r1=>
 bif (((V.nth r1 0).toInt):Int) != 0 then
  some [.int .i64 0,.int .i64 0,.int .i64 ((V.nth r1 0).toInt),.list lf ([]:List V),.list c8 ([]:List V)]
 else
  (C y7 [.int .i64 ah,.int .i64 ar,.list aa ae]).bind fun r2=>
  (C Dm [.int .i64 ((V.nth r2 0).toInt),.int .i64 ((V.nth (r2.drop 1) 0).toInt),.list aa ((V.nth ((r2.drop 1).drop 1) 0).toList),.int .i64 letters]).bind fun r3=>
  (Loop (uu C 0 0 ([]:List V) ([]:List V)) ((V.nth r3 0).toInt,(V.nth (r3.drop 1) 0).toInt,(V.nth (r3.drop 2) 0).toList,(V.nth ((r3.drop 2).drop 1) 0).toList,(V.nth (((r3.drop 2).drop 1).drop 1) 0).toList)).bind (bY (un fun (lg:Int)=>un fun (Kb:Int)=>un fun (Kc:Int)=>un fun (um:List V) (A0:List V)=>
   some [.int .i64 Kb,.int .i64 Kc,.int .i64 lg,.list lf um,.list c8 A0]) (un fun (zy:Bool)=>un fun (afN:Int)=>un fun (afO:Int)=>un fun (Kp:List V)=>un fun (Kq:List V) (afP:List V)=>
   (C Dp [.int .i64 afN,.int .i64 afO,.list aa Kp,.list c8 Kq,.list dJ afP]).bind fun dB=>
   some [.int .i64 ((V.nth dB 0).toInt),.int .i64 ((V.nth (dB.drop 1) 0).toInt),.int .i64 0,.list lf ((V.nth (((dB.drop 2).drop 2).drop 1) 0).toList),.list c8 ((V.nth ((((dB.drop 2).drop 2).drop 1).drop 1) 0).toList)]))
theorem afQ {ah ar:Int} {ae:List V} {letters:Int} {r:Option (List V)} (h:TH CC ah ar ae letters=r):CC Dg [.int .i64 ah,.int .i64 ar,.list aa ae,.int .i64 letters]=r:=
 a9 (key:=14) (L:=TG CC) (bs:=[.loop (aw [1,1,1,0,0,0] TF)]) (by kernel_rfl) (bG (afM CC) av) (aW (by kernel_rfl) h)
end Go.AM
set_option maxRecDepth 100000
namespace Go.AM
open Go.Proofs Ex
structure Dv.Ok (d:Dv):Prop where
 es: ∀e∈d.es,e.Ok
 el:d.es.length≤maxLen
 nl:d.nx.length≤maxLen
 rl: ∀r∈d.nx,r.length≤maxLen
abbrev Fi (s:Dv):Int × Int × List V × List V × List V:=(s.L,s.dn,s.es.map enc,s.nx.map ph,eW s.es)
theorem afR {e:Ex} {L:Int} (h:e.val L=0):Nv (aL e):=⟨l7 e (n0 (EV h)).2.2,J3 (EV h)⟩
structure Fa where
 L:Int
 F:List Bool
 N:List (List Int)
abbrev faE (p:Fa × Int):List V:=[.int .i64 p.1.L,.int .i64 0,.int .i64 p.2,.list lf (p.1.F.map V.bool),.list c8 (p.1.N.map ph)]
def Fa.zero:Fa:=⟨0,[],[]⟩
def afS (d:Dv):Fa:=⟨d.L,d.es.map Ex.cY,d.nx⟩
theorem afT {es:List Ex} (hn:es.length≤1000) (ho: ∀e∈es,Nv e) {a b c1 c2 c3 c4:Int} {l1 l2 l3 l4:List V}: ∀(aG pre:List Ex),es=pre++aG→
  Loop (Fh CC (es.length:Int) a b l1 c1 c2 c3 c4 (es.map enc) l2 l3 l4) (((pre.length:Nat):Int),(pre.map Ex.cY).map V.bool)=some ((es.length:Int),false,(es.map Ex.cY).map V.bool):=by
 intro aG
 induction aG with
 | nil=>
  intro pre e
  rw[dz] at e
  subst e
  refine bc ?_
  simp only[Fh,A4,un]
  rw[aA,ai (by omega),cQ (by omega)]
 | cons k aG eU=>
  intro pre e
  have bK:pre.length<es.length:=by rw[e];simp
  have hk:k∈es:=by rw[e];simp
  have bX:(es.map enc)[pre.length]? =some k.enc:=by rw[e];simp
  have hv:=n0 (ho k hk).2
  refine (bS ?_).trans (eU (pre++[k]) (by simp[e]))
  simp only[Fh,A4,un]
  refine bT (uh bK) ((rS bX).trans ?_)
  rw[bq,br,bt]
  refine bs (aeU (letters:=6) k (rI (by omega) k hv.2.2 (by omega)) hv.2.2) ?_
  refine bT (by rw[dC,qn];simp;omega) ?_
  rw[om (by omega)]
  simp only[fP,cG,gl,b8,List.length_cons,List.length_nil]
  rfl
theorem afU {s:Dv} (hs:Gs s): ∃l,CC Dp (xf s)=some l∧(V.nth l 0).toInt=s.L∧(V.nth (l.drop 1) 0).toInt=0∧(V.nth (((l.drop 2).drop 2).drop 1) 0).toList=(s.es.map Ex.cY).map V.bool∧(V.nth ((((l.drop 2).drop 2).drop 1).drop 1) 0).toList=s.nx.map ph:=by
 have hl:=hs.es.le
 refine ⟨[.int .i64 s.L,.int .i64 0,.int .i64 s.L,.int .i64 s.dn,.list dJ (eW s.es),.list lf ((s.es.map Ex.cY).map V.bool),.list c8 (s.nx.map ph),.list aa (s.es.map enc)],afK ?_,?_⟩
 ·unfold TE
  rw[bm]
  refine bs (afT (by omega) hs.es.nv s.es [] rfl) ?_
  simp only[un]
 ·exact ⟨rfl,rfl,rfl,rfl⟩
def A6 (e:Ex) (L:Int):Fa × Int:=if e.val L=0 then (match rX 513 (qC e L) with|some t=>(afS t,0)|none=>(.zero,3)) else (.zero,e.val L)
theorem TI {a b:Int} {l1 l2:List V}: ∀(n:Nat) (s:Dv),Gs s→513≤s.dn+n→
  (∀t,rX n s=some t→Loop (uu CC a b l1 l2) (Fi s)=some (.inr (false,t.L,t.dn,t.es.map enc,t.nx.map ph,eW t.es)))∧(rX n s=none→Loop (uu CC a b l1 l2) (Fi s)=some (.inl (3,0,0,[],[])))
 | 0,s,hs,hn=>by have:=hs.dn;have:=hs.es.le;omega
 | n+1,s,hs,hn=>by
  rw[rX]
  have Si:=hs.dn
  by_cases hd:s.dn<s.es.length
  ·rw[aj hd]
   obtain ⟨p1,p2⟩:=afH hs hd
   have hf:(!(s.dn==(s.es.length:Int)))=true:=by rw[mh,A9];omega
   cases hp:proc s with
   | none=>
    obtain ⟨l,hl⟩:=p2 hp
    refine ⟨fun t ht=>(by cases ht),fun _=>bc ?_⟩
    simp only[uu,xg,un]
    refine bs (Kz s) (bT hf ?_)
    refine bs hl ?_
    rfl
   | some u=>
    obtain ⟨g,_,g2,_⟩:=Sh hs hd hp
    obtain ⟨i1,i2⟩:=TI (a:=a) (b:=b) (l1:=l1) (l2:=l2) n u g (by omega)
    have dF:uu CC a b l1 l2 (Fi s)=some (.inl (Fi u)):=by
     simp only[uu,xg,un]
     refine bs (Kz s) (bT hf ?_)
     refine bs (p1 u hp) ?_
     rfl
    exact ⟨fun t ht=>(bS dF).trans (i1 t ht),fun ht=>(bS dF).trans (i2 ht)⟩
  ·rw[ai hd]
   refine ⟨fun t ht=> ?_,fun ht=>(by cases ht)⟩
   cases ht
   refine bc ?_
   have hf:(!(s.dn==(s.es.length:Int)))=false:=by rw[Bool.not_eq_false',beq_iff_eq];omega
   simp only[uu,xg,un]
   refine bs (Kz s) (bF hf ?_)
   exact congrArg (fun b=>some (Sum.inr (Sum.inr (b,s.L,s.dn,s.es.map enc,s.nx.map ph,eW s.es)))) hf
theorem afV {e:Ex} (h:e.Ok) (L:Int):CC Dg (bJ e [.int .i64 L])=some (faE (A6 e L)):=by
 refine afQ ?_
 unfold TH A6
 refine bs (DY e h L) ?_
 by_cases hv:e.val L=0
 ·rw[aj hv]
  refine bF (by rw[V.aS,V.toInt_int,hv];rfl) ?_
  have hN:=RI e h
  rw[aj (EV hv)] at hN
  refine bs hN (bs (afF (L:=L) (afR hv)) ?_)
  obtain ⟨l1,l2⟩:=TI (a:=0) (b:=0) (l1:=[]) (l2:=[]) 513 (qC e L) (Sk hv) (by show 513≤(0:Int)+_;omega)
  cases hp:rX 513 (qC e L) with
  | none=>exact bs (l2 hp) rfl
  | some t=>
   refine bs (l1 t hp) ?_
   obtain ⟨l,a1,a2,a3,a4,a5⟩:=afU (Sj 513 _ _ (Sk hv) hp).1
   refine bs a1 ?_
   rw[a2,a3,a4,a5]
   rfl
 ·rw[ai hv]
  refine bT ?_ rfl
  rw[V.aS,V.toInt_int,bne_iff_ne];exact hv
end Go.AM
set_option maxRecDepth 100000
namespace Go.AM
open Go.Proofs
noncomputable def TJ (C:ag):Option (List V):=
 some [.int .i64 7,.int .i64 0,.list aa ([.agg [.int .i64 5,.int .i64 0,.list aa ([.agg [.int .i64 3,.int .i64 0,.list aa ([]:List V)],.agg [.int .i64 3,.int .i64 1,.list aa ([]:List V)]]:List V)]]:List V)]
theorem afW {r:Option (List V)} (h:TJ CC=r):CC Dl []=r:=
 a9 (key:=38) (L:=b9) (bs:=[]) (by kernel_rfl) av (aW (by kernel_rfl) h)
noncomputable def TK (C:ag):Option (List V):=
 (C Dl []).bind fun r1=>
 (C Dg [.int .i64 ((V.nth r1 0).toInt),.int .i64 ((V.nth (r1.drop 1) 0).toInt),.list aa ((V.nth (r1.drop 2) 0).toList),.int .i64 2]).bind fun r2=>
 bif (((V.nth (r2.drop 2) 0).toInt):Int)==0 then
  bif ((((V.nth (r2.drop 3) 0).toList).length:Int):Int)==3 then
  bif decide (0<(((V.nth (r2.drop 3) 0).toList).length:Int)) then
   (((V.nth (r2.drop 3) 0).toList)[0]?).bind fun x3=>
   bif x3.toBool then
   bif decide (1<(((V.nth (r2.drop 3) 0).toList).length:Int)) then
    (((V.nth (r2.drop 3) 0).toList)[1]?).bind fun x4=>
    some [.bool (!x4.toBool)]
   else none
   else
   some [.bool false]
  else none
  else
  some [.bool false]
 else
  some [.bool false]
theorem afX {r:Option (List V)} (h:TK CC=r):CC kq []=r:=
 a9 (key:=13) (L:=b9) (bs:=[]) (by kernel_rfl) av (aW (by kernel_rfl) h)
end Go.AM
set_option maxRecDepth 100000
namespace Go.AM
open Go.Proofs Ex
def xh:Ex:= .node 7 0 [.node 5 0 [.node 3 0 [],.node 3 1 []]]
theorem afY:xh.Ok:=by
 refine .node (by omega) (by omega) (by unfold maxLen;simp) fun k hk=> ?_
 rw[dW.1 hk]
 refine .node (by omega) (by omega) (by unfold maxLen;simp) fun k hk=> ?_
 rcases cX.1 hk with rfl|hk
 ·exact .node (by omega) (by omega) (by simp) (by simp)
 ·rw[dW.1 hk]
  exact .node (by omega) (by omega) (by simp) (by simp)
theorem afZ:(A6 xh 2).2=0∧(A6 xh 2).1.F=[true,false,false]:=by decide+kernel
theorem xi:CC kq []=some [.bool true]:=by
 refine afX ?_
 unfold TK
 have eP:CC Dl []=some (gZ xh):=by
  refine afW ?_
  unfold TJ xh
  simp only[gZ,Ex.op,Ex.cl,Ex.kids,cG,gl,et]
 refine bs eP ?_
 refine bs (afV afY 2) ?_
 obtain ⟨h1,U⟩:=afZ
 generalize A6 xh 2=p at h1 U
 obtain ⟨⟨L,F,N⟩,f⟩:=p
 simp only at h1 U
 subst h1 U
 rfl
end Go.AM
set_option maxRecDepth 100000
namespace Go.AM
open Go.Proofs
noncomputable def TL (C:ag) (ah ar:Int) (ae:List V) (w v:List UInt8):Option (List V):=
 (C Dh [.int .i64 ah,.int .i64 ar,.list aa ae,.int .i64 16]).bind fun r1=>
 bif !((V.nth r1 0).toBool) then
  (C kq []).bind fun r2=>
  some [.bool ((V.nth r2 0).toBool)]
 else
  bif decide (((IntKind.wrap .i64 ((w.length:Int)+(v.length:Int))):Int)>6) then
  (C kq []).bind fun r3=>
  some [.bool ((V.nth r3 0).toBool)]
  else
  bif Nat.ble (w.length+v.length) mu then
   (C Di [.str (w++v),.int .i64 6]).bind fun r4=>
   bif !((V.nth r4 0).toBool) then
   (C kq []).bind fun r5=>
   some [.bool ((V.nth r5 0).toBool)]
   else
   (C vI [.int .i64 ah,.int .i64 ar,.list aa ae,.str w]).bind fun r6=>
   bif Nat.ble (w.length+v.length) mu then
    (C vI [.int .i64 ah,.int .i64 ar,.list aa ae,.str (w++v)]).bind fun r7=>
    bif (((V.nth (r6.drop 3) 0).toInt):Int) != 0 then
    bif (((V.nth (r6.drop 3) 0).toInt):Int)==0 then
     bif (((V.nth (r7.drop 3) 0).toInt):Int)==0 then
     (C kq []).bind fun r8=>
     some [.bool ((V.nth r8 0).toBool)]
     else
     bif (((V.nth (r7.drop 3) 0).toInt):Int)==3 then
      (C kq []).bind fun r9=>
      some [.bool ((V.nth r9 0).toBool)]
     else
      some [.bool false]
    else
     bif (((V.nth (r6.drop 3) 0).toInt):Int)==3 then
     bif (((V.nth (r7.drop 3) 0).toInt):Int)==0 then
      (C kq []).bind fun dV=>
      some [.bool ((V.nth dV 0).toBool)]
     else
      bif (((V.nth (r7.drop 3) 0).toInt):Int)==3 then
      (C kq []).bind fun eL=>
      some [.bool ((V.nth eL 0).toBool)]
      else
      some [.bool false]
     else
     some [.bool false]
    else
    bif (((V.nth (r7.drop 3) 0).toInt):Int) != 0 then
     bif (((V.nth (r6.drop 3) 0).toInt):Int)==0 then
     bif (((V.nth (r7.drop 3) 0).toInt):Int)==0 then
      (C kq []).bind fun fy=>
      some [.bool ((V.nth fy 0).toBool)]
     else
      bif (((V.nth (r7.drop 3) 0).toInt):Int)==3 then
      (C kq []).bind fun gf=>
      some [.bool ((V.nth gf 0).toBool)]
      else
      some [.bool false]
     else
     bif (((V.nth (r6.drop 3) 0).toInt):Int)==3 then
      bif (((V.nth (r7.drop 3) 0).toInt):Int)==0 then
      (C kq []).bind fun kC=>
      some [.bool ((V.nth kC 0).toBool)]
      else
      bif (((V.nth (r7.drop 3) 0).toInt):Int)==3 then
       (C kq []).bind fun lk=>
       some [.bool ((V.nth lk 0).toBool)]
      else
       some [.bool false]
     else
      some [.bool false]
    else
     (C vI [.int .i64 ((V.nth r6 0).toInt),.int .i64 ((V.nth (r6.drop 1) 0).toInt),.list aa ((V.nth ((r6.drop 1).drop 1) 0).toList),.str v]).bind fun kB=>
     bif (((V.nth (kB.drop 3) 0).toInt):Int)==0 then
     (C y6 [.int .i64 ((V.nth kB 0).toInt),.int .i64 ((V.nth (kB.drop 1) 0).toInt),.list aa ((V.nth ((kB.drop 1).drop 1) 0).toList),.int .i64 ((V.nth r7 0).toInt),.int .i64 ((V.nth (r7.drop 1) 0).toInt),.list aa ((V.nth ((r7.drop 1).drop 1) 0).toList)]).bind fun dB=>
     bif (V.nth dB 0).toBool then
      (C kq []).bind fun iF=>
      some [.bool ((V.nth iF 0).toBool)]
     else
      some [.bool false]
     else
     some [.bool false]
   else none
  else none
theorem af0 {ah ar:Int} {ae:List V} {w v:List UInt8} {r:Option (List V)} (h:TL CC ah ar ae w v=r):CC HE [.int .i64 ah,.int .i64 ar,.list aa ae,.str w,.str v]=r:=
 a9 (key:=8) (L:=b9) (bs:=[]) (by kernel_rfl) av (aW (by kernel_rfl) h)
end Go.AM
set_option maxRecDepth 100000
namespace Go.AM
open Go.Proofs Ex
theorem TR (e:Ex) (h:e.Ok) (w v:List UInt8) (hwl:w.length≤reachBytes) (qY:v.length≤reachBytes):CC HE (bJ e [.str w,.str v])=some [.bool true]:=by
 refine af0 ?_
 unfold TL
 refine bs (aeB e h 16) ?_
 by_cases hl:e.val 6=0∧(e.size:Int)≤16
 case neg=>exact bT (by rw[V.aS,V.dU,cQ hl];rfl) (bs xi rfl)
 refine bF (by rw[V.aS,V.dU,ef hl];rfl) ?_
 rw[aA]
 by_cases h6:IntKind.wrap .i64 ((w.length:Int)+(v.length:Int))>6
 ·rw[aj h6];exact bs xi rfl
 rw[ai h6]
 rw[wrap64 (by omega) (by unfold reachBytes at*;omega)] at h6
 have TM:Nat.ble (w.length+v.length) mu=true:=by rw[dC];unfold mu;omega
 refine bT TM (bs (aep (w++v) 6) ?_)
 by_cases hw:ni (w++v) 6
 case neg=>exact bT (by rw[V.aS,V.dU,cQ hw];rfl) (bs xi rfl)
 refine bF (by rw[V.aS,V.dU,ef hw];rfl) ?_
 refine bs (Ke e h w) (bT TM (bs (Ke e h (w++v)) ?_))
 obtain ⟨w1,w2⟩:=aeC hw
 have a1:rZ e w=xd w (aL e):=by unfold rZ;rw[aj hl.1,aj w1]
 have a2:rZ e (w++v)=xd (w++v) (aL e):=by unfold rZ;rw[aj hl.1,aj hw]
 rw[a1,a2]
 unfold xd
 rw[Sl]
 cases hg:jX w (aL e) with
 | none=>exact bT rfl (bF rfl (bT rfl (bF rfl (bT rfl (bs xi rfl)))))
 | some x=>
  have hx:=Kf w _ x (SC hl.1) hg
  refine bF rfl ?_
  simp only[Option.bind_some]
  cases sY:jX v x with
  | none=>exact bT rfl (bT rfl (bF rfl (bT rfl (bs xi rfl))))
  | some y=>
   have hy:=Kf v _ y hx sY
   have a3:rZ x v=(y,0):=by unfold rZ xd;rw[aj hx.2,aj w2,hx.aL,sY]
   have hb:=Ke x (Kd hx) v
   rw[a3] at hb
   exact bF rfl (bs hb (bT rfl (bs (aeM (Kd hy) (Kd hy)) (bT (ef rfl) (bs xi rfl)))))
end Go.AM
