/-
  Functions of the program, lifted to plain data.
-/
import Derived.Test.YtmepeheomkieeaaGreatDoorP5
set_option linter.unusedVariables false
set_option linter.unusedSimpArgs false
set_option linter.unusedSectionVars false
set_option maxRecDepth 100000
namespace Go.AM
open Go.IntKind (wrap)
open Go.Proofs
def nV(q:Nat):V:=vI (q:Int)
def nS(S:List Nat):List V:=S.map nV
def mS(S:List Nat):List V:=cO nV 0 S
theorem abL(a b:Nat):jO (nV a) (nV b)=decide (a=b):=axj a b
theorem ff{S:List Nat}:(nS S).length=S.length:=by simp[nS]
theorem EB{S:List Nat}{i:Nat}(h:i<S.length):(nS S)[i]? =some (nV S[i]):=by simp[nS,h]
theorem axE{x:Nat}(hx:x≤1000000):CC 165 [nV x,ab []]=some [nV 0,ab (nS [x]),.list mB (mS [x])]:=by
 refine axn ?_;unfold alC;rw[te (by omega)];exact bT rfl (bT rfl (bT (cap (by simp) (by omega)) rfl))
theorem axF{S:List Nat}{x:Nat}(hx:x≤1000000)(hl:S.length≤1000000):CC YL [nV x,ab (nS S),.list mB (mS S)]=some [nV ((eV S x).idxOf x),.list mB (mS (eV S x)),ab (nS (eV S x))]:=by
 refine axo ?_;unfold alD;have e1:=Ey abL x S 0;rw[te (by omega)];refine bT rfl ?_;rw[axk];by_cases h:x∈S
 ·refine bF (by rw[show gD (vI (x:Int)) (mS S)=true from e1.trans (bj h)];rfl) ?_;have e2:=MB abL x (vI 0) S 0 h;rw[show mq (vI (x:Int)) (mS S) (vI 0)=_ from e2,aP h,cL,show eV S x=S by unfold eV;rw[aP h]];rfl
 ·refine bT (by rw[show gD (vI (x:Int)) (mS S)=false from e1.trans (cw h)];rfl) ?_;refine bT rfl ?_;refine bT (cap (by rw[ff];simp;omega) (by omega)) ?_;have e2:=MC abL x S 0 h;rw[cL]at e2;rw[ff,show kJ (vI (x:Int)) (vI (S.length:Int)) (mS S)=_ from e2,aM h,show eV S x=S++[x] by unfold eV;rw[aM h]];simp[nS,nV,mS]
theorem axG{a:Da}{q x:Nat}(hq:q<a.n)(hx:x<a.L):CC 129 (nV q::nV x::iC a)=some (nV (a.nx q x)::iC a):=by
 refine axl ?_;unfold alA;refine bs (Da.TM hq) ?_;rw[My];exact bs (Mz hx) rfl
theorem axH{a:Da}{q:Nat}(hq:q<a.n):CC 130 (nV q::iC a)=some (.bool (a.fin q)::iC a):=by
 refine axm ?_;unfold alB;exact bs (Da.TL hq) rfl
section
variable {a:Da}(h:a.Ok)
include h
theorem axI{S U:List Nat}{q:Nat}(hq:q<a.n)(hS:∀s∈S,s<a.n)(hSn:S.length≤1000)(hp:dg a.nx S q a.L <+: U){i c1 c2:Int}{l1 l2 l3 l4:List V}:
  Loop (TT CC (a.L:Int) i (q:Int) ((List.replicate (((a.L:Nat):Int).toNat) (vI 0)).length:Int) c1 c2 (a.L:Int) 0 l1 l2 l3 l4) (0,(a.L:Int),(a.st:Int),a.gq,a.ia,List.replicate (((a.L:Nat):Int).toNat) (vI 0),nS S,mS S)=
   some ((a.L:Int),false,(a.L:Int),(a.st:Int),a.gq,a.ia,(tab a.L fun x=>nV (U.idxOf (a.nx q x))),nS (dg a.nx S q a.L),mS (dg a.nx S q a.L)):=by
 have h6:=h.l6;rw[Int.toNat_natCast,mG,fi];refine(gp a.L (fun x=>((x:Int),(a.L:Int),(a.st:Int),a.gq,a.ia,(tab a.L fun j=>if j<x then nV (U.idxOf (a.nx q j))else nV 0),nS (dg a.nx S q x),mS (dg a.nx S q x))) _ (fun x hx=> ?_) ?_)
 ·simp only[TT,MF,un,aL,aG];refine bT (cF hx) ?_;refine bs (axG hq hx) ?_;have hT:(dg a.nx S q x).length≤1000000:=by
   have:∀x,(dg a.nx S q x).length≤S.length+x:=by
    intro x
    induction x with
    |zero=>exact aR _
    |succ x ih=>rw[dg,Hw];grind
   grind
  refine bs (axF (S:=dg a.nx S q x) (by have:=h.ov hq hx;have:=h.eG;omega) hT) ?_;refine(pD hx).trans ?_;rw[bY (by omega),Int.toNat_natCast,jf];have e:(eV (dg a.nx S q x) (a.nx q x)).idxOf (a.nx q x)=U.idxOf (a.nx q x):=(HA ((Hy S q (show x+1≤a.L by omega)).trans hp) Ml).symm;show some (Sum.inl _)=some (Sum.inl _);refine congrArg (fun x=>some (Sum.inl x)) ?_;refine dX rfl (dX rfl (dX rfl (dX rfl (dX rfl (dX ?_ (dX rfl rfl))))));refine dA fun j _=> ?_;by_cases hj:j=x
  ·rw[aP hj,gC,hj,←e];rfl
  grind
 ·simp only[TT,MF,un,aL,aG];refine bF (cf (aR _)) ?_;rw[cf (aR _)];have:(tab a.L fun j=>if j<a.L then nV (U.idxOf (a.nx q j))else nV 0)=tab a.L fun j=>nV (U.idxOf (a.nx q j)):=dA fun j hj=>aP hj;rw[this]
theorem axJ:CC 128 ([nV a.L,nV a.st]++iC a)=some ([nV a.L,nV 0,vI 0]++(iC a++[au a.trim.gq,aq a.trim.ia,ab (nS (aX a.L a.nx a.st a.n))])):=by
 have h6:=h.l6;have hm:=h.eG;have hd:=h.z0 a.n;refine axy ?_;unfold alK;refine bs (axE (by have:=h.s;omega)) ?_;have key:Loop (TU CC (a.L:Int) 0 0 (a.L:Int) 0 ([]:List V) ([]:List V)) (0,(a.L:Int),(a.st:Int),a.gq,a.ia,nS [a.st],mS [a.st],([]:List V),([]:List V))=
   some (.inr (((aX a.L a.nx a.st a.n).length:Int),false,(a.L:Int),(a.st:Int),a.gq,a.ia,nS (aX a.L a.nx a.st a.n),mS (aX a.L a.nx a.st a.n),a.trim.gq,a.trim.ia)):=by
  refine(gp (aX a.L a.nx a.st a.n).length (fun i=>((i:Int),(a.L:Int),(a.st:Int),a.gq,a.ia,nS (aX a.L a.nx a.st i),mS (aX a.L a.nx a.st i),(tab i fun j=>V.bool (a.trim.fin j)),(tab i fun j=>td a.L (a.trim.nx j)))) _ (fun i hi=> ?_) ?_)
  ·have Gd:=aby hd hi;have hUi:(aX a.L a.nx a.st i)[i]=(aX a.L a.nx a.st a.n)[i]:=(zZ (show i≤a.n by omega)).getElem Gd;have hq:(aX a.L a.nx a.st a.n)[i]<a.n:=h.Mo _ _ (fx hi);have hlen:(aX a.L a.nx a.st i).length≤512:=lR (h.z0 i) hm;have aIR:(aX a.L a.nx a.st (i+1)).length≤512:=lR (h.z0 (i+1)) hm;have zf:=Mm hd hi;simp only[TU,MG,un,aL];refine bT (bj (by rw[ff];omega)) ?_;refine(aU (EB Gd)).trans ?_;refine bT (iB (by omega) (by omega)) ?_;rw[hUi];refine bs (axI h hq (h.Mo i) (by omega) (U:=aX a.L a.nx a.st a.n) (by rw[←zf];exact zZ (by omega))) ?_;rw[←zf];refine bF (cw (by rw[ff];omega)) ?_;refine bT (cap (by rw[fi];simp;omega) (by omega)) ?_;refine bs (axH hq) ?_;refine bT (cap (by rw[fi];simp;omega) (by omega)) ?_;rw[bY (by omega),TF,TF];have e1:a.trim.fin i=a.fin (aX a.L a.nx a.st a.n)[i]:=ald hi;have e2:td a.L (a.trim.nx i)=ab (tab a.L fun x=>nV ((aX a.L a.nx a.st a.n).idxOf (a.nx (aX a.L a.nx a.st a.n)[i] x))):=by
    unfold td;refine congrArg _ (dA fun x hx=> ?_);rw[show a.trim.nx i x=_ from TB hi hx];rfl
   rw[e1,e2];rfl
  ·simp only[TU,MG,un,aL];rw[alf hd,ff];refine bF (cf (aR _)) ?_;rw[cf (aR _)];have e3:a.trim.n=(aX a.L a.nx a.st a.n).length:=yd;unfold Da.gq Da.ia;rw[e3];rfl
 refine bs key ?_;rfl
end
def qU(U:List Nat)(n:Nat):List V:=tab n fun q=>if q∈U then nV (U.idxOf q)else vI (-1)
theorem axK{U:List Nat}{n i:Nat}(hU:U.Nodup)(hi:i<U.length):(tab n fun q=>if q∈U.take i then nV (U.idxOf q)else vI (-1)).set U[i] (vI (i:Int))=tab n fun q=>if q∈U.take (i+1)then nV (U.idxOf q)else vI (-1):=by
 rw[jf];refine dA fun q _=> ?_;have e:q∈U.take (i+1)↔q∈U.take i∨q=U[i]:=by rw[u9 hi,fQ,iY]
 by_cases hq:q=U[i]
 ·rw[aP hq,aP (e.2 (.inr hq)),hq,hU.idxOf_getElem i hi];rfl
 grind
theorem alO{a:Da}(h:a.Ok):CC 102 (iC a)=some (iC a.trim++[ab (qU (aX a.L a.nx a.st a.n) a.n)]):=by
 have hm:=h.eG;have hU:=h.Mo a.n;have hle:=h.z0 a.n;refine axD ?_;unfold alN;refine bs (BQ h) ?_;refine bF rfl ?_;refine bs (axJ h) ?_;have e0:(gL (((([nV a.L,nV 0,vI 0]++(iC a++[au a.trim.gq,aq a.trim.ia,ab (nS (aX a.L a.nx a.st a.n))])).drop 3).drop 1).drop 1))=a.gq:=rfl;rw[e0,Da.Mx];refine bT (iB (by omega) (by omega)) ?_;rw[Int.toNat_natCast,mG,fi];generalize hUd:aX a.L a.nx a.st a.n=U at*
 have l1:∀{c1 c2 c3 c4:Int} {s1 s2 s3 s4 s5:List V},Loop (TV CC (a.n:Int) c1 c2 c3 c4 s1 s2 s3 s4 s5) (0,tab a.n fun _=>vI 0)=some ((a.n:Int),false,tab a.n fun q=>if q∈U.take 0 then nV (U.idxOf q)else vI (-1)):=by
  intro c1 c2 c3 c4 s1 s2 s3 s4 s5;refine(gp a.n (fun i=>((i:Int),(tab a.n fun j=>if j<i then vI (-1)else vI 0))) _ (fun i hi=> ?_) ?_)
  ·simp only[TV,MI,un,aL,aG];refine bT (cF hi) ?_;refine(pD hi).trans ?_;rw[bY (by omega),Int.toNat_natCast,jf];grind
  ·simp only[TV,MI,un,aL,aG];refine bF (cf (aR _)) ?_;rw[cf (aR _)];refine congrArg (fun x=>some (Sum.inr ((a.n:Int),false,x))) (dA fun j hj=> ?_);grind
 refine bs l1 ?_;simp only[un];have hUn:U.Nodup:=by rw[←hUd];exact Hz _
 have l2:∀{c1 c2 c3 c4:Int} {s2 s3 s4 s5:List V},Loop (TW CC ((nS U).length:Int) c1 c2 c3 c4 (nS U) s2 s3 s4 s5) (0,tab a.n fun q=>if q∈U.take 0 then nV (U.idxOf q)else vI (-1))=some ((U.length:Int),false,qU U a.n):=by
  intro c1 c2 c3 c4 s2 s3 s4 s5;rw[ff];refine(gp U.length (fun i=>((i:Int),(tab a.n fun q=>if q∈U.take i then nV (U.idxOf q)else vI (-1)))) _ (fun i hi=> ?_) ?_)
  ·have hq:=hU U[i] (fx hi);simp only[TW,MJ,un,aL,aG];refine bT (cF hi) ?_;refine(aU (EB hi)).trans ?_;refine(pD (i:=U[i]) hq).trans ?_;rw[bY (by omega)];refine congrArg (fun x=>some (Sum.inl (((i+1:Nat):Int),x))) ?_;exact axK hUn hi
  ·simp only[TW,MJ,un,aL,aG];refine bF (cf (aR _)) ?_;rw[cf (aR _),tH];rfl
 refine bs l2 ?_;rfl
noncomputable def MK(C:af)(f t13:LV)(t14 t15:Int){β:Type}(kn:ay Int β)(kr:ay ((Bool) ⊕ (Int×Bool)) β):Option β:=
 bif decide (t15<t14)then
  (idx t13 t15).bind fun x1=>
  bif decide ((x1.toInt:Int)<0)then
  kr (.inl false)
  else
  bif decide ((x1.toInt:Int)≥(f.length:Int))then
   kr (.inl false)
  else
   kn (wrap .i64 (t15+1))
 else
  kr (.inr (t15,decide (t15<t14)))
noncomputable def abM(C:af)(f t13:LV)(t14:Int):=fun t15=>MK C f t13 t14 t15 ct cu
noncomputable def axL(C:af):da:=cm 65 abf [zJ,zJ,zJ,zK] [[0],[1,2,3,0,0]] (@MK C) bS
theorem axM(C:af):bt C (axL C) 131 (Lp [1,1,0,1,0,0] 131):=cj abf [zJ,zJ,zJ,zK] [[0],[1,2,3,0,0]] (@MK C) (aY ak)
noncomputable def alP(C:af)(f:LV):Option LV:=
 bif decide ((f.length:Int)<1)then
  some [.bool false]
 else
  bif decide ((f.length:Int)>32)then
  some [.bool false]
  else
  (Loop (abM C f f (f.length:Int)) 0).bind (gZ (fun(lA:Bool)=>
   some [.bool lA]) (un fun(fL:Int) (hZ:Bool)=>
   some [.bool true]))
theorem axN{f:LV}{r:Option LV}(h:alP CC f=r):CC 131 [ab f]=r:=bR (br (axM CC) ak) h
noncomputable def ML(C:af)(t14 t15:Int)(fs:LV){β:Type}(kn:ay (Int×LV) β)(kr:ay (Int×Bool×LV) β):Option β:=
 bif decide (t15<t14)then
  aL fs t15 fun x1=>
  kn (wrap .i64 (t15+1),aG fs t15 (vI t15))
 else
  kr (t15,decide (t15<t14),fs)
noncomputable def abN(C:af)(t14:Int):=un fun t15 fs=>ML C t14 t15 fs ct cu
noncomputable def axO(C:af):da:=cm 81 abg [zJ,zK,zK] [[1,0,0,0]] (@ML C) bS
theorem axP(C:af):bt C (axO C) 133 (Lp [1,1,1,0,1,0,0] 133):=cj abg [zJ,zK,zK] [[1,0,0,0]] (@ML C) (aY ak)
noncomputable def alQ(C:af)(n:Int):Option LV:=
 bif decide (n<1)then
  some [ab ([]:LV)]
 else
  bif decide (n>32)then
  some [ab ([]:LV)]
  else
  bif (decide (0≤n))&&((decide (n≤n))&&(Nat.ble ((n.toNat)*8) bf))then
   (Loop (abN C ((List.replicate (n.toNat) (vI 0)).length:Int)) (0,List.replicate (n.toNat) (vI 0))).bind (un fun lA=>un fun(fL:Bool) (axQ:LV)=>
    some [ab axQ])
  else none
theorem axR{n:Int}{r:Option LV}(h:alQ CC n=r):CC 133 [vI n]=r:=bR (br (axP CC) ak) h
noncomputable def MM(C:af)(g t26:LV)(t27 t28:Int)(MN:LV){β:Type}(kn:ay (Int×LV) β)(kr:ay (Int×Bool×LV) β):Option β:=
 bif decide (t28<t27)then
  (idx t26 t28).bind fun x3=>
  (idx g x3.toInt).bind fun x4=>
  aL MN t28 fun x5=>
  kn (wrap .i64 (t28+1),aG MN t28 (vI x4.toInt))
 else
  kr (t28,decide (t28<t27),MN)
noncomputable def abO(C:af)(g t26:LV)(t27:Int):=un fun t28 MN=>MM C g t26 t27 t28 MN ct cu
noncomputable def axS(C:af):da:=cm 81 abi (aN 5 24) [[1,2,3,0,0,0]] (@MM C) bS
theorem axT(C:af):bt C (axS C) 135 (Lp [1,1,1,0,1,0,0] 135):=cj abi (aN 5 24) [[1,2,3,0,0,0]] (@MM C) (aY ak)
noncomputable def alR(C:af)(f g:LV):Option LV:=
 bif (f.length:Int) != (g.length:Int)then
  some [ab ([]:LV)]
 else
  (C 131 [ab f]).bind fun r1=>
  bif !(gB r1)then
  some [ab ([]:LV)]
  else
  (C 131 [ab g]).bind fun r2=>
  bif !(gB r2)then
   some [ab ([]:LV)]
  else
   bif (decide (0≤(f.length:Int)))&&((decide ((f.length:Int)≤(f.length:Int)))&&(Nat.ble (((f.length:Int).toNat)*8) bf))then
   (Loop (abO C g f (f.length:Int)) (0,List.replicate ((f.length:Int).toNat) (vI 0))).bind (un fun uE=>un fun(v7:Bool) (axU:LV)=>
    some [ab axU])
   else none
theorem axV{f g:LV}{r:Option LV}(h:alR CC f g=r):CC 135 [ab f,ab g]=r:=bR (br (axT CC) ak) h
noncomputable def MO(C:af)(t9:LV)(t10 t11:Int)(v9:LV){β:Type}(kn:ay (Int×LV) β)(kr:ay (Int×Bool×LV) β):Option β:=
 bif decide (t11<t10)then
  (idx t9 t11).bind fun x1=>
  aL v9 t11 fun x2=>
  kn (wrap .i64 (t11+1),aG v9 t11 (.int .u8 (wrap .u8 x1.toInt)))
 else
  kr (t11,decide (t11<t10),v9)
noncomputable def abP(C:af)(t9:LV)(t10:Int):=un fun t11 v9=>MO C t9 t10 t11 v9 ct cu
noncomputable def axW(C:af):da:=cm 49 abh [zJ,zJ,zK,zK] [[1,2,0,0,0]] (@MO C) bS
theorem axX(C:af):bt C (axW C) 134 (Lp [1,1,0,1,0,0] 134):=cj abh [zJ,zJ,zK,zK] [[1,2,0,0,0]] (@MO C) (aY ak)
noncomputable def alS(C:af)(f:LV):Option LV:=
 bif (decide (0≤(f.length:Int)))&&((decide ((f.length:Int)≤(f.length:Int)))&&(Nat.ble (((f.length:Int).toNat)*1) bf))then
  (Loop (abP C f (f.length:Int)) (0,List.replicate ((f.length:Int).toNat) (V.int .u8 0))).bind (un fun fL=>un fun(hZ:Bool) (z8:LV)=>
   some [.str (mu z8)])
 else none
theorem axY{f:LV}{r:Option LV}(h:alS CC f=r):CC 134 [ab f]=r:=bR (br (axX CC) ak) h
section
variable {X R γ:Type}{step:X→Option (X ⊕ R)}
theorem EC(s:Nat→LV→X)(n:Nat)(g:Nat→V)(a0:LV)(h0:a0.length=n)(r:LV→R)
  (h:∀i,i<n→∀a:LV,a.length=n→step (s i a)=some (.inl (s (i+1) (a.set i (g i))))) (he:step (s n (tab n g))=some (.inr (r (tab n g)))):Loop step (s 0 a0)=some (r (tab n g)):=by
 have key:∀i,i≤n→step (s i (tab n fun j=>if j<i then g j else a0.getD j (.bool false)))=if i<n then some (.inl (s (i+1) (tab n fun j=>if j<i+1 then g j else a0.getD j (.bool false))))else some (.inr (r (tab n g))):=by
  intro i hi;by_cases c:i<n
  ·rw[aP c,h i c _ (by simp),jf];grind
  ·rw[aM c];obtain rfl:i=n:=by omega
   rw[show(tab i fun j=>if j<i then g j else a0.getD j (.bool false))=tab i g from dA fun j hj=>aP hj];exact he
 have e0:a0=tab n fun j=>if j<0 then g j else a0.getD j (.bool false):=by
  conv=>lhs;rw[aln a0 (.bool false),h0]
  grind
 rw[e0];refine gp n (fun i=>s i (tab n fun j=>if j<i then g j else a0.getD j (.bool false))) _ (fun i hi=> ?_) ?_
 all_goals grind
theorem BR{es:LV}{i:Nat}(hi:i<es.length){K:Option γ}:(bif (decide (0≤(i:Int)))&&(decide ((i:Int)<(es.length:Int)))then(es[((i:Int)).toNat]?).bind (fun _=>K)else none)=K:=
 (aU (cv hi)).trans rfl
end
theorem qk{S:List Nat}{i:Nat}(h:i<S.length):idx (nS S) (i:Int)=some (nV S[i]):=by rw[zB rfl,EB h]
theorem alT(S:List Nat):nS S=tab S.length fun i=>nV (S.getD i 0):=Ex S 0
theorem alU{i n:Nat}(h:i<n):decide ((i:Int)≥(n:Int))=false:=cw (by omega)
theorem alV{i:Nat}:decide ((i:Int)<0)=false:=cw (by omega)
def Tr(n:Nat)(f:List Nat):Prop:=f.length=n∧∀y∈f,y<n
def comp(f g:List Nat):List Nat:=f.map fun i=>g.getD i 0
theorem Tr.at{n:Nat}{f:List Nat}(h:Tr n f){i:Nat}(hi:i<f.length):f[i]<n:=h.2 _ (fx hi)
theorem Tr.comp{n:Nat}{f g:List Nat}(hf:Tr n f)(hg:Tr n g):Tr n (comp f g):=by
 refine⟨by simp[Go.AM.comp,hf.1],fun y hy=> ?_⟩;obtain⟨i,hi,rfl⟩:=iZ.1 hy;have:=hf.2 i hi;rw[dK (by rw[hg.1];exact this)];exact hg.at _
theorem MP{n:Nat}:Tr n (List.range n):=⟨by simp,fun y hy=>gM.1 hy⟩
section
variable {n:Nat}{f g:List Nat}(h1:1≤n)(qV:n≤32)
include h1 qV
theorem abQ(hf:Tr n f):CC 131 [ab (nS f)]=some [.bool true]:=by
 have hl:=hf.1;refine axN ?_;unfold alP;rw[ff,hl];refine bF (cw (by omega)) (bF (cw (by omega)) ?_);refine bs (gp n (fun i=>(i:Int)) (.inr ((n:Int),false)) (fun i hi=> ?_) ?_) rfl
 ·simp only[abM,MK];have dO:i<f.length:=by omega
  refine bT (cF hi) (bs (qk dO) (bF alV (bF ?_ ?_)))
  ·rw[ff,hl];exact alU (hf.at dO)
  ·rw[bY (by omega)]
 ·simp only[abM,MK];grind
theorem axZ:CC 133 [vI (n:Int)]=some [ab (nS (List.range n))]:=by
 refine axR ?_;unfold alQ;refine bF (cw (by omega)) (bF (cw (by omega)) (bT (iB (by omega) (by omega)) ?_));rw[Int.toNat_natCast,CD];refine bs (EC (fun i a=>((i:Int),a)) n nV _ (by simp) (fun a=>((n:Int),false,a)) (fun i hi a ha=> ?_) ?_) ?_
 ·simp only[abN,ML,un,aL,aG];refine bT (cF hi) ((BR (by omega)).trans ?_);rw[bY (by omega),Int.toNat_natCast];rfl
 ·simp only[abN,ML,un];grind
 ·rw[alT];refine congrArg (fun t=>some [ab t]) ?_;rw[qx];exact dA fun j hj=>by grind
theorem ax0(hf:Tr n f)(hg:Tr n g):CC 135 [ab (nS f),ab (nS g)]=some [ab (nS (comp f g))]:=by
 have hl:=hf.1;have hlg:=hg.1;refine axV ?_;unfold alR;rw[ff,ff,hl,hlg];refine bF (by simp) (bs (abQ h1 qV hf) (bF rfl (bs (abQ h1 qV hg) (bF rfl (bT (iB (by omega) (by omega)) ?_)))));rw[Int.toNat_natCast];refine bs (EC (fun i a=>((i:Int),a)) n (fun i=>nV (g.getD (f.getD i 0) 0)) _ (by simp) (fun a=>((n:Int),false,a)) (fun i hi a ha=> ?_) ?_) ?_
 ·simp only[abO,MM,un,aL,aG];have dO:i<f.length:=by omega
  have h2:=hf.at dO;refine bT (cF hi) (bs (qk dO) (bs (qk (i:=f[i]) (by omega)) ((BR (by omega)).trans ?_)));rw[bY (by omega),Int.toNat_natCast,dK dO,dK (by omega)];rfl
 ·simp only[abO,MM,un];grind
 ·rw[alT];refine congrArg (fun t=>some [ab t]) ?_;rw[show(comp f g).length=n by simp[comp,hl]];refine dA fun j hj=> ?_;have ja:j<f.length:=by omega
  rw[dK (l:=comp f g) (by simpa[comp]using ja),dK ja];simp[comp]
end
def pE(f:List Nat):List UInt8:=f.map fun y=>UInt8.ofNat y
theorem ax1{n:Nat}(hn:n≤256){f g:List Nat}(hf:Tr n f)(hg:Tr n g)(e:pE f=pE g):f=g:=by
 refine yQ (hf.1.trans hg.1.symm) fun i h1 h2=> ?_;have:=List.getElem_of_eq e (i:=i) (by simpa[pE]using h1);simp only[pE,List.getElem_map]at this;have a:=hf.at h1;have b:=hg.at h2;have:=congrArg UInt8.toNat this;simp only[UInt8.toNat_ofNat']at this;omega
theorem abR{n:Nat}{f:List Nat}(hn:n≤32)(hf:Tr n f):CC 134 [ab (nS f)]=some [.str (pE f)]:=by
 have hl:=hf.1;refine axY ?_;unfold alS;rw[ff,hl];refine bT (iB (by omega) (by omega)) ?_;rw[Int.toNat_natCast];refine bs (EC (fun i a=>((i:Int),a)) n (fun i=> .int .u8 ((f.getD i 0:Nat):Int)) _ (by simp) (fun a=>((n:Int),false,a)) (fun i hi a ha=> ?_) ?_) ?_
 ·simp only[abP,MO,un,aL,aG];have dO:i<f.length:=by omega
  have h2:=hf.at dO;refine bT (cF hi) (bs (qk dO) ((BR (by omega)).trans ?_));rw[bY (by omega),Int.toNat_natCast,dK dO,show(nV f[i]).toInt=(f[i]:Int)from rfl,ahZ (by omega) (by omega)]
 ·simp only[abP,MO,un];grind
 ·refine congrArg (fun t=>some [V.str t]) ?_;rw[←hl];have:(tab f.length fun i=>V.int .u8 ((f.getD i 0:Nat):Int))=f.map fun y=> .int .u8 (y:Int):=(Ex (f:=fun y:Nat=>V.int .u8 (y:Int)) f 0).symm;rw[this];simp[mu,pE]
end Go.AM
set_option maxRecDepth 100000
namespace Go.AM
open Go.IntKind (wrap)
section
variable {α:Type}[DecidableEq α]{L:Nat}{next:α→Nat→α}{a0:α}
theorem alW(S:List α)(a:α):∀x,(dg next S a x).length≤S.length+x
 |0=>aR _
 |x+1=>by
  have:=alW S a x;rw[dg,Hw];grind
end
end Go.AM
set_option maxRecDepth 100000
namespace Go.AM
open Go.IntKind (wrap)
open Go.Proofs
noncomputable def alX(C:af)(f:LV)(MQ last:Int)(word:List UInt8)(behind bW:Int)(bX:Bool)(cU:Int)(aE ao aj aS aw aC aH bB bZ cg:LV):Option LV:=
 (C 134 [ab f]).bind fun r1=>
 bif Nat.ble ((gS r1).length) maxLen&&true then
  bif Nat.ble ((ao.length+([ab f]:LV).length)*24) bf then
  bif Nat.ble ((aj.length+([vI MQ]:LV).length)*8) bf then
   bif Nat.ble ((aS.length+([vI last]:LV).length)*8) bf then
   bif Nat.ble ((bB.length+([.str word]:LV).length)*16) bf then
    bif Nat.ble ((bZ.length+([vI behind]:LV).length)*8) bf then
    some [vI (ao.length:Int),vI bW,.bool bX,vI cU,aq aE,eF (kJ (.str (gS r1)) (vI (ao.length:Int)) aH),aq (ao++([ab f]:LV)),ab (aj++([vI MQ]:LV)),ab (aS++([vI last]:LV)),aq aw,jc aC,cq (bB++([.str word]:LV)),ab (bZ++([vI behind]:LV)),ab cg]
    else none
   else none
   else none
  else none
  else none
 else none
theorem ax2{f:LV}{MQ last:Int}{word:List UInt8}{behind bW:Int}{bX:Bool}{cU:Int}{aE ao aj aS aw aC aH bB bZ cg:LV}{r:Option LV}(h:alX CC f MQ last word behind bW bX cU aE ao aj aS aw aC aH bB bZ cg=r):CC 132 [ab f,vI MQ,vI last,.str word,vI behind,vI bW,.bool bX,vI cU,aq aE,aq ao,ab aj,ab aS,aq aw,jc aC,eF aH,cq bB,ab bZ,ab cg]=r:=bR (L:=bS) ak h
noncomputable def alY(C:af)(i x bW:Int)(bX:Bool)(cU:Int)(aE ao aj aS aw aC aH bB bZ cg:LV):Option LV:=
 bif i==(-1)then
  aL cg x fun x1=>
  some [vI x1.toInt,vI bW,.bool bX,vI cU,aq aE,eF aH,aq ao,ab aj,ab aS,aq aw,jc aC,cq bB,ab bZ,ab cg]
 else
  aL aw i fun x2=>
  (idx x2.toList x).bind fun x3=>
  some [vI x3.toInt,vI bW,.bool bX,vI cU,aq aE,eF aH,aq ao,ab aj,ab aS,aq aw,jc aC,cq bB,ab bZ,ab cg]
theorem ax3{i x bW:Int}{bX:Bool}{cU:Int}{aE ao aj aS aw aC aH bB bZ cg:LV}{r:Option LV}(h:alY CC i x bW bX cU aE ao aj aS aw aC aH bB bZ cg=r):CC 136 [vI i,vI x,vI bW,.bool bX,vI cU,aq aE,aq ao,ab aj,ab aS,aq aw,jc aC,eF aH,cq bB,ab bZ,ab cg]=r:=bR (L:=bS) ak h
noncomputable def alZ(C:af)(bW:Int)(bX:Bool)(cU:Int)(aE ao aj aS aw aC aH bB bZ cg:LV):Option LV:=
 some [.bool (cU==(ao.length:Int)),vI bW,.bool bX,vI cU,eF aH,aq aE,aq ao,ab aj,ab aS,aq aw,jc aC,cq bB,ab bZ,ab cg]
theorem ax4{bW:Int}{bX:Bool}{cU:Int}{aE ao aj aS aw aC aH bB bZ cg:LV}{r:Option LV}(h:alZ CC bW bX cU aE ao aj aS aw aC aH bB bZ cg=r):CC 105 [vI bW,.bool bX,vI cU,aq aE,aq ao,ab aj,ab aS,aq aw,jc aC,eF aH,cq bB,ab bZ,ab cg]=r:=bR (L:=bS) ak h
noncomputable def TX(C:af)(i x bW:Int)(bX:Bool)(cU:Int)(aE ao aj aS aw aC aH bB bZ cg:LV):Option LV:=
 (C 136 [vI i,vI x,vI bW,.bool bX,vI cU,aq aE,aq ao,ab aj,ab aS,aq aw,jc aC,eF aH,cq bB,ab bZ,ab cg]).bind fun r1=>
 aL (vM r1) (gI r1) fun x2=>
 bif (x2.toInt:Int)==i then
  aL (vN r1) (gI r1) fun x3=>
  some (.bool ((x3.toInt:Int)==x)::(ait r1 []))
 else
  some (.bool false::(ait r1 []))
theorem ax5{i x bW:Int}{bX:Bool}{cU:Int}{aE ao aj aS aw aC aH bB bZ cg:LV}{r:Option LV}(h:TX CC i x bW bX cU aE ao aj aS aw aC aH bB bZ cg=r):CC 137 [vI i,vI x,vI bW,.bool bX,vI cU,aq aE,aq ao,ab aj,ab aS,aq aw,jc aC,eF aH,cq bB,ab bZ,ab cg]=r:=bR (L:=bS) ak h
section
variable {X R:Type}{step:X→Option (X ⊕ R)}
theorem abS(P:Nat→X→Prop)(Q:R→Prop)(n:Nat)(h:∀i,i<n→∀x,P i x→(∃y,step x=some (.inl y)∧P (i+1) y)∨∃r,step x=some (.inr r)∧Q r)
  (he:∀x,P n x→∃r,step x=some (.inr r)∧Q r):∀(d i:Nat) (x:X),i+d=n→P i x→∃r,Loop step x=some r∧Q r
 |0,i,x,hi,hx=>by
  obtain rfl:i=n:=hi;obtain⟨r,h1,h2⟩:=he x hx;exact⟨r,lS h1,h2⟩
 |d+1,i,x,hi,hx=>by
  rcases h i (by omega) x hx with⟨y,h1,h2⟩|⟨r,h1,h2⟩
  ·obtain⟨r,h3,h4⟩:=abS P Q n h he d (i+1) y (by omega) h2;exact⟨r,(kY h1).trans h3,h4⟩
  ·exact⟨r,lS h1,h2⟩
end
section
variable {α:Type}[DecidableEq α]{ke:α→V}{x:α}
theorem abT:∀{S:List α} (i:Nat),(∀a∈S,jO (ke x) (ke a)=decide (x=a))→gD (ke x) (cO ke i S)=decide (x∈S)
 | [],_,_=>by simp[cO,gD]
 |a::S,i,h=>by
  have c:∀(p q:V),(V.bN [p,q]).comp 0=p:=fun p q=>rfl;rw[cO,gD,c,h a (by simp),abT (i+1) fun b hb=>h b (j5 _ hb)];grind
theorem al0{z:V}:∀{S:List α} (i:Nat),(∀a∈S,jO (ke x) (ke a)=decide (x=a))→x∈S→mq (ke x) (cO ke i S) z=vI ((i+S.idxOf x:Nat):Int)
 | [],_,_,h=>by cases h
 |a::S,i,hk,h=>by
  have c:∀(p q:V),(V.bN [p,q]).comp 0=p:=fun p q=>rfl;have c1:∀(p q:V),(V.bN [p,q]).comp 1=q:=fun p q=>rfl;rw[cO,mq,c,c1,hk a (by simp)];by_cases e:x=a
  ·subst e;rw[bj rfl];simp[cO.iV]
  ·rw[cw e,cond_false,al0 (i+1) (fun b hb=>hk b (j5 _ hb)) ((kC.1 h).resolve_left e),show(a::S).idxOf x=S.idxOf x+1 from by grind];grind
theorem al1:∀{S:List α} (i:Nat),(∀a∈S,jO (ke x) (ke a)=decide (x=a))→x∉S→kJ (ke x) (vI ((i+S.length:Nat):Int)) (cO ke i S)=cO ke i (S++[x])
 | [],i,_,_=>by simp[cO,kJ,cO.iV]
 |a::S,i,hk,h=>by
  have c:∀(p q:V),(V.bN [p,q]).comp 0=p:=fun p q=>rfl;have e:x≠a:=fun e=>h (by simp[e]);rw[cO,kJ,c,hk a (by simp),cw e,cond_false,List.cons_append,cO];congr 1;have:=al1 (i+1) (fun b hb=>hk b (j5 _ hb)) fun hx=>h (j5 _ hx);grind
end
section
variable {α:Type}[DecidableEq α]{ke:α→V}{x:α}{S T:List α}
def jH(S:List α)(a:α):Nat:=S.idxOf a
theorem wa(h:x∈S):jH S x<S.length:=I7 h
theorem al2(hp:T <+: S)(h:x∈T):jH S x=jH T x:=HA hp h
theorem abU(h:x∈S):S[jH S x]'(wa h)=x:=I8 (wa h)
theorem abV(h:S.Nodup){i:Nat}(hi:i<S.length):jH S S[i]=i:=h.idxOf_getElem i hi
theorem ax6(h:x∉S):jH (S++[x]) x=S.length:=by rw[jH,List.idxOf_append,aM h];simp
theorem al3(h:∀a∈S,jO (ke x) (ke a)=decide (x=a))(hx:x∈S):gD (ke x) (cO ke 0 S)=true:=(abT 0 h).trans (bj hx)
theorem al4(h:∀a∈S,jO (ke x) (ke a)=decide (x=a))(hx:x∉S):gD (ke x) (cO ke 0 S)=false:=(abT 0 h).trans (cw hx)
theorem al5{z:V}(h:∀a∈S,jO (ke x) (ke a)=decide (x=a))(hx:x∈S):(mq (ke x) (cO ke 0 S) z).toInt=((jH S x:Nat):Int):=by rw[al0 0 h hx,cL];rfl
end
theorem ax7(a b:List UInt8):jO (.str a) (.str b)=decide (a=b):=by
 simp only[jO,V.cells,qy,wR,CF];grind
def tV(f:List Nat):V:=ab (nS f)
def sV(S:List (List Nat)):LV:=S.map tV
def kT(f:List Nat):V:= .str (pE f)
def mT(S:List (List Nat)):LV:=cO kT 0 S
def iL(l:List Int):LV:=l.map fun x=>vI x
def wL(l:List (List UInt8)):LV:=l.map V.str
theorem tf{f:List Nat}:(tV f).toList=nS f:=by simp[tV]
theorem abW{n:Nat}(hn:n≤32){S:List (List Nat)}(hS:∀f∈S,Tr n f){f:List Nat}(hf:Tr n f):∀a∈S,jO (kT f) (kT a)=decide (f=a):=fun a ha=>by
 rw[kT,kT,ax7,CI,I9,I9];exact⟨fun e=>ax1 (by omega) hf (hS a ha) e,fun e=>by rw[e]⟩
theorem MR{S:List (List Nat)}{i:Nat}(h:i<S.length):(sV S)[i]? =some (tV S[i]):=by simp[sV,h]
theorem yh{l:List Int}{i:Nat}(h:i<l.length):(iL l)[i]? =some (vI (l.getD i 0)):=by simp[iL,h]
theorem BT{l:List (List UInt8)}{i:Nat}(h:i<l.length):(wL l)[i]? =some (.str (l.getD i [])):=by simp[wL,h]
@[simp] theorem BU {S:List (List Nat)}:(sV S).length=S.length:=by simp[sV]
@[simp] theorem aIS {l:List Int}:(iL l).length=l.length:=by simp[iL]
@[simp] theorem aIT {l:List (List UInt8)}:(wL l).length=l.length:=by simp[wL]
def BV(n D:Nat)(G:LV)(S:List (List Nat))(P K:List Int)(R:List (List Nat))(U:LV)(W:List (List UInt8))(B:List Int)(s:List Nat):List V:=
 [vI (n:Int),.bool true,vI (D:Int),aq G,aq (sV S),ab (iL P),ab (iL K),aq (sV R),jc U,eF (mT S),cq (wL W),ab (iL B),ab (nS s)]
def TY(n D:Nat)(G:LV)(S:List (List Nat))(P K:List Int)(R:List (List Nat))(U:LV)(W:List (List UInt8))(B:List Int)(s:List Nat):List V:=
 [vI (n:Int),.bool true,vI (D:Int),aq G,eF (mT S),aq (sV S),ab (iL P),ab (iL K),aq (sV R),jc U,cq (wL W),ab (iL B),ab (nS s)]
def Aa(R:List (List Nat))(s:List Nat)(b:Int)(x:Nat):Nat:=if b= -1 then s.getD x 0 else(R.getD b.toNat []).getD x 0
structure kU(L n:Nat)(g:Nat→List Nat)(S:List (List Nat))(P K:List Int)(R:List (List Nat))(W:List (List UInt8))(B:List Int)(s:List Nat):Prop where
 tr:∀f∈S,Tr n f
 nd:S.Nodup
 len:S.length≤2000
 lP:P.length=S.length
 lK:K.length=S.length
 lW:W.length=S.length
 lB:B.length=S.length
 row:∀r∈R,r.length=L∧∀y∈r,y<S.length
 s:s.length≤L∧∀y∈s,y<S.length
 b:∀i,i<S.length→B.getD i 0= -1∨(0≤B.getD i 0∧B.getD i 0<i)
 w:∀i,i<S.length→(W.getD i []).length≤i
 p:∀i,0<i→i<S.length→∃p x:Nat,P.getD i 0=p∧K.getD i 0=x∧p<i∧x<L∧S.getD i []=comp (S.getD p []) (g x)
 id:S.head? =some (List.range n)
section
variable {L n D:Nat}{g:Nat→List Nat}{S:List (List Nat)}{P K:List Int}{R:List (List Nat)}{W:List (List UInt8)}{B:List Int}{s:List Nat}{G U:LV}
theorem kU.grow(h:kU L n g S P K R W B s){f:List Nat}(hf:Tr n f)(hn:f∉S)(hl:S.length<2000){p x:Nat}{w:List UInt8}{b:Int}(hp:p<S.length)(hx:x<L)(hw:w.length≤S.length)(hb:b= -1∨(0≤b∧b<S.length))(e:f=comp (S.getD p []) (g x)):
  kU L n g (S++[f]) (P++[(p:Int)]) (K++[(x:Int)]) R (W++[w]) (B++[b]) s:=by
 have a1:∀{α:Type} {l:List α} {z d:α} {i:Nat},i<l.length→(l++[z]).getD i d=l.getD i d:=fun {α l z d i} hi=>by
  grind
 have a2:∀{α:Type} {l:List α} {z d:α} {i:Nat},i=l.length→(l++[z]).getD i d=z:=fun {α l z d i} hi=>by grind
 have c:∀i,i<(S++[f]).length→i<S.length∨i=S.length:=fun i hi=>by grind
 refine⟨fun a ha=> ?_,?_,by simp;omega,by simp[h.lP],by simp[h.lK],by simp[h.lW],by simp[h.lB],fun r hr=>⟨(h.row r hr).1,fun y hy=>by have:=(h.row r hr).2 y hy;simp;omega⟩,⟨h.s.1,fun y hy=>by have:=h.s.2 y hy;simp;omega⟩,fun i hi=> ?_,fun i hi=> ?_,fun i h0 hi=> ?_,?_⟩
 ·rcases fQ.1 ha with ha|ha
  ·exact h.tr a ha
  grind
 ·refine PV.2 ⟨h.nd,by simp,fun a ha b hb e=> ?_⟩;grind
 ·rcases c i hi with c|c
  ·rw[a1 (by rw[h.lB];exact c)];exact h.b i c
  ·rw[a2 (by rw[h.lB];exact c),c];exact hb
 ·rcases c i hi with c|c
  ·rw[a1 (by rw[h.lW];exact c)];exact h.w i c
  ·rw[a2 (by rw[h.lW];exact c),c];exact hw
 ·rcases c i hi with c|c
  ·obtain⟨p,x,q1,q2,q3,q4,q5⟩:=h.p i h0 c;exact⟨p,x,by rw[a1 (by rw[h.lP];exact c)];exact q1,by rw[a1 (by rw[h.lK];exact c)];exact q2,q3,q4,by grind⟩
  ·exact⟨p,x,a2 (by rw[h.lP];exact c),a2 (by rw[h.lK];exact c),by omega,hx,by grind⟩
 ·have:=h.id;grind
theorem kU.pos(h:kU L n g S P K R W B s):0<S.length:=by
 have:=h.id;grind
theorem al6(h:kU L n g S P K R W B s){b:Int}{x:Nat}(hx:x<L)(hs:b= -1→x<s.length)(hb:b= -1∨(0≤b∧b<R.length)):Aa R s b x<S.length:=by
 unfold Aa;split
 ·rename_i e;rw[dK (hs e)];exact h.s.2 _ (fx _)
 ·rename_i e;obtain⟨h1,h2⟩:=hb.resolve_left e;have h3:b.toNat<R.length:=by omega
  have:=h.row R[b.toNat] (fx h3);simp_all
theorem abX(hn:n≤32)(hS:∀f∈S,Tr n f){f:List Nat}(hf:Tr n f)(zr:f∉S)(h1:S.length≤2000)(h2:P.length≤2000)(h3:K.length≤2000)(h4:W.length≤2000)(h5:B.length≤2000){p k b:Int}{w:List UInt8}:
  CC 132 ([tV f,vI p,vI k,.str w,vI b]++BV n D G S P K R U W B s)=some (nV S.length::TY n D G (S++[f]) (P++[p]) (K++[k]) R U (W++[w]) (B++[b]) s):=by
 have hl:=hf.1;refine ax2 ?_;unfold alX;refine bs (abR hn hf) ?_;have e1:(pE f).length=n:=by simp[pE,hl]
 refine bT (u7.2 ⟨AF (by rw[show(gS [V.str (pE f)])=pE f from rfl,e1];unfold maxLen;omega),rfl⟩) ?_;refine bT (cap (by simp;omega) (by omega)) (bT (cap (by simp;omega) (by omega)) (bT (cap (by simp;omega) (by omega)) (bT (cap (by simp;omega) (by omega)) (bT (cap (by simp;omega) (by omega)) ?_))));have e2:=al1 (ke:=kT) 0 (abW hn hS hf) zr;rw[cL]at e2;rw[BU];unfold TY mT;rw[←e2];simp[sV,iL,wL,nV,tV];rfl
theorem abY{b:Int}{x:Nat}(h:kU L n g S P K R W B s)(hx:x<L)(hs:b= -1→x<s.length)(hb:b= -1∨(0≤b∧b<R.length)):
  CC 136 ([vI b,nV x]++BV n D G S P K R U W B s)=some (nV (Aa R s b x)::TY n D G S P K R U W B s):=by
 refine ax3 ?_;unfold alY Aa;by_cases e:b= -1
 ·rw[aP e];refine bT (by simp[e]) ((aU (EB (hs e))).trans ?_);rw[dK (hs e)];rfl
 ·rw[aM e];obtain⟨h1,h2⟩:=hb.resolve_left e;obtain⟨k,rfl⟩:=Int.eq_ofNat_of_zero_le h1;have h3:k<R.length:=by omega
  have h4:=(h.row R[k] (fx h3)).1;refine bF (by grind) ((aU (MR h3)).trans ?_);rw[tf];refine bs (qk (by omega)) ?_;rw[show((k:Int)).toNat=k from Int.toNat_natCast k,dK h3,dK (by omega)];rfl
theorem ax8{b:Int}{x:Nat}(h:kU L n g S P K R W B s)(hx:x<L)(hs:b= -1→x<s.length)(hb:b= -1∨(0≤b∧b<R.length)):
  ∃c,CC 137 ([vI b,nV x]++BV n D G S P K R U W B s)=some (.bool c::TY n D G S P K R U W B s):=by
 have h1:=al6 h hx hs hb;have e:∀r,TX CC b (x:Int) (n:Int) true (D:Int) G (sV S) (iL P) (iL K) (sV R) U (mT S) (wL W) (iL B) (nS s)=r→CC 137 ([vI b,nV x]++BV n D G S P K R U W B s)=r:=fun r h=>ax5 h;by_cases c1:P.getD (Aa R s b x) 0=b
 ·refine⟨K.getD (Aa R s b x) 0==(x:Int),e _ ?_⟩;unfold TX;refine bs (abY h hx hs hb) ((aU (yh (by rw[h.lP];exact h1))).trans (bT ?_ ((aU (yh (by rw[h.lK];exact h1))).trans rfl)));simp_all
 ·refine⟨false,e _ ?_⟩;unfold TX;refine bs (abY h hx hs hb) ((aU (yh (by rw[h.lP];exact h1))).trans (bF ?_ rfl));simp_all
theorem abZ:CC 105 (BV n D G S P K R U W B s)=some [.bool ((D:Int)==(S.length:Int)),vI (n:Int),.bool true,vI (D:Int),eF (mT S),aq G,aq (sV S),ab (iL P),ab (iL K),aq (sV R),jc U,cq (wL W),ab (iL B),ab (nS s)]:=by
 refine ax4 ?_;unfold alZ;rw[BU]
end
noncomputable def yi(C:af)(u x i:Int)(ab0:List UInt8)(t28 t29:Int)(t78:Bool)(bW:Int)(bX:Bool)(cU:Int)(aH rows fs wb ib ic iD iS eW ig ju nw:LV){β:Type}(kr:ay (Int×Int×Bool×Int×LV×LV×LV×LV×LV×LV×LV×LV×LV×LV) β):Option β:=
 bif t78 then
  aL ju u fun x6=>
  (C 136 [vI x6.toInt,vI x,vI bW,.bool bX,vI cU,aq wb,aq ib,ab ic,ab iD,aq iS,jc eW,eF aH,cq ig,ab ju,ab nw]).bind fun r7=>
  (C 132 [ab fs,vI u,vI x,.str ab0,vI (gI r7),vI (dm r7),.bool (mR r7),vI (uw r7),aq (xP r7),aq (xR r7),ab (vM r7),ab (vN r7),aq (xS r7),jc (vO r7),eF (xQ r7),cq (vP r7),ab (xT r7),ab (xU r7)]).bind fun r8=>
  kr ((gI r8),aiv r8)
 else
  aL ig u fun x9=>
  bif !(x9.toStr==[])then
  aL ju u fun mc=>
  (C 137 [vI mc.toInt,vI x,vI bW,.bool bX,vI cU,aq wb,aq ib,ab ic,ab iD,aq iS,jc eW,eF aH,cq ig,ab ju,ab nw]).bind fun jg=>
  bif (gB jg)then
   aL (vP jg) i fun ij=>
   bif Nat.ble (((vO jg).length+([.agg [.str ab0,.str ij.toStr]]:LV).length)*32) bf then
   kr (i,(dm jg),(mR jg),(uw jg),(xQ jg),(xP jg),(xR jg),(vM jg),(vN jg),(xS jg),(vO jg)++([.agg [.str ab0,.str ij.toStr]]:LV),asY jg)
   else none
  else
   kr (i,aiv jg)
  else
  kr (i,bW,bX,cU,aH,wb,ib,ic,iD,iS,eW,ig,ju,nw)
noncomputable def MS(C:af)(u t28 t29 bW:Int)(bX:Bool)(cU:Int)(aH rows wb jv ib ic iD iS eW ig ju:LV){β:Type}(kn:ay (Int×Int×Bool×Int×LV×LV×LV×LV×LV×LV×LV×LV×LV×LV×LV) β)(kr:ay ((Int×Int×Bool×Int×LV×LV×LV×LV×LV×LV×LV×LV×LV×LV) ⊕ (Int×Bool×Int×Bool×Int×LV×LV×LV×LV×LV×LV×LV×LV×LV×LV×LV)) β):Option β:=
 bif decide (t29<t28)then
  aL wb t29 fun x1=>
  aL jv u fun x2=>
  (C 135 [ab x2.toList,ab x1.toList]).bind fun r3=>
  (C 134 [ab (gL r3)]).bind fun r4=>
  bif Nat.ble ((gS r4).length) maxLen&&true then
  aL eW u fun x5=>
  bif (decide (0≤(wrap .i32 (wrap .i64 (97+t29)))))&&(decide ((wrap .i32 (wrap .i64 (97+t29)))<128))then
   bif Nat.ble (x5.toStr.length+[UInt8.ofNat ((wrap .i32 (wrap .i64 (97+t29)):Int).toNat)].length) ry then
   bif !(gD (.str (gS r4)) aH)then
    bif (jv.length:Int)==2000 then
    kr (.inl (3,bW,bX,cU,aH,wb,jv,ib,ic,iD,iS,eW,ig,ju))
    else
    yi C u t29 ((mq (.str (gS r4)) aH (vI 0)).toInt) (x5.toStr++[UInt8.ofNat ((wrap .i32 (wrap .i64 (97+t29)):Int).toNat)]) t28 t29 (!(gD (.str (gS r4)) aH)) bW bX cU aH rows (gL r3) wb jv ib ic iD iS eW ig ju (un fun ax9=>un fun aya=>un fun(Mi:Bool)=>un fun Mj=>un fun(Es:LV)=>un fun(ayb:LV)=>un fun(qi:LV)=>un fun(lz:LV)=>un fun(sf:LV)=>un fun(yj:LV)=>un fun(se:LV)=>un fun(HE:LV)=>un fun(al7:LV) (al8:LV)=>
     aL rows t29 fun uJ=>
     kn (wrap .i64 (t29+1),aya,Mi,Mj,Es,aG rows t29 (vI ax9),ayb,qi,lz,sf,yj,se,HE,al7,al8))
   else
    yi C u t29 ((mq (.str (gS r4)) aH (vI 0)).toInt) (x5.toStr++[UInt8.ofNat ((wrap .i32 (wrap .i64 (97+t29)):Int).toNat)]) t28 t29 (!(gD (.str (gS r4)) aH)) bW bX cU aH rows (gL r3) wb jv ib ic iD iS eW ig ju (un fun MT=>un fun ab1=>un fun(ab2:Bool)=>un fun ab3=>un fun(abJ:LV)=>un fun(ayc:LV)=>un fun(EA:LV)=>un fun(MH:LV)=>un fun(BW:LV)=>un fun(ab4:LV)=>un fun(ab5:LV)=>un fun(ab6:LV)=>un fun(ab7:LV) (TZ:LV)=>
     aL rows t29 fun x42=>
     kn (wrap .i64 (t29+1),ab1,ab2,ab3,abJ,aG rows t29 (vI MT),ayc,EA,MH,BW,ab4,ab5,ab6,ab7,TZ))
   else none
  else none
  else none
 else
  kr (.inr (t29,decide (t29<t28),bW,bX,cU,aH,rows,wb,jv,ib,ic,iD,iS,eW,ig,ju))
noncomputable def HF(C:af)(u t28:Int):=un fun t29=>un fun bW=>un fun bX=>un fun cU=>un fun aH=>un fun rows=>un fun wb=>un fun jv=>un fun ib=>un fun ic=>un fun iD=>un fun iS=>un fun eW=>un fun ig ju=>MS C u t28 t29 bW bX cU aH rows wb jv ib ic iD iS eW ig ju ct cu
noncomputable def al9(C:af):da:=lu 1263 aa5 [[1,2,0,5,6,0,0,0,0,12,0,0,0,0,0,0,0,0,0]] (@yi C) (cm 65 aa6 (aN 17 131068) [[0,0,0,0,0,0,0,0,0,0,0,0,0,0],[1,2,0,0,0,0,0,0,0,0,0,0,0,0,0,0,0,0]] (@MS C) bS)
theorem ayd(C:af):bt C (al9 C) 106 (Cd 78 [1,1,1,0,1,0,0,1,1,0,0,1,1,1,1,0,0,1,1,1,0] [1,1,1,0,1,0,0,1,1,0,0,1,1,1,1,0,0,1,1,1,1] 106):=lr aa5 [[1,2,0,5,6,0,0,0,0,12,0,0,0,0,0,0,0,0,0]] (@yi C) (aY ak) (aY ak)
theorem aye(C:af):bt C (al9 C) 106 (Lp [1,1,1,0,1,0,0] 106):=cj aa6 (aN 17 131068) [[0,0,0,0,0,0,0,0,0,0,0,0,0,0],[1,2,0,0,0,0,0,0,0,0,0,0,0,0,0,0,0,0]] (@MS C) (aY (br (ayd C) ak))
noncomputable def T4(C:af)(bW:Int)(bX:Bool)(cU:Int)(aE ao aj aS aw aC aH bB bZ cg:LV):Option LV:=
 bif (decide (0≤(aE.length:Int)))&&((decide ((aE.length:Int)≤(aE.length:Int)))&&(Nat.ble (((aE.length:Int).toNat)*8) bf))then
  (Loop (HF C cU (aE.length:Int)) (0,bW,bX,cU,aH,List.replicate ((aE.length:Int).toNat) (vI 0),aE,ao,aj,aS,aw,aC,bB,bZ,cg)).bind (gZ (un fun T6=>un fun ab8=>un fun(ayf:Bool)=>un fun MU=>un fun(T7:LV)=>un fun(Ab:LV)=>un fun(MV:LV)=>un fun(MW:LV)=>un fun(ED:LV)=>un fun(EE:LV)=>un fun(MX:LV)=>un fun(MY:LV)=>un fun(ab9:LV) (aca:LV)=>
   some [vI T6,vI ab8,.bool ayf,vI MU,eF T7,aq Ab,aq MV,ab MW,ab ED,aq EE,jc MX,cq MY,ab ab9,ab aca]) (un fun ayg=>un fun(ayh:Bool)=>un fun ayi=>un fun(ayj:Bool)=>un fun ayk=>un fun(ayl:LV)=>un fun(ama:LV)=>un fun(aym:LV)=>un fun(acb:LV)=>un fun(acd:LV)=>un fun(ayn:LV)=>un fun(T8:LV)=>un fun(ayo:LV)=>un fun(ayp:LV)=>un fun(ayq:LV) (ayr:LV)=>
   bif Nat.ble ((T8.length+([ab ama]:LV).length)*24) bf then
   some [vI 0,vI ayi,.bool ayj,vI (wrap .i64 (ayk+1)),eF ayl,aq aym,aq acb,ab acd,ab ayn,aq (T8++([ab ama]:LV)),jc ayo,cq ayp,ab ayq,ab ayr]
   else none))
 else none
theorem ays{bW:Int}{bX:Bool}{cU:Int}{aE ao aj aS aw aC aH bB bZ cg:LV}{r:Option LV}(h:T4 CC bW bX cU aE ao aj aS aw aC aH bB bZ cg=r):CC 106 [vI bW,.bool bX,vI cU,aq aE,aq ao,ab aj,ab aS,aq aw,jc aC,eF aH,cq bB,ab bZ,ab cg]=r:=bR (br (aye CC) ak) h
theorem cg2{α β γ:Sort _}{f:α→β→γ}{a a':α}{b b':β}(h:a=a')(k:b=b'):f a b=f a' b':=by rw[h,k]
theorem wrap32{x:Int}(h1: -2147483648≤x)(h2:x<2147483648):wrap .i32 x=x:=by
 unfold IntKind.wrap;simp only[IntKind.bits,IntKind.signed];grind
theorem MZ{x:Nat}(h:x<31):((decide (0≤(wrap .i32 (wrap .i64 (97+(x:Int))))))&&(decide ((wrap .i32 (wrap .i64 (97+(x:Int))))<128)))=true:=by
 rw[uh,wrap32 (by omega) (by omega)];grind
section
variable {L n D:Nat}{g:Nat→List Nat}{S:List (List Nat)}{P K:List Int}{R:List (List Nat)}{W:List (List UInt8)}{B:List Int}{s:List Nat}{G U:LV}
section
variable (h:kU L n g S P K R W B s)(hs:s.length=L)(hD:D<S.length)(hR:R.length=D)
include h hD hR in
theorem ace:B.getD D 0= -1∨(0≤B.getD D 0∧B.getD D 0<R.length):=by rw[hR];exact h.b D hD
include h hs hD hR
theorem ayt{x i:Nat}(hx:x<L)(hi:i<S.length)(hU:U.length≤100000){w:List UInt8}{t28 t29:Int}{rows fs:LV}:
  ∃U':LV,U'.length≤U.length+1∧∀{β:Type} (kr:(Int×Int×Bool×Int×LV×LV×LV×LV×LV×LV×LV×LV×LV×LV)→Option β),yi CC (D:Int) (x:Int) (i:Int) w t28 t29 false (n:Int) true (D:Int) (mT S) rows fs G (sV S) (iL P) (iL K) (sV R) U (wL W) (iL B) (nS s) kr=
   kr ((i:Int),(n:Int),true,(D:Int),mT S,G,sV S,iL P,iL K,sV R,U',wL W,iL B,nS s):=by
 simp only[yi];obtain⟨c,hc⟩:=ax8 (D:=D) (G:=G) (U:=U) h hx (fun _=>by omega) (ace h hD hR);have e1:D<W.length:=by rw[h.lW];exact hD
 have e2:D<B.length:=by rw[h.lB];exact hD
 by_cases e0:W.getD D []=[]
 ·refine⟨U,by omega,fun kr=>bF rfl ((aU (BT e1)).trans (bF ?_ rfl))⟩;simp_all
 ·have e3:(!((V.str (W.getD D [])).toStr==[]))=true:=by
   simp_all
  cases c with
  |false=>exact⟨U,by omega,fun kr=>bF rfl ((aU (BT e1)).trans (bT e3 ((aU (yh e2)).trans (bs hc rfl))))⟩
  |true=>
   refine⟨_,?_,fun kr=>bF rfl ((aU (BT e1)).trans (bT e3 ((aU (yh e2)).trans (bs hc (bT rfl ((aU (BT (by rw[h.lW];exact hi))).trans (bT (cap (m:=32) ?_ (by omega)) rfl)))))))⟩
   ·show(U++[_]).length≤_;simp
   ·show U.length+1≤_;omega
theorem ayu{x:Nat}{i:Int}(hx:x<L)(hn:n≤32){f:List Nat}(hf:Tr n f)(zr:f∉S){w:List UInt8}{t28 t29:Int}{rows:LV}{β:Type}(kr:(Int×Int×Bool×Int×LV×LV×LV×LV×LV×LV×LV×LV×LV×LV)→Option β):
  yi CC (D:Int) (x:Int) i w t28 t29 true (n:Int) true (D:Int) (mT S) rows (nS f) G (sV S) (iL P) (iL K) (sV R) U (wL W) (iL B) (nS s) kr=
   kr ((S.length:Int),(n:Int),true,(D:Int),mT (S++[f]),G,sV (S++[f]),iL (P++[(D:Int)]),iL (K++[(x:Int)]),sV R,U,wL (W++[w]),iL (B++[(Aa R s (B.getD D 0) x:Int)]),nS s):=by
 unfold yi;have e2:D<B.length:=by rw[h.lB];exact hD
 have hl:=h.len;refine bT rfl ((aU (yh e2)).trans (bs (abY h hx (fun _=>by omega) (ace h hD hR)) (bs (abX hn h.tr hf zr hl ?_ ?_ ?_ ?_) rfl)))
 ·rw[h.lP];exact hl
 ·rw[h.lK];exact hl
 ·rw[h.lW];exact hl
 ·rw[h.lB];exact hl
end
def b8(g:Nat→List Nat)(f:List Nat)(x:Nat):List Nat:=comp f (g x)
def gV(L:Nat)(g:Nat→List Nat):LV:=tab L fun x=>tV (g x)
def Ac(n D L:Nat)(g:Nat→List Nat)(T:List (List Nat))(f:List Nat)(x:Nat)(S:List (List Nat))(P K:List Int)(R:List (List Nat))(U:LV)(W:List (List UInt8))(B:List Int)(s:List Nat):Int×Int×Bool×Int×LV×LV×LV×LV×LV×LV×LV×LV×LV×LV×LV:=
 ((x:Int),(n:Int),true,(D:Int),mT S,(tab L fun j=>if j<x then nV (jH T (b8 g f j))else vI 0),gV L g,sV S,iL P,iL K,sV R,U,wL W,iL B,nS s)
def Wd(L n:Nat)(g:Nat→List Nat)(f:List Nat):Prop:= ∃w,WL L w∧f=w.foldl (b8 g) (List.range n)
theorem kU.word(h:kU L n g S P K R W B s):∀{i:Nat},i<S.length→∃w,WL L w∧S.getD i []=w.foldl (b8 g) (List.range n):=by
 intro i
 induction i using Nat.strongRecOn with
 |ind i ih=>
  intro hi;rcases PL i with rfl|h0
  ·refine⟨[],WL.nil,?_⟩;have:=h.id;cases S with
   |nil=>cases this
   |cons a S=>grind
  ·obtain⟨p,x,_,_,hp,hx,e⟩:=h.p i h0 hi;obtain⟨w,hw,e2⟩:=ih p hp (by omega);refine⟨w++[x],WL.app.2 ⟨hw,WL.nil.cons hx⟩,?_⟩;rw[Fx,←e2,e];rfl
theorem kU.wd(h:kU L n g S P K R W B s){f:List Nat}(hf:f∈S):Wd L n g f:=by
 obtain⟨i,hi,rfl⟩:=List.mem_iff_getElem.1 hf;obtain⟨w,hw,e⟩:=h.word hi;exact⟨w,hw,by rw[←e,dK hi]⟩
def EF(L n:Nat)(g:Nat→List Nat):Prop:= ∃T:List (List Nat),T.Nodup∧(∀f∈T,Tr n f∧Wd L n g f)∧T.length=2000
theorem ayv(h:kU L n g S P K R W B s)(hs:s.length=L)(hR:R.length=D)(hn:1≤n)(ql:n≤32)(hg:∀x,x<L→Tr n (g x))(hL:L≤6){f:List Nat}(hD:S[D]? =some f){U2:List (List Nat)}{x:Nat}(hx:x<L)(tY:eV S (b8 g f x) <+: U2)(hU:U.length≤100000):
  (∃P' K' U' W' B',HF CC (D:Int) (L:Int) (Ac n D L g U2 f x S P K R U W B s)=some (.inl (Ac n D L g U2 f (x+1) (eV S (b8 g f x)) P' K' R U' W' B' s))∧kU L n g (eV S (b8 g f x)) P' K' R W' B' s∧U'.length≤U.length+1)∨
  ∃t,HF CC (D:Int) (L:Int) (Ac n D L g U2 f x S P K R U W B s)=some (.inr (.inl (3,t)))∧EF L n g:=by
 obtain⟨sg,rfl⟩:=cP.1 hD;have hlen:=h.len;have sh:Tr n (b8 g S[D] x):=(h.tr _ (fx sg)).comp (hg x hx);have JT:jH U2 (b8 g S[D] x)=jH (eV S (b8 g S[D] x)) (b8 g S[D] x):=al2 tY Ml;have pU:(tab L fun j=>if j<x then nV (jH U2 (b8 g S[D] j))else vI 0).set x (nV (jH U2 (b8 g S[D] x)))=tab L fun j=>if j<x+1 then nV (jH U2 (b8 g S[D] j))else vI 0:=by
  rw[jf];grind
 have hW:=h.w D sg;have hWl:D<W.length:=by rw[h.lW];exact sg
 have hxg:(gV L g)[x]? =some (tV (g x)):=dH hx;have hC:CC 135 [ab (tV S[D]).toList,ab (tV (g x)).toList]=some [tV (b8 g S[D] x)]:=by
  rw[tf,tf];exact ax0 hn ql (h.tr _ (fx sg)) (hg x hx)
 have hX:CC 134 [ab (gL [tV (b8 g S[D] x)])]=some [kT (b8 g S[D] x)]:=by
  rw[show(gL [tV (b8 g S[D] x)])=nS (b8 g S[D] x)from tf];exact abR ql sh
 have xE:(Nat.ble ((gS [kT (b8 g S[D] x)]).length) maxLen&&true)=true:=by
  refine u7.2 ⟨AF ?_,rfl⟩;rw[show(gS [kT (b8 g S[D] x)])=pE (b8 g S[D] x)from rfl,show(pE (b8 g S[D] x)).length=n by simp[pE,sh.1]];unfold maxLen;omega
 have hms:∀b:UInt8,Nat.ble ((V.str (W.getD D [])).toStr.length+[b].length) ry=true:=fun b=>by
  refine AF ?_;show(W.getD D []).length+1≤ry;unfold ry;omega
 have Bf:=abW ql h.tr sh;simp only[HF,MS,un,Ac,aL,aG];by_cases hk:b8 g S[D] x∈S
 ·obtain⟨U2',hU2,he⟩:=ayt (G:=gV L g) (U:=U) (D:=D) h hs sg hR hx (wa hk) hU
   (w:=W.getD D []++[UInt8.ofNat ((wrap .i32 (wrap .i64 (97+(x:Int))):Int).toNat)]) (t28:=(L:Int)) (t29:=(x:Int)) (rows:=tab L fun j=>if j<x then nV (jH U2 (b8 g S[D] j))else vI 0) (fs:=nS (b8 g S[D] x))
  have EG:eV S (b8 g S[D] x)=S:=by rw[eV,aP hk]
  rw[EG]at JT⊢;have hm:gD (kT (b8 g S[D] x)) (mT S)=true:=al3 Bf hk;refine .inl ⟨P,K,U2',W,B,bT (cF hx) ((aU hxg).trans ((aU (MR sg)).trans (bs hC (bs hX (bT xE ((aU (BT hWl)).trans (bT (MZ (by omega)) (bT (hms _) (bF ?_ ?_))))))))),h,hU2⟩
  ·exact congrArg (!·) hm
  ·refine(cg2 (f:=fun i b=>yi CC (D:Int) (x:Int) i _ (L:Int) (x:Int) b (n:Int) true (D:Int) (mT S) _ _ (gV L g) (sV S) (iL P) (iL K) (sV R) U (wL W) (iL B) (nS s) _) (al5 Bf hk) (congrArg (!·) hm)).trans ((he _).trans ((BR (by simp_all)).trans ?_))
   rw[bY (by omega),Int.toNat_natCast,←pU,JT];rfl
 ·have hm:gD (kT (b8 g S[D] x)) (mT S)=false:=al4 Bf hk;have EG:eV S (b8 g S[D] x)=S++[b8 g S[D] x]:=by rw[eV,aM hk]
  by_cases ayw:S.length=2000
  ·refine .inr ⟨_,bT (cF hx) ((aU hxg).trans ((aU (MR sg)).trans (bs hC (bs hX (bT xE ((aU (BT hWl)).trans (bT (MZ (by omega)) (bT (hms _) (bT ?_ (bT ?_ rfl)))))))))),S,h.nd,fun f hf=>⟨h.tr f hf,h.wd hf⟩,ayw⟩
   ·exact congrArg (!·) hm
   simp_all
  ·rw[EG]at JT⊢;have T9:=ace h sg hR;have dr:=al6 h hx (fun _=>by omega) T9;refine .inl ⟨P++[(D:Int)],K++[(x:Int)],U,W++[W.getD D []++[UInt8.ofNat ((wrap .i32 (wrap .i64 (97+(x:Int))):Int).toNat)]],B++[(Aa R s (B.getD D 0) x:Int)],bT (cF hx) ((aU hxg).trans ((aU (MR sg)).trans (bs hC (bs hX (bT xE ((aU (BT hWl)).trans (bT (MZ (by omega)) (bT (hms _) (bT ?_ (bF ?_ ?_)))))))))),h.grow sh hk (by omega) (p:=D) (x:=x) (b:=(Aa R s (B.getD D 0) x:Int)) sg hx ?_ (.inr ⟨by omega,by omega⟩) ?_,Nat.le_succ _⟩
   ·exact congrArg (!·) hm
   ·simp;omega
   ·refine(congrArg (fun b=>yi CC (D:Int) (x:Int) _ _ (L:Int) (x:Int) b (n:Int) true (D:Int) (mT S) _ _ (gV L g) (sV S) (iL P) (iL K) (sV R) U (wL W) (iL B) (nS s) _) (congrArg (!·) hm)).trans ?_;refine(ayu h hs sg hR hx ql sh hk _).trans ((BR (by simp_all)).trans ?_)
    rw[bY (by omega),Int.toNat_natCast,←pU,JT];rw[ax6 hk];rfl
   ·grind
   ·rw[dK sg];rfl
end
noncomputable def M0(C:af)(qW:Bool)(t39:LV)(t40 bW:Int)(bX:Bool)(cU:Int)(ao aj aS aw aC aH bB bZ cg:LV)(t41:Int)(aE:LV){β:Type}(kn:ay (Int×LV) β)(kr:ay ((Int) ⊕ (Int×Bool×LV)) β):Option β:=
 bif decide (t41<t40)then
  (idx t39 t41).bind fun x2=>
  bif (x2.toList.length:Int) != bW then
  kr (.inl 4)
  else
  (C 131 [ab x2.toList]).bind fun r3=>
  bif !(gB r3)then
   kr (.inl 4)
  else
   bif Nat.ble (x2.toList.length*8) bf then
   bif Nat.ble ((aE.length+([ab x2.toList]:LV).length)*24) bf then
    kn (wrap .i64 (t41+1),aE++([ab x2.toList]:LV))
   else none
   else none
 else
  kr (.inr (t41,decide (t41<t40),aE))
noncomputable def Ua(C:af)(qW:Bool)(t39:LV)(t40 bW:Int)(bX:Bool)(cU:Int)(ao aj aS aw aC aH bB bZ cg:LV):=un fun t41 aE=>M0 C qW t39 t40 bW bX cU ao aj aS aw aC aH bB bZ cg t41 aE ct cu
noncomputable def M1(C:af)(empty:Int)(t72:Bool)(bW:Int)(bX:Bool)(cU:Int)(aE ao aj aS aw aC aH bB bZ cg:LV){β:Type}(kr:ay (Int×Int×Bool×Int×LV×LV×LV×LV×LV×LV×LV×LV×LV×LV) β):Option β:=
 bif t72 then
  (C 133 [vI bW]).bind fun r8=>
  (C 132 [ab (gL r8),vI (-1),vI (-1),.str [],vI (-1),vI bW,.bool bX,vI cU,aq aE,aq ao,ab aj,ab aS,aq aw,jc aC,eF aH,cq bB,ab bZ,ab cg]).bind fun r9=>
  kr (aiu r9)
 else
  kr (empty,bW,bX,cU,aE,ao,aj,aS,aw,aC,aH,bB,bZ,cg)
noncomputable def EH(C:af)(empty x:Int)(g:LV)(letter:List UInt8)(i t86 t87:Int)(t106:Bool)(bW:Int)(bX:Bool)(cU:Int)(BX ao aj aS aw aC aH bB bZ cg:LV){β:Type}(kr:ay (Int×Int×Bool×Int×LV×LV×LV×LV×LV×LV×LV×LV×LV×LV) β):Option β:=
 bif t106 then
  aL bB i fun wc=>
  bif Nat.ble ((aC.length+([.agg [.str letter,.str wc.toStr]]:LV).length)*32) bf then
  kr (i,bW,bX,cU,BX,ao,aj,aS,aw,aC++([.agg [.str letter,.str wc.toStr]]:LV),aH,bB,bZ,cg)
  else none
 else
  bif Nat.ble (g.length*8) bf then
  (C 132 [ab g,vI empty,vI x,.str letter,vI empty,vI bW,.bool bX,vI cU,aq BX,aq ao,ab aj,ab aS,aq aw,jc aC,eF aH,cq bB,ab bZ,ab cg]).bind fun BY=>
  kr (aiu BY)
  else none
noncomputable def M3(C:af)(empty t86 t87 bW:Int)(bX:Bool)(cU:Int)(BX ao aj aS aw aC aH bB bZ cg:LV){β:Type}(kn:ay (Int×Int×Bool×Int×LV×LV×LV×LV×LV×LV×LV×LV×LV×LV) β)(kr:ay (Int×Bool×Int×Bool×Int×LV×LV×LV×LV×LV×LV×LV×LV×LV×LV) β):Option β:=
 bif decide (t87<t86)then
  aL BX t87 fun uK=>
  bif (decide (0≤(wrap .i32 (wrap .i64 (97+t87)))))&&(decide ((wrap .i32 (wrap .i64 (97+t87)))<128))then
  (C 134 [ab uK.toList]).bind fun Ad=>
  bif Nat.ble ((gS Ad).length) maxLen&&true then
   EH C empty t87 uK.toList [UInt8.ofNat ((wrap .i32 (wrap .i64 (97+t87)):Int).toNat)] ((mq (.str (gS Ad)) aH (vI 0)).toInt) t86 t87 (gD (.str (gS Ad)) aH) bW bX cU BX ao aj aS aw aC aH bB bZ cg (un fun MT=>un fun ab1=>un fun(ab2:Bool)=>un fun ab3=>un fun(ayx:LV)=>un fun(Ez:LV)=>un fun(EA:LV)=>un fun(MH:LV)=>un fun(BW:LV)=>un fun(ab4:LV)=>un fun(ab5:LV)=>un fun(ab6:LV)=>un fun(ab7:LV) (TZ:LV)=>
    bif Nat.ble ((TZ.length+([vI MT]:LV).length)*8) bf then
    kn (wrap .i64 (t87+1),ab1,ab2,ab3,ayx,Ez,EA,MH,BW,ab4,ab5,ab6,ab7,TZ++([vI MT]:LV))
    else none)
  else none
  else none
 else
  kr (t87,decide (t87<t86),bW,bX,cU,BX,ao,aj,aS,aw,aC,aH,bB,bZ,cg)
noncomputable def M4(C:af)(empty t86:Int):=un fun t87=>un fun bW=>un fun bX=>un fun cU=>un fun BX=>un fun ao=>un fun aj=>un fun aS=>un fun aw=>un fun aC=>un fun aH=>un fun bB=>un fun bZ cg=>M3 C empty t86 t87 bW bX cU BX ao aj aS aw aC aH bB bZ cg ct cu
noncomputable def Ub(C:af):da:=cm 97 aa1 (aN 17 136) [[0],[1,2,3,0,0,5,6,7,0,9,10,11,12,13,14,15,16,17]] (@M0 C) (lu 1167 aa2 [[0,0,0,0,0,0,0,0,0,0,0,0,0,0]] (@M1 C) (lu 1711 aa3 [[1,0,6,7,0,0,0,0,0,0,0,0,0,0,0,0,0]] (@EH C) (cm 257 aa4 (aN 16 65532) [[1,2,0,0,0,0,0,0,0,0,0,0,0,0,0,0,0]] (@M3 C) bS)))
theorem ayy(C:af):bt C (Ub C) 104 (Lp [1,1,1,1,0,1,0,0] 104):=cj aa1 (aN 17 136) [[0],[1,2,3,0,0,5,6,7,0,9,10,11,12,13,14,15,16,17]] (@M0 C) (aY ak)
theorem ayz(C:af):bt C (Ub C) 104 (Cd 72 [1,1,1,1,1,1,0,1,0] [1,1,1,1,1,1,0,1,1] 104):=lr aa2 [[0,0,0,0,0,0,0,0,0,0,0,0,0,0]] (@M1 C) (aY ak) (aY ak)
theorem ayA(C:af):bt C (Ub C) 104 (Cd 106 [1,1,1,1,1,1,1,0,1,0,0,1,1,0,0,1,1,1,0,1,0] [1,1,1,1,1,1,1,0,1,0,0,1,1,0,0,1,1,1,0,1,1] 104):=lr aa3 [[1,0,6,7,0,0,0,0,0,0,0,0,0,0,0,0,0]] (@EH C) (aY ak) (aY ak)
theorem ayB(C:af):bt C (Ub C) 104 (Lp [1,1,1,1,1,1,1,0,1,0,0] 104):=cj aa4 (aN 16 65532) [[1,2,0,0,0,0,0,0,0,0,0,0,0,0,0,0,0]] (@M3 C) (aY (br (ayA C) ak))
noncomputable def amb(C:af)(th:LV)(qW:Bool):Option LV:=
 bif (th.length:Int)==0 then
  some [V.bool true,vI 1]
 else
  bif decide ((th.length:Int)>6)then
  some [V.bool true,vI 1]
  else
  (th[0]?).bind fun x1=>
  (Loop (Ua C qW th (th.length:Int) (x1.toList.length:Int) qW 0 ([]:LV) ([]:LV) ([]:LV) ([]:LV) ([]:LV) ([]:LV) ([]:LV) ([]:LV) ([]:LV)) (0,([]:LV))).bind (gZ (fun hZ=>
   some [V.bool true,vI hZ]) (un fun jV=>un fun(uE:Bool) (b_7:LV)=>
   M1 C (-1) qW (x1.toList.length:Int) qW 0 b_7 ([]:LV) ([]:LV) ([]:LV) ([]:LV) ([]:LV) ([]:LV) ([]:LV) ([]:LV) ([]:LV) (un fun ayC=>un fun ayD=>un fun(abp:Bool)=>un fun abq=>un fun(rX:LV)=>un fun(uF:LV)=>un fun(Ep:LV)=>un fun(Es:LV)=>un fun(yf:LV)=>un fun(qi:LV)=>un fun(lz:LV)=>un fun(sf:LV)=>un fun(yj:LV) (se:LV)=>
    (Loop (M4 C ayC (rX.length:Int)) (0,ayD,abp,abq,rX,uF,Ep,Es,yf,qi,lz,sf,yj,se)).bind (un fun ayE=>un fun(T6:Bool)=>un fun ayF=>un fun(ayG:Bool)=>un fun ayH=>un fun(ayI:LV)=>un fun(Ab:LV)=>un fun(MV:LV)=>un fun(MW:LV)=>un fun(ED:LV)=>un fun(EE:LV)=>un fun(MX:LV)=>un fun(MY:LV)=>un fun(ab9:LV) (aca:LV)=>
     some [V.bool false,vI ayF,.bool ayG,vI ayH,aq ayI,aq Ab,ab MV,ab MW,aq ED,jc EE,eF MX,cq MY,ab ab9,ab aca]))))
theorem ayJ{th:LV}{qW:Bool}{r:Option LV}(h:amb CC th qW=r):CC 104 [aq th,.bool qW]=r:=bR (br (ayy CC) (br (ayz CC) (br (ayB CC) ak))) h
noncomputable def Uc(C:af)(jF:Int)(jG:Bool)(BZ:Int)(ao aj aS aw aC aH:LV)(bW:Int)(bX:Bool)(cU:Int)(bB bZ cg dL me jv ib ic iD iS:LV){β:Type}(kn:ay (Int×Bool×Int×LV×LV×LV×LV×LV×LV×LV×LV×LV×LV) β)(kr:ay ((Int×Int×Bool×Int×LV×LV×LV×LV×LV×LV) ⊕ (Bool×Int×Bool×Int×LV×LV×LV×LV×LV×LV×LV×LV×LV×LV)) β):Option β:=
 (C 105 [vI bW,.bool bX,vI cU,aq bB,aq bZ,ab cg,ab dL,aq me,jc jv,eF ib,cq ic,ab iD,ab iS]).bind fun r2=>
 bif !(gB r2)then
  (C 106 [vI (dm r2),.bool (mR r2),vI (uw r2),aq (xQ r2),aq (xR r2),ab (vM r2),ab (vN r2),aq (xS r2),jc (vO r2),eF (xP r2),cq (vP r2),ab (xT r2),ab (xU r2)]).bind fun r3=>
  bif ((gI r3):Int) != 0 then
  kr (.inl ((gI r3),0,false,0,([]:LV),([]:LV),([]:LV),([]:LV),([]:LV),([]:LV)))
  else
  kn (aiw r3)
 else
  kr (.inr (!(gB r2),aiw r2))
noncomputable def acf(C:af)(jF:Int)(jG:Bool)(BZ:Int)(ao aj aS aw aC aH:LV):=un fun bW=>un fun bX=>un fun cU=>un fun bB=>un fun bZ=>un fun cg=>un fun dL=>un fun me=>un fun jv=>un fun ib=>un fun ic=>un fun iD iS=>Uc C jF jG BZ ao aj aS aw aC aH bW bX cU bB bZ cg dL me jv ib ic iD iS ct cu
noncomputable def ayK(C:af):da:=cm 65 aaz (aN 22 4190264) [[0,0,0,0,0,0,0,0,0,0],[0,1,2,3,0,0,0,7,8,9,10,11,12,0,0,0,0,0,0,0,0,0,0]] (@Uc C) bS
theorem ayL(C:af):bt C (ayK C) 54 (Lp [1,1,1,0,0,0] 54):=cj aaz (aN 22 4190264) [[0,0,0,0,0,0,0,0,0,0],[0,1,2,3,0,0,0,7,8,9,10,11,12,0,0,0,0,0,0,0,0,0,0]] (@Uc C) (aY ak)
noncomputable def acg(C:af)(th:LV)(qW:Bool):Option LV:=
 (C 104 [aq th,.bool qW]).bind fun r1=>
 bif (gB r1)then
  bif ((dm r1):Int) != 0 then
  some [vI 0,.bool false,vI 0,vI (dm r1),aq ([]:LV),aq ([]:LV),ab ([]:LV),ab ([]:LV),aq ([]:LV),jc ([]:LV)]
  else none
 else
  (Loop (acf C 0 false 0 ([]:LV) ([]:LV) ([]:LV) ([]:LV) ([]:LV) ([]:LV)) ((dm r1),(mR r1),(uw r1),(xP r1),(xQ r1),asX r1)).bind (gZ (un fun hZ=>un fun ayM=>un fun(ayN:Bool)=>un fun abo=>un fun(Ht:LV)=>un fun(Eo:LV)=>un fun(v5:LV)=>un fun(zX:LV)=>un fun(zY:LV) (HD:LV)=>
   some [vI ayM,.bool ayN,vI abo,vI hZ,aq Ht,aq Eo,ab v5,ab zX,aq zY,jc HD]) (un fun(Mh:Bool)=>un fun Mi=>un fun(Mj:Bool)=>un fun ayO=>un fun(yf:LV)=>un fun(qi:LV)=>un fun(lz:LV)=>un fun(sf:LV)=>un fun(yj:LV)=>un fun(se:LV)=>un fun(HE:LV)=>un fun(al7:LV)=>un fun(al8:LV) (Ud:LV)=>
   some [vI Mi,.bool Mj,vI ayO,vI 0,aq yf,aq qi,ab lz,ab sf,aq yj,jc se]))
theorem amc{th:LV}{qW:Bool}{r:Option LV}(h:acg CC th qW=r):CC 54 [aq th,.bool qW]=r:=bR (br (ayL CC) ak) h
section
variable {L n D:Nat}{g:Nat→List Nat}{S:List (List Nat)}{P K:List Int}{R:List (List Nat)}{W:List (List UInt8)}{B:List Int}{s:List Nat}{U:LV}
def fM(L:Nat)(g:Nat→List Nat)(T:List (List Nat))(f:List Nat):List Nat:=(List.range L).map fun x=>jH T (b8 g f x)
theorem ayP{T:List (List Nat)}{f:List Nat}:tV (fM L g T f)=ab (tab L fun j=>if j<L then nV (jH T (b8 g f j))else vI 0):=by
 unfold tV fM nS;rw[AE];exact congrArg _ (dA (n:=L) (g:=nV ∘ fun x=>jH T (b8 g f x)) fun j hj=>by grind)
abbrev PrR:=(Int×Int×Bool×Int×LV×LV×LV×LV×LV×LV×LV×LV×LV×LV) ⊕ (Int×Bool×Int×Bool×Int×LV×LV×LV×LV×LV×LV×LV×LV×LV×LV×LV)
theorem ayQ(h:kU L n g S P K R W B s)(hs:s.length=L)(hR:R.length=D)(hn:1≤n)(ql:n≤32)(hg:∀x,x<L→Tr n (g x))(hL:L≤6){f:List Nat}(hD:S[D]? =some f)(hU:U.length≤6+D*6):
  ∃r,CC 106 (BV n D (gV L g) S P K R U W B s)=some r∧((∃l,r=vI 3::l∧EF L n g)∨
   ∃P' K' U' W' B',r=vI 0::[vI (n:Int),.bool true,vI ((D+1:Nat):Int),eF (mT (dg (b8 g) S f L)),aq (gV L g),aq (sV (dg (b8 g) S f L)),ab (iL P'),ab (iL K'),
    aq (sV (R++[fM L g (dg (b8 g) S f L) f])),jc U',cq (wL W'),ab (iL B'),ab (nS s)]∧
    kU L n g (dg (b8 g) S f L) P' K' R W' B' s∧U'.length≤6+(D+1)*6):=by
 have M5:=(cP.1 hD).1;have hlen:=h.len;have key:∃r,Loop (HF CC (D:Int) (L:Int)) (Ac n D L g (dg (b8 g) S f L) f 0 S P K R U W B s)=some r∧((∃t,r= .inl (3,t)∧EF L n g)∨
   ∃P' K' U' W' B',r= .inr ((L:Int),false,(Ac n D L g (dg (b8 g) S f L) f L (dg (b8 g) S f L) P' K' R U' W' B' s).2)∧kU L n g (dg (b8 g) S f L) P' K' R W' B' s∧U'.length≤6+(D+1)*6):=by
  refine abS (fun x y=> ∃P' K' U' W' B',y=Ac n D L g (dg (b8 g) S f L) f x (dg (b8 g) S f x) P' K' R U' W' B' s∧kU L n g (dg (b8 g) S f x) P' K' R W' B' s∧U'.length≤6+D*6+x)
   (fun r:PrR=>(∃t,r= .inl (3,t)∧EF L n g)∨∃P' K' U' W' B',r= .inr ((L:Int),false,(Ac n D L g (dg (b8 g) S f L) f L (dg (b8 g) S f L) P' K' R U' W' B' s).2)∧kU L n g (dg (b8 g) S f L) P' K' R W' B' s∧U'.length≤6+(D+1)*6)
   L (fun x hx y hy=> ?_) (fun y hy=> ?_) L 0 _ (cL _) ⟨P,K,U,W,B,rfl,h,hU⟩
  ·obtain⟨P1,K1,U1,W1,B1,rfl,hI,hU1⟩:=hy;have tY:=Tx (next:=b8 g) S f x;have sg:(dg (b8 g) S f x)[D]? =some f:=by
    obtain⟨Z,e⟩:=tY;grind
   rcases ayv (U2:=dg (b8 g) S f L) hI hs hR hn ql hg hL sg hx (Hy (next:=b8 g) S f (show x+1≤L by omega)) (by omega) (U:=U1)with⟨P2,K2,U2,W2,B2,e,h2,h3⟩|⟨t,e,hm⟩
   ·exact .inl ⟨_,e,P2,K2,U2,W2,B2,rfl,h2,by omega⟩
   grind
  ·obtain⟨P1,K1,U1,W1,B1,rfl,hI,hU1⟩:=hy;refine⟨_,?_,.inr ⟨P1,K1,U1,W1,B1,rfl,hI,by omega⟩⟩;unfold Ac;simp only[HF,MS,un];grind
 obtain⟨r,e1,e2⟩:=key;have e0:List.replicate (((L:Nat):Int).toNat) (vI 0)=tab L fun j=>if j<0 then nV (jH (dg (b8 g) S f L) (b8 g f j))else vI 0:=by
  rw[Int.toNat_natCast,mG];grind
 have fin:∀z,T4 CC (n:Int) true (D:Int) (gV L g) (sV S) (iL P) (iL K) (sV R) U (mT S) (wL W) (iL B) (nS s)=z→CC 106 (BV n D (gV L g) S P K R U W B s)=z:=fun z h=>ays h;rcases e2 with⟨t,rfl,hm⟩|⟨P1,K1,U1,W1,B1,rfl,hI,hU1⟩
 ·refine⟨_,fin _ ?_,.inl ⟨[vI t.1,.bool t.2.1,vI t.2.2.1,eF t.2.2.2.1,aq t.2.2.2.2.1,aq t.2.2.2.2.2.1,ab t.2.2.2.2.2.2.1,ab t.2.2.2.2.2.2.2.1,aq t.2.2.2.2.2.2.2.2.1,jc t.2.2.2.2.2.2.2.2.2.1,cq t.2.2.2.2.2.2.2.2.2.2.1,ab t.2.2.2.2.2.2.2.2.2.2.2.1,ab t.2.2.2.2.2.2.2.2.2.2.2.2],rfl,hm⟩⟩;unfold T4;rw[show(gV L g).length=L from fi,e0];exact bT (iB (by omega) (by omega)) (bs e1 rfl)
 ·refine⟨_,fin _ ?_,.inr ⟨P1,K1,U1,W1,B1,rfl,hI,hU1⟩⟩;unfold T4;rw[show(gV L g).length=L from fi,e0];refine bT (iB (by omega) (by omega)) (bs e1 (bT (show Nat.ble (((sV R).length+1)*24) bf=true from cap (by simp;omega) (by omega)) ?_));have hw:((D+1:Nat):Int)=wrap .i64 ((D:Int)+1):=(bY (by omega)).symm;have:sV (R++[fM L g (dg (b8 g) S f L) f])=sV R++[tV (fM L g (dg (b8 g) S f L) f)]:=by simp[sV]
  rw[hw,this,ayP];rfl
end
section
variable {L n:Nat}{g:Nat→List Nat}(hn:1≤n)(ql:n≤32)(hg:∀x,x<L→Tr n (g x))(h1:1≤L)(hL:L≤6)
include hg in
theorem amd{x:Nat}(hx:x<L):b8 g (List.range n) x=g x:=by
 have h:=hg x hx;refine yQ (by simp[b8,comp,h.1]) fun i h1 h2=> ?_;simp[b8,comp,h2]
include hn ql hg h1 hL
theorem ayR:∃P K,∃U:LV,∃W B s,CC 104 [aq (gV L g),.bool true]=some (.bool false::BV n 0 (gV L g) (dg (b8 g) [List.range n] (List.range n) L) P K [] U W B s)∧kU L n g (dg (b8 g) [List.range n] (List.range n) L) P K [] W B s∧s.length=L∧U.length≤6:=by
 have hG:(gV L g).length=L:=fi;have l1:∀{a b c d:LV} {e f g1 h1 i1:LV},Loop (Ua CC true (gV L g) (L:Int) (n:Int) true 0 a b c d e f g1 h1 i1) (0,([]:LV))=some (.inr ((L:Int),false,gV L g)):=by
  intro a b c d e f g1 h1 i1;refine gp L (fun i=>((i:Int),tab i fun x=>tV (g x))) _ (fun i hi=> ?_) ?_
  ·simp only[Ua,M0,un];have ht:=hg i hi;refine bT (cF hi) (bs (pC hi) ?_);rw[tf];have e1:(nS (g i)).length=n:=by rw[ff,ht.1]
   refine bF (by grind) (bs (abQ hn ql ht) (bF rfl (bT (cap (a:=(nS (g i)).length) (b:=0) (by omega) (by omega)) (bT (cap (by simp;omega) (by omega)) ?_))));rw[bY (by omega),TF];rfl
  ·simp only[Ua,M0,un];refine bF (cf (aR _)) ?_;rw[cf (aR _)];rfl
 have hI0:kU L n g [List.range n] [-1] [-1] [] [[]] [-1] []:=by
  refine⟨fun f hf=> ?_,by simp,by simp,rfl,rfl,rfl,rfl,fun r hr=>(by cases hr),⟨by simp,fun y hy=>(by cases hy)⟩,fun i hi=> ?_,fun i hi=> ?_,fun i h0 hi=>(by grind),rfl⟩
  ·rw[iY.1 hf];exact MP
  all_goals grind
 have key:∃r,Loop (M4 CC 0 (L:Int)) (0,(n:Int),true,0,gV L g,sV [List.range n],iL [-1],iL [-1],sV [],[],mT [List.range n],wL [[]],iL [-1],nS [])=some r∧
   ∃P K,∃U:LV,∃W B s,r=((L:Int),false,(n:Int),true,0,gV L g,sV (dg (b8 g) [List.range n] (List.range n) L),iL P,iL K,sV [],U,mT (dg (b8 g) [List.range n] (List.range n) L),wL W,iL B,nS s)∧kU L n g (dg (b8 g) [List.range n] (List.range n) L) P K [] W B s∧s.length=L∧U.length≤6:=by
  refine abS (fun x y=> ∃P K,∃U:LV,∃W B s,y=((x:Int),(n:Int),true,0,gV L g,sV (dg (b8 g) [List.range n] (List.range n) x),iL P,iL K,sV [],U,mT (dg (b8 g) [List.range n] (List.range n) x),wL W,iL B,nS s)∧kU L n g (dg (b8 g) [List.range n] (List.range n) x) P K [] W B s∧s.length=x∧U.length≤x)
   (fun r=> ∃P K,∃U:LV,∃W B s,r=((L:Int),false,(n:Int),true,0,gV L g,sV (dg (b8 g) [List.range n] (List.range n) L),iL P,iL K,sV [],U,mT (dg (b8 g) [List.range n] (List.range n) L),wL W,iL B,nS s)∧kU L n g (dg (b8 g) [List.range n] (List.range n) L) P K [] W B s∧s.length=L∧U.length≤6)
   L (fun x hx y hy=> ?_) (fun y hy=> ?_) L 0 _ (cL _) ⟨_,_,_,_,_,_,rfl,hI0,rfl,aR _⟩
  ·obtain⟨P,K,U,W,B,s,rfl,hI,hs,hU⟩:=hy;have sh:=hg x hx;have hf0:b8 g (List.range n) x=g x:=amd hg hx;have ayS:dg (b8 g) [List.range n] (List.range n) (x+1)=eV (dg (b8 g) [List.range n] (List.range n) x) (g x):=by rw[←hf0];rfl
   rw[ayS];generalize hTx:dg (b8 g) [List.range n] (List.range n) x=T at*
   have hlen:=hI.len;have ka:=hI.pos;have Bf:=abW ql hI.tr sh;have hX:CC 134 [ab (tV (g x)).toList]=some [kT (g x)]:=by
    rw[tf];exact abR ql sh
   have xE:(Nat.ble ((gS [kT (g x)]).length) maxLen&&true)=true:=by
    refine u7.2 ⟨AF ?_,rfl⟩;rw[show(gS [kT (g x)])=pE (g x)from rfl,show(pE (g x)).length=n by simp[pE,sh.1]];unfold maxLen;omega
   have hsn:∀y,nS s++[nV y]=nS (s++[y]):=fun y=>by simp[nS]
   simp only[M4,M3,un,aL];by_cases hk:g x∈T
   ·have EG:eV T (g x)=T:=by rw[eV,aP hk]
    have hm:gD (kT (g x)) (mT T)=true:=al3 Bf hk;rw[EG];have Dy:=wa hk;refine .inl ⟨_,bT (cF hx) ((aU (dH hx)).trans (bT (MZ (by omega)) (bs hX (bT xE ?_)))),P,K,U++[.agg [.str [UInt8.ofNat ((wrap .i32 (wrap .i64 (97+(x:Int))):Int).toNat)],.str (W.getD (jH T (g x)) [])]],W,B,s++[jH T (g x)],rfl,⟨hI.tr,hI.nd,hI.len,hI.lP,hI.lK,hI.lW,hI.lB,hI.row,⟨by simp;omega,fun y hy=> ?_⟩,hI.b,hI.w,hI.p,hI.id⟩,by simp[hs],by simp;omega⟩
    ·refine(cg2 (f:=fun i b=>EH CC 0 (x:Int) _ _ i (L:Int) (x:Int) b (n:Int) true 0 (gV L g) (sV T) (iL P) (iL K) (sV []) U (mT T) (wL W) (iL B) (nS s) _) (al5 Bf hk) hm).trans ?_;unfold EH;refine bT rfl ((aU (BT (by rw[hI.lW];exact Dy))).trans (bT (cap (by simp;omega) (by omega)) (bT (show Nat.ble (((nS s).length+1)*8) bf=true from cap (by rw[ff];omega) (by omega)) ?_)));rw[bY (by omega),←hsn];rfl
    ·rcases fQ.1 hy with hy|hy
     ·exact hI.s.2 y hy
     grind
   ·have EG:eV T (g x)=T++[g x]:=by rw[eV,aM hk]
    have hm:gD (kT (g x)) (mT T)=false:=al4 Bf hk;rw[EG];have hT:T.length<2000:=by
     have:=alW (next:=b8 g) [List.range n] (List.range n) x;grind
    have ae:T.getD 0 []=List.range n:=by
     have:=hI.id;cases T with
     |nil=>cases this
     |cons a T=>grind
    refine .inl ⟨_,bT (cF hx) ((aU (dH hx)).trans (bT (MZ (by omega)) (bs hX (bT xE ?_)))),P++[((0:Nat):Int)],K++[(x:Int)],U,W++[[UInt8.ofNat ((wrap .i32 (wrap .i64 (97+(x:Int))):Int).toNat)]],B++[0],s++[T.length],rfl,?_,by simp[hs],by omega⟩
    ·refine(congrArg (fun b=>EH CC 0 (x:Int) _ _ _ (L:Int) (x:Int) b (n:Int) true 0 (gV L g) (sV T) (iL P) (iL K) (sV []) U (mT T) (wL W) (iL B) (nS s) _) hm).trans ?_;unfold EH;rw[tf];refine bF rfl (bT (cap (a:=(nS (g x)).length) (b:=0) (by rw[ff,sh.1];omega) (by omega)) (bs (abX (p:=0) (b:=0) (k:=(x:Int)) ql hI.tr sh hk hlen (by rw[hI.lP];exact hlen) (by rw[hI.lK];exact hlen) (by rw[hI.lW];exact hlen) (by rw[hI.lB];exact hlen)) (bT (show Nat.ble (((nS s).length+1)*8) bf=true from cap (by rw[ff];omega) (by omega)) ?_)));rw[bY (by omega),←hsn];rfl
    ·have h2:=hI.grow sh hk hT (p:=0) (x:=x) (w:=[UInt8.ofNat ((wrap .i32 (wrap .i64 (97+(x:Int))):Int).toNat)]) (b:=0) ka hx (show 1≤_ from ka) (.inr ⟨Int.le_refl _,by omega⟩) (by rw[ae];exact hf0.symm);refine⟨h2.tr,h2.nd,h2.len,h2.lP,h2.lK,h2.lW,h2.lB,h2.row,⟨by simp;omega,fun y hy=> ?_⟩,h2.b,h2.w,h2.p,h2.id⟩;rcases fQ.1 hy with hy|hy
     ·exact h2.s.2 y hy
     grind
  ·obtain⟨P,K,U,W,B,s,rfl,hI,hs,hU⟩:=hy;refine⟨_,?_,P,K,U,W,B,s,rfl,hI,hs,by omega⟩;simp only[M4,M3,un];grind
 obtain⟨r,e1,P,K,U,W,B,s,rfl,hI,hs,hU⟩:=key;refine⟨P,K,U,W,B,s,ayJ ?_,hI,hs,hU⟩;unfold amb;rw[hG];refine bF (by simp;omega) (bF (cw (by omega)) (bs (dH (by omega)) ?_));rw[tf,ff,(hg 0 (by omega)).1];refine bs l1 ?_;show M1 CC (-1) true (n:Int) true 0 (gV L g) [] [] [] [] [] [] [] [] [] _=_;unfold M1;refine bT rfl (bs (axZ hn ql) (bs (abX (S:=[]) (P:=[]) (K:=[]) (R:=[]) (U:=[]) (W:=[]) (B:=[]) (s:=[]) (D:=0) (G:=gV L g) ql (fun f hf=>by cases hf) MP (by simp) (by simp) (by simp) (by simp) (by simp) (by simp)) ?_));show(Loop (M4 CC 0 ((gV L g).length:Int)) _).bind _=_;rw[hG];exact bs e1 rfl
structure ow(L n D:Nat)(g:Nat→List Nat)(S:List (List Nat))(P K:List Int)(R:List (List Nat))(W:List (List UInt8))(B:List Int)(s:List Nat):Prop where
 I:kU L n g S P K R W B s
 sl:s.length=L
 dl:D≤S.length
 cl:∀f∈S.take D,∀x,x<L→b8 g f x∈S
 rr:R=(S.take D).map (fM L g S)
abbrev BdX:=Int×Bool×Int×LV×LV×LV×LV×LV×LV×LV×LV×LV×LV
abbrev BdR:=(Int×Int×Bool×Int×LV×LV×LV×LV×LV×LV) ⊕ (Bool×Int×Bool×Int×LV×LV×LV×LV×LV×LV×LV×LV×LV×LV)
def Ue(n D L:Nat)(g:Nat→List Nat)(S:List (List Nat))(P K:List Int)(R:List (List Nat))(U:LV)(W:List (List UInt8))(B:List Int)(s:List Nat):BdX:=
 ((n:Int),true,(D:Int),gV L g,sV S,iL P,iL K,sV R,U,mT S,wL W,iL B,nS s)
theorem ayT:∃r,CC 54 [aq (gV L g),.bool true]=some r∧((r=[vI 0,.bool false,vI 0,vI 3,aq [],aq [],ab [],ab [],aq [],jc []]∧EF L n g)∨
  ∃S P K R W B s,∃U:LV,r=[vI (n:Int),.bool true,vI (S.length:Int),vI 0,aq (gV L g),aq (sV S),ab (iL P),ab (iL K),aq (sV R),jc U]∧ow L n S.length g S P K R W B s):=by
 obtain⟨P,K,U,W,B,s,e1,hI,hs,hU⟩:=ayR hn ql hg h1 hL;have key:∃r,Loop (acf CC 0 false 0 [] [] [] [] [] []) (Ue n 0 L g (dg (b8 g) [List.range n] (List.range n) L) P K [] U W B s)=some r∧((r= .inl (3,0,false,0,[],[],[],[],[],[])∧EF L n g)∨
   ∃S P K R W B s,∃U:LV,r= .inr (false,(n:Int),true,(S.length:Int),gV L g,sV S,iL P,iL K,sV R,U,mT S,wL W,iL B,nS s)∧ow L n S.length g S P K R W B s):=by
  refine ah0 (fun x:BdX=> ∃D S P K R W B s,∃U:LV,x=Ue n D L g S P K R U W B s∧ow L n D g S P K R W B s∧U.length≤6+D*6) (fun x=>3000-x.2.2.1.toNat)
   (fun r:BdR=>(r= .inl (3,0,false,0,[],[],[],[],[],[])∧EF L n g)∨∃S P K R W B s,∃U:LV,r= .inr (false,(n:Int),true,(S.length:Int),gV L g,sV S,iL P,iL K,sV R,U,mT S,wL W,iL B,nS s)∧ow L n S.length g S P K R W B s)
   (fun x hx=> ?_) _ ⟨0,_,P,K,[],W,B,s,U,rfl,⟨hI,hs,mi _,fun f hf=>(by cases hf),rfl⟩,hU⟩
  obtain⟨D,S,P,K,R,W,B,s,U,rfl,hE,hU⟩:=hx;have hlen:=hE.I.len;have hD:=hE.dl;have hR:R.length=D:=by rw[hE.rr];simp[hD]
  unfold Ue;simp only[acf,Uc,un];by_cases hf:D=S.length
  ·subst hf;refine .inr ⟨_,bs abZ (bF (by simp) rfl),.inr ⟨S,P,K,R,W,B,s,U,?_,hE⟩⟩;simp
  ·have M5:D<S.length:=by omega
   obtain⟨r,e2,h2⟩:=ayQ hE.I hE.sl hR hn ql hg hL (cv M5) hU;rcases h2 with⟨l,rfl,hm⟩|⟨P',K',U',W',B',rfl,jb,hU'⟩
   ·exact .inr ⟨_,bs abZ (bT (by simp[hf];omega) (bs e2 (bT rfl rfl))),.inl ⟨rfl,hm⟩⟩
   ·have tY:=Tx (next:=b8 g) S S[D] L;have htk:(dg (b8 g) S S[D] L).take (D+1)=S.take D++[S[D]]:=by
     obtain⟨Z,e⟩:=tY;rw[←e,List.take_append_of_le_length M5,u9 M5]
    have W9:∀x,x<L→b8 g S[D] x∈dg (b8 g) S S[D] L:=fun x hx=>ak9 hx;refine .inl ⟨Ue n (D+1) L g (dg (b8 g) S S[D] L) P' K' (R++[fM L g (dg (b8 g) S S[D] L) S[D]]) U' W' B' s,bs abZ (bT (by simp;omega) (bs e2 (bF rfl rfl))),⟨D+1,_,P',K',_,W',B',s,U',rfl,⟨⟨jb.tr,jb.nd,jb.len,jb.lP,jb.lK,jb.lW,jb.lB,fun r hr=> ?_,jb.s,jb.b,jb.w,jb.p,jb.id⟩,hE.sl,lR M5 tY.length_le,fun f hf x hx=> ?_,?_⟩,hU'⟩,?_⟩
    ·rcases fQ.1 hr with hr|hr
     ·exact jb.row r hr
     ·rw[iY.1 hr];refine⟨by simp[fM],fun y hy=> ?_⟩;obtain⟨x,hx,rfl⟩:=iZ.1 hy;exact wa (W9 x (gM.1 hx))
    ·rw[htk]at hf;rcases fQ.1 hf with hf|hf
     ·exact tY.subset (hE.cl f hf x hx)
     grind
    ·rw[htk,sA,hE.rr];refine congrArg (· ++[_]) (rl fun f hf=>rl fun x hx=> ?_);exact(al2 tY (hE.cl f hf x (gM.1 hx))).symm
    ·show 3000-(((D+1:Nat):Int)).toNat<3000-((D:Int)).toNat
     omega
 obtain⟨r,e2,h2⟩:=key;rcases h2 with⟨rfl,hm⟩|⟨S,P,K,R,W,B,s,U,rfl,hE⟩
 ·refine⟨_,amc ?_,.inl ⟨rfl,hm⟩⟩;unfold acg;exact bs e1 (bF rfl (bs e2 rfl))
 ·refine⟨_,amc ?_,.inr ⟨S,P,K,R,W,B,s,U,rfl,hE⟩⟩;unfold acg;exact bs e1 (bF rfl (bs e2 rfl))
end
end Go.AM
set_option maxRecDepth 100000
namespace Go.AM
open Go.IntKind (wrap)
section
variable {β:Type}[DecidableEq β]
def cT(g:Nat→β):Nat→List β
 |0=>[]
 |n+1=>eV (cT g n) (g n)
theorem ach(g:Nat→β):∀n,(cT g n).Nodup
 |0=>List.nodup_nil
 |n+1=>abx (ach g n)
theorem qX{g:Nat→β}{v:β}:∀{n},v∈cT g n↔∃q,q<n∧g q=v
 |0=>⟨fun h=>(by cases h),fun⟨q,h,_⟩=>(by omega)⟩
 |n+1=>by
  have ih:=qX (g:=g) (v:=v) (n:=n);rw[cT];unfold eV;grind
theorem ayU{g:Nat→β}{m n:Nat}(h:m≤n):cT g m <+: cT g n:=by
 induction n with
 |zero=>grind
 |succ n ih=>
  rcases fR m (n+1)with c|c
  ·exact(ih (by omega)).trans (abw _ _)
  grind
theorem M6(g:Nat→β):∀n,(cT g n).length≤n
 |0=>aR _
 |n+1=>by
  have:=M6 g n;rw[cT,Hw];grind
def iE(g:Nat→β)(n q:Nat):Nat:=(cT g n).idxOf (g q)
theorem aci{g:Nat→β}{n q:Nat}(h:q<n):iE g n q<(cT g n).length:=I7 (qX.2 ⟨q,h,rfl⟩)
theorem ame{g:Nat→β}{n p q:Nat}(hp:p<n)(hq:q<n):iE g n p=iE g n q↔g p=g q:=by
 constructor
 ·intro h;have h1:=I8 (aci (g:=g) hp);have h2:=I8 (aci (g:=g) hq);rw[←h1,←h2];exact getElem_congr_idx h
 ·intro h;unfold iE;rw[h]
theorem acj{g:Nat→β}{m n q:Nat}(h:q<m)(hm:m≤n):iE g n q=iE g m q:=HA (ayU hm) (qX.2 ⟨q,h,rfl⟩)
theorem amf{g:Nat→β}{q:Nat}(h:g q∈cT g q):cT g (q+1)=cT g q:=by rw[cT];unfold eV;grind
theorem amg{g:Nat→β}{q:Nat}(h:g q∉cT g q):cT g (q+1)=cT g q++[g q]:=by rw[cT];unfold eV;grind
theorem ayV{g:Nat→β}{n q:Nat}(hq:q<n)(h:g q∈cT g q):iE g n q=(cT g q).idxOf (g q):=by
 rw[acj (show q<q+1 by omega) (by omega)];unfold iE;rw[amf h]
theorem ayW{g:Nat→β}{n q:Nat}(hq:q<n)(h:g q∉cT g q):iE g n q=(cT g q).length:=by
 rw[acj (show q<q+1 by omega) (by omega)];unfold iE;rw[amg h,List.idxOf_append,aM h];simp
def EI(p:Nat→Nat)(n:Nat):Prop:= ∀m,m≤n→cT p m=List.range (cT p m).length
theorem amh(g:Nat→β)(n:Nat):∀m,m≤n→cT (iE g n) m=List.range (cT g m).length:=by
 intro m
 induction m with
 |zero=>intro _;rfl
 |succ m ih=>
  intro hm;have ih:=ih (by omega);have e1:iE g n m=iE g (m+1) m:=acj (by omega) hm;have e2:iE g (m+1) m=if g m∈cT g m then(cT g m).idxOf (g m)else(cT g m).length:=by
   unfold iE;rw[cT];unfold eV;grind
  rw[cT,ih,cT,Hw];unfold eV;by_cases h:g m∈cT g m
  ·grind
  ·rw[aM h]at e2;rw[aM h,aM (by grind),e1,e2,Fy]
theorem ayX(g:Nat→β)(n:Nat):EI (iE g n) n:=fun m hm=>by
 rw[amh g n m hm,qx]
theorem ami{γ:Type}[DecidableEq γ]{f:Nat→β}{c:Nat→γ}{n:Nat}(hr:∀q q',q<n→q'<n→f q=f q'→c q=c q')(hl:(cT f n).length≤(cT c n).length):
  ∀q q',q<n→q'<n→c q=c q'→f q=f q':=by
 intro q q' hq eC hc;refine Decidable.byContradiction fun hf=> ?_;have rep:∀v∈cT f n,∃q,q<n∧f q=v:=fun v hv=>qX.1 hv;have:∃R:β→Nat,∀v∈cT f n,R v<n∧f (R v)=v:=by
  classical
  refine⟨fun v=>if h:v∈cT f n then Classical.choose (rep v h)else 0,fun v hv=> ?_⟩;grind
 obtain⟨R,hR⟩:=this;have mz:cT c n ⊆ ((cT f n).filter fun v=>decide (v≠f q')).map fun v=>c (R v):=by
  intro u hu;obtain⟨s,hs,rfl⟩:=qX.1 hu;by_cases h:f s=f q'
  ·refine iZ.2 ⟨f q,FA.2 ⟨qX.2 ⟨q,hq,rfl⟩,bj hf⟩,?_⟩;have h1:=hR (f q) (qX.2 ⟨q,hq,rfl⟩);grind
  ·refine iZ.2 ⟨f s,FA.2 ⟨qX.2 ⟨s,hs,rfl⟩,bj h⟩,?_⟩;have h1:=hR (f s) (qX.2 ⟨s,hs,rfl⟩);grind
 have h1:=tJ (ach c n) mz;rw[dD]at h1;have h2:((cT f n).filter fun v=>decide (v≠f q')).length<(cT f n).length:=by
  have hm:f q'∈cT f n:=qX.2 ⟨q',eC,rfl⟩;simp_all
 omega
theorem ayY{γ:Type}[DecidableEq γ]{f:Nat→β}{c:Nat→γ}{n:Nat}(hr:∀q q',q<n→q'<n→f q=f q'→c q=c q'):(cT c n).length≤(cT f n).length:=by
 rcases fR (cT f n).length (cT c n).length with h|h
 ·have:=ami hr (by omega);have rep:∀v∈cT f n,∃q,q<n∧f q=v:=fun v hv=>qX.1 hv;have:∃R:β→Nat,∀v∈cT f n,R v<n∧f (R v)=v:=by
   classical
   refine⟨fun v=>if h:v∈cT f n then Classical.choose (rep v h)else 0,fun v hv=> ?_⟩;grind
  obtain⟨R,hR⟩:=this;have mz:cT c n ⊆ (cT f n).map fun v=>c (R v):=by
   intro u hu;obtain⟨s,hs,rfl⟩:=qX.1 hu;have h1:=hR (f s) (qX.2 ⟨s,hs,rfl⟩);exact iZ.2 ⟨f s,qX.2 ⟨s,hs,rfl⟩,hr _ _ h1.1 hs h1.2⟩
  have h1:=tJ (ach c n) mz;grind
 ·exact h
end
namespace Da
structure Part(a:Da)(c:Nat→Nat):Prop where
 coarse:∀q q',q<a.n→q'<a.n→a.uG q a q'→c q=c q'
 fin:∀q q',q<a.n→q'<a.n→c q=c q'→a.fin q=a.fin q'
def sig(a:Da)(c:Nat→Nat)(q:Nat):List Nat:=c q::(List.range a.L).map fun x=>c (a.nx q x)
theorem M7{a:Da}{c:Nat→Nat}{q q':Nat}:a.sig c q=a.sig c q'↔c q=c q'∧∀x,x<a.L→c (a.nx q x)=c (a.nx q' x):=by
 unfold sig;simp_all
def ack(a:Da)(c f:Nat→Nat):Prop:= ∀q q',q<a.n→q'<a.n→(f q=f q'↔a.sig c q=a.sig c q')
theorem ack.part{a:Da}{c f:Nat→Nat}(h:a.ack c f)(ha:a.Ok)(hc:a.Part c):a.Part f where
 coarse q q' hq eC he:=(h q q' hq eC).2 (M7.2 ⟨hc.coarse q q' hq eC he,fun x hx=>hc.coarse _ _ (ha.ov hq hx) (ha.ov eC hx) (he.nx hx)⟩)
 fin q q' hq eC he:=hc.fin q q' hq eC (M7.1 ((h q q' hq eC).1 he)).1
def Uf(a:Da)(p:Nat→Nat):Prop:=(∀q q',q<a.n→q'<a.n→(p q=p q'↔a.uG q a q'))∧EI p a.n
theorem Part.ayZ{a:Da}{c:Nat→Nat}(hc:a.Part c)(ha:a.Ok)(hs:∀q q',q<a.n→q'<a.n→c q=c q'→a.sig c q=a.sig c q'):∀q q',q<a.n→q'<a.n→(c q=c q'↔a.uG q a q'):=by
 intro q q' hq eC;refine⟨fun h w=> ?_,hc.coarse q q' hq eC⟩
 induction w generalizing q q' with
 |nil=>intro _;rw[yc,yc];exact hc.fin q q' hq eC h
 |cons x w ih=>
  intro hw;rw[Tu,Tu];exact ih _ _ (ha.ov hq hw.head) (ha.ov eC hw.head) ((M7.1 (hs q q' hq eC h)).2 x hw.head) hw.tail
def jw(p:Nat→Nat):Nat→List Nat
 |0=>[]
 |n+1=>if p n∈cT p n then jw p n else jw p n++[n]
theorem Ug{p:Nat→Nat}:∀n,(jw p n).map p=cT p n
 |0=>rfl
 |n+1=>by
  rw[jw,cT];unfold eV;split
  ·exact Ug n
  ·rw[sA,Ug n];rfl
theorem M8{p:Nat→Nat}{n:Nat}:(jw p n).length=(cT p n).length:=by rw[←Ug,dD]
theorem EJ{p:Nat→Nat}:∀{n q},q∈jw p n→q<n
 |0,q,h=>by cases h
 |n+1,q,h=>by
  rw[jw]at h;split at h
  ·have:=EJ h;omega
  ·rcases fQ.1 h with h|h
   ·have:=EJ h;omega
   grind
theorem HG{p:Nat→Nat}{n:Nat}(ho:EI p n){c:Nat}(hc:c<(jw p n).length):p (jw p n)[c]=c:=by
 have h1:=ho n (aR _);have h2:((jw p n).map p)[c]? =some c:=by rw[Ug,h1,PY (by rw[M8]at hc;exact hc)]
 grind
theorem M9{p:Nat→Nat}{n q:Nat}(ho:EI p n)(hq:q<n):p q<(jw p n).length:=by
 have h1:p q∈cT p n:=qX.2 ⟨q,hq,rfl⟩;rw[ho n (aR _),gM]at h1;rw[M8];exact h1
def quo(a:Da)(p:Nat→Nat):Da where
 L:=a.L
 st:=p a.st
 F:=(jw p a.n).map a.fin
 N:=(jw p a.n).map fun q=>tab a.L fun x=>p (a.nx q x)
theorem B0{a:Da}{p:Nat→Nat}:(a.quo p).n=(jw p a.n).length:=by simp[quo,n]
theorem amj{a:Da}{p:Nat→Nat}{c:Nat}(hc:c<(jw p a.n).length):(a.quo p).fin c=a.fin (jw p a.n)[c]:=by
 show((jw p a.n).map a.fin).getD c false=_;grind
theorem amk{a:Da}{p:Nat→Nat}{c x:Nat}(hc:c<(jw p a.n).length)(hx:x<a.L):(a.quo p).nx c x=p (a.nx (jw p a.n)[c] x):=by
 show(((jw p a.n).map fun q=>tab a.L fun x=>p (a.nx q x)).getD c []).getD x 0=_;rw[dK (l:=(jw p a.n).map fun q=>tab a.L fun x=>p (a.nx q x)) (by grind),List.getElem_map,Ew hx]
section
variable {a:Da}{p:Nat→Nat}(ha:a.Ok)(hp:a.Uf p)
include ha hp
theorem aml:(a.quo p).Ok where
 l1:=ha.l1
 l6:=ha.l6
 nN:=by rw[B0];simp[quo]
 row r hr:=by
  rw[B0];obtain⟨q,hq,rfl⟩:=iZ.1 (show r∈(jw p a.n).map _ from hr);refine⟨by simp[quo],fun s hs=> ?_⟩;obtain⟨x,hx,rfl⟩:=alo.1 hs;exact M9 hp.2 (ha.ov (EJ hq) hx)
 s:=by rw[B0];exact M9 hp.2 ha.s
 eG:=by
  rw[B0,M8];have:=M6 p a.n;have:=ha.eG;omega
theorem Uh:∀(w:List Nat) {q:Nat},q<a.n→WL a.L w→(a.quo p).acc (p q) w=a.acc q w
 | [],q,hq,_=>by
  have hc:=M9 hp.2 hq;rw[yc,yc,amj hc];have h1:=(hp.1 _ _ (EJ (fx hc)) hq).1 (HG hp.2 hc);have:=h1 [] WL.nil;rwa [yc,yc]at this
 |x::w,q,hq,hw=>by
  have hc:=M9 hp.2 hq;have hr:=EJ (fx hc);have h1:=(hp.1 _ _ hr hq).1 (HG hp.2 hc);have h2:=(hp.1 _ _ (ha.ov hr hw.head) (ha.ov hq hw.head)).2 (h1.nx hw.head);rw[Tu,Tu,amk hc hw.head,h2];exact Uh w (ha.ov hq hw.head) hw.tail
theorem ay0:∀c d,c<(a.quo p).n→d<(a.quo p).n→(a.quo p).uG c (a.quo p) d→c=d:=by
 intro c d hc hd he;rw[B0]at hc hd;have r1:=EJ (fx hc);have r2:=EJ (fx hd);rw[←HG hp.2 hc,←HG hp.2 hd];refine(hp.1 _ _ r1 r2).2 fun w hw=> ?_;rw[←Uh ha hp w r1 hw,←Uh ha hp w r2 hw,HG hp.2 hc,HG hp.2 hd];exact he w hw
theorem ay1:(a.quo p).trim.Canon a.L (a.acc a.st):=by
 have h:=(aml ha hp).awK (ay0 ha hp);exact⟨h.ok,h.hL,h.st,h.num,h.red,fun w hw=>(h.Hv w hw).trans (Uh ha hp w ha.s hw)⟩
end
end Da
end Go.AM
set_option maxRecDepth 100000
namespace Go.AM
open Go.IntKind (wrap)
open Go.Proofs
noncomputable def Na(C:af)(t24:LV)(t25 cD cJ:Int)(je iA:LV)(count t26:Int)(fE:LV){β:Type}(kn:ay (Int×Int×LV) β)(kr:ay (Int×Int×Bool×LV) β):Option β:=
 bif decide (t26<t25)then
  (idx t24 t26).bind fun x2=>
  (je[0]?).bind fun x3=>
  bif !(x2.toBool==x3.toBool)then
  aL fE t26 fun x4=>
  kn (2,wrap .i64 (t26+1),aG fE t26 (vI 1))
  else
  kn (count,wrap .i64 (t26+1),fE)
 else
  kr (count,t26,decide (t26<t25),fE)
noncomputable def Ui(C:af)(t24:LV)(t25 cD cJ:Int)(je iA:LV):=un fun count=>un fun t26 fE=>Na C t24 t25 cD cJ je iA count t26 fE ct cu
noncomputable def Nb(C:af)(count q:Int)(t46:LV)(t47 t48:Int)(t58:LV)(t59 cD cJ:Int)(je iA fE numbers we:LV)(t60 Uj Uk Ul Um Un Uo Up:Int){β:Type}(kn:ay (Int×Int×Int×Int×Int×Int×Int×Int) β)(kr:ay (Int×Bool×Int×Int×Int×Int×Int×Int×Int) β):Option β:=
 bif decide (t60<t59)then
  (idx t58 t60).bind fun ny=>
  bif (decide (0≤ny.toInt))&&(decide (ny.toInt<(fE.length:Int)))then
  (fE[(ny.toInt:Int).toNat]?).bind fun ij=>
  bif (decide (0≤(wrap .i64 (1+t60))))&&(decide ((wrap .i64 (1+t60))<7))then
   bif Nat.blt (0+(((wrap .i64 (1+t60):Int).toNat)*1)) 7 then
   kn (wrap .i64 (t60+1),bif Nat.beq (0+(((wrap .i64 (1+t60):Int).toNat)*1)) 0 then ij.toInt else Uj,bif Nat.beq (0+(((wrap .i64 (1+t60):Int).toNat)*1)) 1 then ij.toInt else Uk,bif Nat.beq (0+(((wrap .i64 (1+t60):Int).toNat)*1)) 2 then ij.toInt else Ul,bif Nat.beq (0+(((wrap .i64 (1+t60):Int).toNat)*1)) 3 then ij.toInt else Um,bif Nat.beq (0+(((wrap .i64 (1+t60):Int).toNat)*1)) 4 then ij.toInt else Un,bif Nat.beq (0+(((wrap .i64 (1+t60):Int).toNat)*1)) 5 then ij.toInt else Uo,bif Nat.beq (0+(((wrap .i64 (1+t60):Int).toNat)*1)) 6 then ij.toInt else Up)
   else none
  else none
  else none
 else
  kr (t60,decide (t60<t59),Uj,Uk,Ul,Um,Un,Uo,Up)
noncomputable def Uq(C:af)(count q:Int)(t46:LV)(t47 t48:Int)(t58:LV)(t59 cD cJ:Int)(je iA fE numbers we:LV):=un fun t60=>un fun Uj=>un fun Uk=>un fun Ul=>un fun Um=>un fun Un=>un fun Uo Up=>Nb C count q t46 t47 t48 t58 t59 cD cJ je iA fE numbers we t60 Uj Uk Ul Um Un Uo Up ct cu
noncomputable def Nc(C:af)(count:Int)(t46:LV)(t47 cD cJ:Int)(je iA fE:LV)(t48:Int)(numbers we:LV){β:Type}(kn:ay (Int×LV×LV) β)(kr:ay (Int×Bool×LV×LV) β):Option β:=
 bif decide (t48<t47)then
  (idx t46 t48).bind fun x9=>
  aL fE t48 fun mc=>
  (Loop (Uq C count t48 t46 t47 t48 x9.toList (x9.toList.length:Int) cD cJ je iA fE numbers we) (0,mc.toInt,0,0,0,0,0,0)).bind (un fun Er=>un fun(Mh:Bool)=>un fun Nf=>un fun Ng=>un fun Nh=>un fun Ni=>un fun Nj=>un fun(Nk:Int) (Nl:Int)=>
   bif (dE .i64 Nf&&(dE .i64 Ng&&(dE .i64 Nh&&(dE .i64 Ni&&(dE .i64 Nj&&(dE .i64 Nk&&(dE .i64 Nl&&true)))))))&&true then
   bif !(gD (.agg [vI Nf,vI Ng,vI Nh,vI Ni,vI Nj,vI Nk,vI Nl]) numbers)then
    bif (dE .i64 Nf&&(dE .i64 Ng&&(dE .i64 Nh&&(dE .i64 Ni&&(dE .i64 Nj&&(dE .i64 Nk&&(dE .i64 Nl&&true)))))))&&true then
    aL we t48 fun yk=>
    kn (wrap .i64 (t48+1),kJ (.agg [vI Nf,vI Ng,vI Nh,vI Ni,vI Nj,vI Nk,vI Nl]) (vI (numbers.length:Int)) numbers,aG we t48 (vI (numbers.length:Int)))
    else none
   else
    aL we t48 fun tj=>
    kn (wrap .i64 (t48+1),numbers,aG we t48 (vI ((mq (.agg [vI Nf,vI Ng,vI Nh,vI Ni,vI Nj,vI Nk,vI Nl]) numbers (vI 0)).toInt)))
   else none)
 else
  kr (t48,decide (t48<t47),numbers,we)
noncomputable def Ur(C:af)(count:Int)(t46:LV)(t47 cD cJ:Int)(je iA fE:LV):=un fun t48=>un fun numbers we=>Nc C count t46 t47 cD cJ je iA fE t48 numbers we ct cu
noncomputable def Nm(C:af)(cD cJ:Int)(je iA:LV)(count:Int)(fE:LV){β:Type}(kn:ay (Int×LV) β)(kr:ay LV β):Option β:=
 bif (decide (0≤(fE.length:Int)))&&((decide ((fE.length:Int)≤(fE.length:Int)))&&(Nat.ble (((fE.length:Int).toNat)*8) bf))then
  (Loop (Ur C count iA (iA.length:Int) cD cJ je iA fE) (0,([]:LV),List.replicate ((fE.length:Int).toNat) (vI 0))).bind (un fun aIU=>un fun(ay2:Bool)=>un fun(amm:LV) (amn:LV)=>
   bif (amm.length:Int)==count then
   kr amn
   else
   kn ((amm.length:Int),amn))
 else none
noncomputable def Nn(C:af)(cD cJ:Int)(je iA:LV):=un fun count fE=>Nm C cD cJ je iA count fE ct cu
noncomputable def Us(C:af):da:=cm 81 aaX (aN 9 265) [[0,2,3,0,0,5,6,7,8,0]] (@Na C) (cm 273 aaY (aN 22 4161664) [[1,2,3,4,5,6,7,0,0,9,10,11,12,13,14,15,0,0,0,0,0,0,0]] (@Nb C) (cm 209 aaZ (aN 11 1544) [[1,2,3,0,0,5,6,7,8,9,0,0]] (@Nc C) (cm 161 aa0 (aN 6 33) [[0]] (@Nm C) bS)))
theorem ay3(C:af):bt C (Us C) 103 (Lp [1,1,1,0,1,0,0] 103):=cj aaX (aN 9 265) [[0,2,3,0,0,5,6,7,8,0]] (@Na C) (aY ak)
theorem ay4(C:af):bt C (Us C) 103 (Lp [1,1,1,1,0,0,0,1,1,0,1,0,0,1,1,0,0,1,1,0,1,0,0] 103):=cj aaY (aN 22 4161664) [[1,2,3,4,5,6,7,0,0,9,10,11,12,13,14,15,0,0,0,0,0,0,0]] (@Nb C) (aY ak)
theorem ay5(C:af):bt C (Us C) 103 (Lp [1,1,1,1,0,0,0,1,1,0,1,0,0] 103):=cj aaZ (aN 11 1544) [[1,2,3,0,0,5,6,7,8,9,0,0]] (@Nc C) (aY (br (ay4 C) ak))
theorem ay6(C:af):bt C (Us C) 103 (Lp [1,1,1,1,0,0] 103):=cj aa0 (aN 6 33) [[0]] (@Nm C) (aY (br (ay5 C) ak))
noncomputable def amo(C:af)(dp dx:Int)(dJ eE:LV):Option LV:=
 (C 19 [vI dp,vI dx,au dJ,aq eE]).bind fun r1=>
 bif ((gI r1):Int) != 0 then
  some [ab ([]:LV)]
 else
  bif (decide (0≤(dJ.length:Int)))&&((decide ((dJ.length:Int)≤(dJ.length:Int)))&&(Nat.ble (((dJ.length:Int).toNat)*8) bf))then
  (Loop (Ui C dJ (dJ.length:Int) dp dx dJ eE) (1,0,List.replicate ((dJ.length:Int).toNat) (vI 0))).bind (un fun ay7=>un fun uE=>un fun(v7:Bool) (ay8:LV)=>
   (Loop (Nn C dp dx dJ eE) (ay7,ay8)).bind (fun(ay9:LV)=>
    some [ab ay9]))
  else none
theorem aza{dp dx:Int}{dJ eE:LV}{r:Option LV}(h:amo CC dp dx dJ eE=r):CC 103 [vI dp,vI dx,au dJ,aq eE]=r:=bR (br (ay3 CC) (br (ay6 CC) ak)) h
def fU(a:Da)(c:Nat→Nat)(q t j:Nat):Nat:=if j=0 then c q else if j≤t then c (a.nx q (j-1))else 0
def fN(a:Da)(c:Nat→Nat)(q:Nat):List Nat:=tab 7 (fU a c q a.L)
def No(s:List Nat):V:= .agg (s.map nV)
theorem amp:∀s t:List Nat,qy (s.map nV) (t.map nV)=decide (s=t)
 | [],[]=>rfl
 | [],b::t=>rfl
 |a::s,[]=>rfl
 |a::s,b::t=>by
  simp only[nY,qy];rw[amp s t,CI];simp only[nV,wR];grind
theorem acm(s t:List Nat):jO (No s) (No t)=decide (s=t):=amp s t
theorem acn{a:Da}(h:a.Ok){c:Nat→Nat}{q q':Nat}:fN a c q=fN a c q'↔a.sig c q=a.sig c q':=by
 rw[Da.M7];have h6:=h.l6;constructor
 ·intro e;have g:=fun j (hj:j<7)=>congrArg (fun l:List Nat=>l.getD j 0) e;unfold fN at g;refine⟨?_,fun x hx=> ?_⟩
  ·have:=g 0 (by omega);rw[Ew (by omega),Ew (by omega)]at this;exact this
  ·have:=g (x+1) (by omega);rw[Ew (by omega),Ew (by omega)]at this;unfold fU at this;grind
 ·rintro⟨h1,h2⟩;refine dA fun j _=> ?_;unfold fU;grind
theorem EK{a:Da}{c:Nat→Nat}{q t:Nat}(j:Nat):(bif Nat.beq (0+(t+1)*1) j then((c (a.nx q t):Nat):Int)else((fU a c q t j:Nat):Int))=((fU a c q (t+1) j:Nat):Int):=by
 by_cases hj:t+1=j
 ·rw[show Nat.beq (0+(t+1)*1) j=true from by simp_all,cond_true,←hj];unfold fU;grind
 ·rw[show Nat.beq (0+(t+1)*1) j=false from by rw[←Bool.not_eq_true,bU];omega,cond_false];unfold fU;grind
def cV(n:Nat)(c:Nat→Nat):List V:=tab n fun q=>nV (c q)
section
variable {a:Da}(h:a.Ok){c:Nat→Nat}
include h
theorem azb{q:Nat}(hq:q<a.n){k1 k2 k3 k4 k5 k6:Int}{l1 l2 l3 l4 l5:List V}:
  Loop (Uq CC k1 k2 l1 k3 k4 (tab a.L fun x=>iV (a.nx q x)) ((tab a.L fun x=>iV (a.nx q x)).length:Int) k5 k6 l2 l3 (cV a.n c) l4 l5) (0,(c q:Int),0,0,0,0,0,0)=
   some ((a.L:Int),false,(fU a c q a.L 0:Int),(fU a c q a.L 1:Int),(fU a c q a.L 2:Int),(fU a c q a.L 3:Int),(fU a c q a.L 4:Int),(fU a c q a.L 5:Int),(fU a c q a.L 6:Int)):=by
 have h6:=h.l6;rw[fi];refine(gp a.L (fun t=>((t:Int),(fU a c q t 0:Int),(fU a c q t 1:Int),(fU a c q t 2:Int),(fU a c q t 3:Int),(fU a c q t 4:Int),(fU a c q t 5:Int),(fU a c q t 6:Int))) _ (fun t ht=> ?_) ?_)
 ·simp only[Uq,Nb,un];refine bT (cF ht) ?_;refine bs (Mz ht) ?_;refine(pD (i:=a.nx q t) (h.ov hq ht)).trans ?_;have w:wrap .i64 (1+(t:Int))=((t+1:Nat):Int):=by rw[uh];omega
  rw[w,bY (by omega),Int.toNat_natCast];refine bT (u7.2 ⟨bj (by omega),bj (by omega)⟩) ?_;refine bT (show Nat.ble (0+(t+1)*1+1) 7=true by rw[fG];omega) ?_;show some (Sum.inl _)=some (Sum.inl _);refine congrArg (fun x=>some (Sum.inl x)) ?_;exact dX rfl (dX (EK 0) (dX (EK 1) (dX (EK 2) (dX (EK 3) (dX (EK 4) (dX (EK 5) (EK 6)))))))
 ·simp only[Uq,Nb,un];grind
theorem azc(hc:∀q,q<a.n→c q≤1000){q:Nat}(hq:q<a.n)(j:Nat):fU a c q a.L j≤1000:=by
 unfold fU;split
 ·grind
 ·split
  ·exact hc _ (h.ov hq (by omega))
  ·omega
theorem azd(hc:∀q,q<a.n→c q≤1000){k1 k2 k3:Int}{l2:List V}:
  Loop (Ur CC k1 a.ia (a.ia.length:Int) k2 k3 l2 a.ia (cV a.n c)) (0,([]:List V),List.replicate ((((cV a.n c).length:Int):Int).toNat) (vI 0))=
   some ((a.n:Int),false,cO No 0 (cT (fN a c) a.n),cV a.n (iE (fN a c) a.n)):=by
 have hm:=h.eG;have hl:(cV a.n c).length=a.n:=by simp[cV]
 rw[hl,Int.toNat_natCast,mG,Da.axd];refine(gp a.n (fun i=>((i:Int),cO No 0 (cT (fN a c) i),(tab a.n fun q=>if q<i then nV (iE (fN a c) a.n q)else nV 0))) _ (fun q hq=> ?_) ?_)
 ·have hle:=M6 (fN a c) q;simp only[Ur,Nc,un,aL,aG];refine bT (cF hq) ?_;refine bs (Da.TM hq) ?_;refine(pD (i:=q) hq).trans ?_;simp only[My];refine bs (azb h hq) ?_;have k0:=azc h hc hq;have kk:∀j,dE .i64 ((fU a c q a.L j:Nat):Int)=true:=fun j=>te (by grind);have amq:((dE .i64 ((fU a c q a.L 0:Nat):Int)&&(dE .i64 ((fU a c q a.L 1:Nat):Int)&&(dE .i64 ((fU a c q a.L 2:Nat):Int)&&(dE .i64 ((fU a c q a.L 3:Nat):Int)&&(dE .i64 ((fU a c q a.L 4:Nat):Int)&&(dE .i64 ((fU a c q a.L 5:Nat):Int)&&(dE .i64 ((fU a c q a.L 6:Nat):Int)&&true)))))))&&true)=true:=by
   grind
  refine bT amq ?_;have ek:V.agg [vI (fU a c q a.L 0:Int),vI (fU a c q a.L 1:Int),vI (fU a c q a.L 2:Int),vI (fU a c q a.L 3:Int),vI (fU a c q a.L 4:Int),vI (fU a c q a.L 5:Int),vI (fU a c q a.L 6:Int)]=No (fN a c q):=rfl;simp only[un,ek];have e1:=Ey acm (fN a c q) (cT (fN a c) q) 0;have fin:∀v,v=nV (iE (fN a c) a.n q)→(tab a.n fun j=>if j<q then nV (iE (fN a c) a.n j)else nV 0).set q v=tab a.n fun j=>if j<q+1 then nV (iE (fN a c) a.n j)else nV 0:=by
   rintro v rfl;rw[jf];grind
  rw[bY (by omega)];by_cases hx:fN a c q∈cT (fN a c) q
  ·refine bF (by grind) ?_;refine(pD hq).trans ?_;have e2:=MB acm (fN a c q) (vI 0) (cT (fN a c) q) 0 hx;rw[cL,←ayV hq hx]at e2;rw[e2,V.toInt_int,Int.toNat_natCast,show(vI (iE (fN a c) a.n q:Int))=nV (iE (fN a c) a.n q)from rfl,fin _ rfl,amf hx]
  ·refine bT (by grind) ?_;refine bT amq ?_;refine(pD hq).trans ?_;have e2:=MC acm (fN a c q) (cT (fN a c) q) 0 hx;rw[cL]at e2;rw[MA,e2,Int.toNat_natCast,←ayW hq hx,show(vI (iE (fN a c) a.n q:Int))=nV (iE (fN a c) a.n q)from rfl,fin _ rfl,amg hx]
 ·simp only[Ur,Nc,un,aL,aG];refine bF (cf (aR _)) ?_;rw[cf (aR _)];have:(tab a.n fun q=>if q<a.n then nV (iE (fN a c) a.n q)else nV 0)=cV a.n (iE (fN a c) a.n):=dA fun q hq=>aP hq;rw[this]
def qY(a:Da):Nat→Nat
 |0=>1
 |i+1=>if a.fin i=a.fin 0 then qY a i else 2
def ko(a:Da)(q:Nat):Nat:=if a.fin q=a.fin 0 then 0 else 1
theorem aze:(cT (ko a) a.n).length=qY a a.n:=by
 have key:∀m,(cT (ko a) (m+1)=[0]∧qY a (m+1)=1)∨(cT (ko a) (m+1)=[0,1]∧qY a (m+1)=2):=by
  intro m
  induction m with
  |zero=>left;simp[cT,eV,ko,qY]
  |succ m ih=>
   rw[cT,qY];unfold ko eV;by_cases hf:a.fin (m+1)=a.fin 0
   ·rw[aP hf,aP hf];rcases ih with⟨i1,i2⟩|⟨i1,i2⟩
    ·left;refine⟨?_,i2⟩;unfold ko at i1;grind
    ·right;refine⟨?_,i2⟩;unfold ko at i1;grind
   ·rw[aM hf,aM hf];rcases ih with⟨i1,i2⟩|⟨i1,i2⟩
    ·right;refine⟨?_,rfl⟩;unfold ko at i1;grind
    ·right;refine⟨?_,rfl⟩;unfold ko at i1;grind
 have hs:=h.s;obtain⟨m,hm⟩:∃m,a.n=m+1:=⟨a.n-1,by omega⟩
 grind
theorem azf{k2 k3:Int}{l2:List V}:Loop (Ui CC a.gq (a.gq.length:Int) k2 k3 a.gq l2) (1,0,List.replicate ((((a.gq.length:Nat):Int)).toNat) (vI 0))=some ((qY a a.n:Int),(a.n:Int),false,cV a.n (ko a)):=by
 have hm:=h.eG;have hs:=h.s;rw[Da.Mx,Int.toNat_natCast,mG];refine(gp a.n (fun i=>((qY a i:Int),(i:Int),(tab a.n fun q=>if q<i then nV (ko a q)else nV 0))) _ (fun q hq=> ?_) ?_)
 ·simp only[Ui,Na,un,aL,aG];refine bT (cF hq) ?_;refine bs (Da.TL hq) ?_;refine bs (a:= .bool (a.fin 0)) (by unfold Da.gq;exact dH (by omega)) ?_;rw[bY (by omega)];have fin:(tab a.n fun j=>if j<q then nV (ko a j)else nV 0).set q (nV (ko a q))=tab a.n fun j=>if j<q+1 then nV (ko a j)else nV 0:=by
   rw[jf];grind
  simp only[V.Yp];by_cases hf:a.fin q=a.fin 0
  ·refine bF (by grind) ?_;have e:qY a (q+1)=qY a q:=by rw[qY,aP hf]
   have e2:(tab a.n fun j=>if j<q then nV (ko a j)else nV 0)=tab a.n fun j=>if j<q+1 then nV (ko a j)else nV 0:=dA fun j _=>by
    by_cases hj:j=q
    ·rw[fH,gC,hj];unfold ko;grind
    grind
   rw[e,e2]
  ·refine bT (by grind) ?_;refine(pD hq).trans ?_;have e:qY a (q+1)=2:=by rw[qY,aM hf]
   have e3:ko a q=1:=by unfold ko;grind
   rw[e3]at fin;rw[e,Int.toNat_natCast,show(vI 1)=nV 1 from rfl,fin];rfl
 ·simp only[Ui,Na,un,aL,aG];refine bF (cf (aR _)) ?_;rw[cf (aR _)];have:(tab a.n fun q=>if q<a.n then nV (ko a q)else nV 0)=cV a.n (ko a):=dA fun q hq=>aP hq;rw[this]
theorem azg{k2 k3:Int}{l2:List V}:∃p,Loop (Nn CC k2 k3 l2 a.ia) ((qY a a.n:Int),cV a.n (ko a))=some (cV a.n p)∧a.Uf p∧∀q,q<a.n→p q≤1000:=by
 have hm:=h.eG;have:=ah0 (step:=Nn CC k2 k3 l2 a.ia)
  (fun x=> ∃c,x=(((cT c a.n).length:Int),cV a.n c)∧a.Part c∧∀q,q<a.n→c q≤1000)
  (fun x=>a.n-x.1.toNat)
  (fun r=> ∃p,r=cV a.n p∧a.Uf p∧∀q,q<a.n→p q≤1000) (fun x hx=> ?_) ((qY a a.n:Int),cV a.n (ko a)) ⟨ko a,by rw[aze h],⟨?_,?_⟩,?_⟩
 ·grind
 ·obtain⟨c,rfl,hp,hc⟩:=hx;have hl:(cV a.n c).length=a.n:=by simp[cV]
  have azh:a.ack c (iE (fN a c) a.n):=fun q q' hq eC=>(ame hq eC).trans (acn h)
  have hle:=M6 (fN a c) a.n;have hb:∀q,q<a.n→iE (fN a c) a.n q≤1000:=fun q hq=>by have:=aci (g:=fN a c) hq;omega
  have hrf:∀q q',q<a.n→q'<a.n→fN a c q=fN a c q'→c q=c q':=fun q q' hq eC e=>(Da.M7.1 ((acn h).1 e)).1;have aIV:=ayY hrf;have cr:=azd h hc (k1:=((cT c a.n).length:Int)) (k2:=k2) (k3:=k3) (l2:=l2);by_cases he:(cT (fN a c) a.n).length=(cT c a.n).length
  ·right;refine⟨_,?_,iE (fN a c) a.n,rfl,⟨fun q q' hq eC=> ?_,ayX _ _⟩,hb⟩
   ·simp only[Nn,Nm,un];refine bT (by rw[hl];exact iB (by omega) (by omega)) ?_;refine bs cr ?_;refine bT (by rw[MA];simp[he]) ?_;rfl
   ·have fB:=ami hrf (by omega);rw[ame hq eC,←hp.ayZ h (fun s s' hs lk e=>(acn h).1 (fB s s' hs lk e)) q q' hq eC];grind
  ·left;have e2:(cT (iE (fN a c) a.n) a.n).length=(cT (fN a c) a.n).length:=by rw[amh _ _ _ (aR _),qx]
   refine⟨(((cT (fN a c) a.n).length:Int),cV a.n (iE (fN a c) a.n)),?_,⟨iE (fN a c) a.n,by rw[e2],azh.part h hp,hb⟩,?_⟩
   ·simp only[Nn,Nm,un];refine bT (by rw[hl];exact iB (by omega) (by omega)) ?_;refine bs cr ?_;refine bF (by rw[MA];grind) ?_;rw[MA]
   omega
 ·intro q q' hq eC he;have:=he [] WL.nil;rw[Da.yc,Da.yc]at this;unfold ko;rw[this]
 ·intro q q' hq eC he;unfold ko at he;split at he<;>split at he
  ·grind
  ·omega
  ·omega
  ·rename_i h1 h2;revert h1 h2;cases a.fin q<;>cases a.fin q'<;>cases a.fin 0<;>simp
 ·intro q _;unfold ko;grind
theorem azi:∃p,CC 103 (iC a)=some [ab (cV a.n p)]∧a.Uf p∧∀q,q<a.n→p q≤1000:=by
 have hm:=h.eG;obtain⟨p,h1,h2,h3⟩:=azg h (k2:=(a.L:Int)) (k3:=(a.st:Int)) (l2:=a.gq);refine⟨p,aza ?_,h2,h3⟩;unfold amo;refine bs (BQ h) ?_;refine bF rfl ?_;refine bT (by rw[Da.Mx];exact iB (by omega) (by omega)) ?_;refine bs (azf h) ?_;refine bs h1 ?_;rfl
end
noncomputable def Np(C:af)(q t29 t30:Int)(t47:LV)(t48 cD cJ:Int)(je iA:LV)(kj km HH HI:Int)(places fE:LV)(HJ HK:Int)(aH bB bZ cg dL me:LV)(t49:Int)(rows:LV){β:Type}(kn:ay (Int×LV) β)(kr:ay (Int×Bool×LV) β):Option β:=
 bif decide (t49<t48)then
  (idx t47 t49).bind fun x5=>
  bif (decide (0≤x5.toInt))&&(decide (x5.toInt<(fE.length:Int)))then
  (fE[(x5.toInt:Int).toNat]?).bind fun x6=>
  aL rows t49 fun x7=>
  kn (wrap .i64 (t49+1),aG rows t49 (vI x6.toInt))
  else none
 else
  kr (t49,decide (t49<t48),rows)
noncomputable def Ut(C:af)(q t29 t30:Int)(t47:LV)(t48 cD cJ:Int)(je iA:LV)(kj km HH HI:Int)(places fE:LV)(HJ HK:Int)(aH bB bZ cg dL me:LV):=un fun t49 rows=>Np C q t29 t30 t47 t48 cD cJ je iA kj km HH HI places fE HJ HK aH bB bZ cg dL me t49 rows ct cu
noncomputable def Nq(C:af)(t29 cD cJ:Int)(je iA:LV)(kj km HH HI:Int)(places fE:LV)(HJ HK:Int)(aC aH bB bZ:LV)(t30:Int)(cg dL:LV){β:Type}(kn:ay (Int×LV×LV) β)(kr:ay (Int×Bool×LV×LV) β):Option β:=
 bif decide (t30<t29)then
  aL fE t30 fun x3=>
  bif decide ((x3.toInt:Int)<(cg.length:Int))then
  kn (wrap .i64 (t30+1),cg,dL)
  else
  bif (decide (0≤cD))&&((decide (cD≤cD))&&(Nat.ble ((cD.toNat)*8) bf))then
   aL bZ t30 fun x4=>
   (Loop (Ut C t30 t29 t30 x4.toList (x4.toList.length:Int) cD cJ je iA kj km HH HI places fE HJ HK aC aH bB bZ cg dL) (0,List.replicate (cD.toNat) (vI 0))).bind (un fun BO=>un fun(uI:Bool) (amr:LV)=>
    aL bB t30 fun ny=>
    bif Nat.ble ((cg.length+([.bool ny.toBool]:LV).length)*1) bf then
    bif Nat.ble ((dL.length+([ab amr]:LV).length)*24) bf then
     kn (wrap .i64 (t30+1),cg++([.bool ny.toBool]:LV),dL++([ab amr]:LV))
    else none
    else none)
  else none
 else
  kr (t30,decide (t30<t29),cg,dL)
noncomputable def Uu(C:af)(t29 cD cJ:Int)(je iA:LV)(kj km HH HI:Int)(places fE:LV)(HJ HK:Int)(aC aH bB bZ:LV):=un fun t30=>un fun cg dL=>Nq C t29 cD cJ je iA kj km HH HI places fE HJ HK aC aH bB bZ t30 cg dL ct cu
noncomputable def Nr(C:af)(t88 kj km:Int)(fE:LV)(uL uM:Int)(numbers aco aC aH bB bZ:LV)(t89:Int)(yg:LV){β:Type}(kn:ay (Int×LV) β)(kr:ay (Int×Bool×LV) β):Option β:=
 bif decide (t89<t88)then
  aL aco t89 fun pF=>
  aL yg t89 fun wg=>
  bif decide ((pF.toInt:Int)≥0)then
  bif (decide (0≤pF.toInt))&&(decide (pF.toInt<(fE.length:Int)))then
   (fE[(pF.toInt:Int).toNat]?).bind fun Ae=>
   bif (decide (0≤Ae.toInt))&&(decide (Ae.toInt<(numbers.length:Int)))then
   (numbers[(Ae.toInt:Int).toNat]?).bind fun uN=>
   aL (aG yg t89 (vI (-1))) t89 fun Af=>
   kn (wrap .i64 (t89+1),aG (aG yg t89 (vI (-1))) t89 (vI uN.toInt))
   else none
  else none
  else
  kn (wrap .i64 (t89+1),aG yg t89 (vI (-1)))
 else
  kr (t89,decide (t89<t88),yg)
noncomputable def Uv(C:af)(t88 kj km:Int)(fE:LV)(uL uM:Int)(numbers aco aC aH bB bZ:LV):=un fun t89 yg=>Nr C t88 kj km fE uL uM numbers aco aC aH bB bZ t89 yg ct cu
noncomputable def acp(C:af):da:=cm 161 aaw (aN 25 262176) [[1,2,3,4,5,0,0,7,8,9,10,11,12,13,14,15,16,17,18,0,20,21,22,23,24,25]] (@Np C) (cm 81 aax (aN 20 786434) [[1,0,0,3,4,5,6,7,8,9,10,11,12,13,14,15,16,17,18,0,0]] (@Nq C) (cm 321 aay (aN 14 258) [[1,0,0,3,4,5,6,7,8,0,10,11,12,13,14]] (@Nr C) bS))
theorem azj(C:af):bt C (acp C) 53 (Lp [1,1,1,1,0,1,0,0,1,1,0,0,1,1,1,0,1,0,0] 53):=cj aaw (aN 25 262176) [[1,2,3,4,5,0,0,7,8,9,10,11,12,13,14,15,16,17,18,0,20,21,22,23,24,25]] (@Np C) (aY ak)
theorem azk(C:af):bt C (acp C) 53 (Lp [1,1,1,1,0,1,0,0] 53):=cj aax (aN 20 786434) [[1,0,0,3,4,5,6,7,8,9,10,11,12,13,14,15,16,17,18,0,0]] (@Nq C) (aY (br (azj C) ak))
theorem azl(C:af):bt C (acp C) 53 (Lp [1,1,1,1,1,1,1,0,1,0,0] 53):=cj aay (aN 14 258) [[1,0,0,3,4,5,6,7,8,0,10,11,12,13,14]] (@Nr C) (aY ak)
noncomputable def ams(C:af)(dp dx:Int)(dJ eE:LV):Option LV:=
 (C 102 [vI dp,vI dx,au dJ,aq eE]).bind fun r1=>
 (C 103 (D7 r1 [])).bind fun r2=>
 (Loop (Uu C ((gL r2).length:Int) dp dx dJ eE 0 0 (gI r1) (dm r1) (uv r1) (gL r2) dp 0 ([]:LV) ([]:LV) (jq r1) (oR r1)) (0,([]:LV),([]:LV))).bind (un fun Uw=>un fun(Er:Bool)=>un fun(rX:LV) (uF:LV)=>
  (C 102 [vI dp,vI 0,au rX,aq uF]).bind fun HL=>
  bif (decide (0≤((uv r1).length:Int)))&&((decide (((uv r1).length:Int)≤((uv r1).length:Int)))&&(Nat.ble (((((uv r1).length:Int):Int).toNat)*8) bf))then
   (Loop (Uv C ((uv r1).length:Int) 0 0 (gL r2) (gI HL) (dm HL) (uv HL) (uv r1) ([]:LV) ([]:LV) (jq HL) (oR HL)) (0,List.replicate ((((uv r1).length:Int):Int).toNat) (vI 0))).bind (un fun aIW=>un fun(aIX:Bool) (azm:LV)=>
    some (D7 HL [ab azm]))
  else none)
theorem azn{dp dx:Int}{dJ eE:LV}{r:Option LV}(h:ams CC dp dx dJ eE=r):CC 53 [vI dp,vI dx,au dJ,aq eE]=r:=bR (br (azk CC) (br (azl CC) ak)) h
noncomputable def amt(C:af)(dp dx:Int)(dJ eE:LV):Option LV:=
 (C 19 [vI dp,vI dx,au dJ,aq eE]).bind fun r1=>
 bif ((gI r1):Int) != 0 then
  some [vI 0,vI 0,au ([]:LV),aq ([]:LV)]
 else
  (C 53 [vI dp,vI dx,au dJ,aq eE]).bind fun r2=>
  some (D7 r2 [])
theorem azo{dp dx:Int}{dJ eE:LV}{r:Option LV}(h:amt CC dp dx dJ eE=r):CC 21 [vI dp,vI dx,au dJ,aq eE]=r:=bR (L:=bS) ak h
theorem azp{p:Nat→Nat}{n:Nat}(h:EI p n)(hn:0<n):p 0=0:=by
 simpa[cT,eV]using h 1 (by omega)
theorem amu{p:Nat→Nat}{n i:Nat}(h:EI p n)(hi:i<n):p i∈cT p i↔p i<(Da.jw p i).length:=by
 rw[Da.M8];constructor
 ·intro hm;rw[h i (by omega)]at hm;grind
 ·intro hm;rw[h i (by omega)];grind
theorem azq(p:Nat→Nat)(n:Nat):(Da.jw p n).length≤n:=by rw[Da.M8];exact M6 p n
def qF(a:Da)(p:Nat→Nat)(i:Nat):List V:=(Da.jw p i).map fun r=>V.bool (a.fin r)
def qN(a:Da)(p:Nat→Nat)(i:Nat):List V:=(Da.jw p i).map fun r=>td a.L fun x=>p (a.nx r x)
theorem azr{a:Da}{p:Nat→Nat}:(a.quo p).gq=qF a p a.n∧(a.quo p).ia=qN a p a.n:=by
 constructor
 ·unfold Da.gq qF;rw[Ex _ 0,Da.B0];exact dA fun i hi=>by rw[Da.amj hi,dK hi]
 ·unfold Da.ia qN;rw[Ex _ 0,Da.B0];refine dA fun i hi=> ?_;unfold td;exact congrArg _ (dA fun x hx=>by rw[Da.amk hi hx,dK hi])
section
variable {a:Da}(h:a.Ok){p:Nat→Nat}
include h
theorem azs{q:Nat}(hq:q<a.n){k1 k2 k3 k4 k5 k6 k7 k8 k9 k10 k11:Int}{l1 l2 l3 l4 l5 l6 l7 l8 l9:List V}:
  Loop (Ut CC k1 k2 k3 (tab a.L fun x=>iV (a.nx q x)) ((tab a.L fun x=>iV (a.nx q x)).length:Int) k4 k5 l1 l2 k6 k7 k8 k9 l3 (cV a.n p) k10 k11 l4 l5 l6 l7 l8 l9) (0,List.replicate (((a.L:Nat):Int).toNat) (vI 0))=
   some ((a.L:Int),false,(tab a.L fun x=>nV (p (a.nx q x)))):=by
 have h6:=h.l6;rw[fi,Int.toNat_natCast,mG];refine(gp a.L (fun t=>((t:Int),(tab a.L fun x=>if x<t then nV (p (a.nx q x))else nV 0))) _ (fun t ht=> ?_) ?_)
 ·simp only[Ut,Np,un,aL,aG];refine bT (cF ht) ?_;refine bs (Mz ht) ?_;refine(pD (i:=a.nx q t) (h.ov hq ht)).trans ?_;refine(pD ht).trans ?_;rw[bY (by omega),Int.toNat_natCast,jf];refine congrArg (fun x=>some (Sum.inl (((t+1:Nat):Int),x))) (dA fun j _=> ?_);by_cases hj:j=t
  ·rw[aP hj,gC,hj];rfl
  grind
 ·simp only[Ut,Np,un,aL,aG];refine bF (cf (aR _)) ?_;rw[cf (aR _)];refine congrArg (fun x=>some (Sum.inr ((a.L:Int),false,x))) (dA fun j hj=>aP hj)
theorem azt(ho:EI p a.n){k3 k4 k5 k6 k7 k8 k9:Int}{l1 l2 l3 l4 l5:List V}:
  Loop (Uu CC ((cV a.n p).length:Int) (a.L:Int) k3 l1 l2 k4 k5 k6 k7 l3 (cV a.n p) k8 k9 l4 l5 a.gq a.ia) (0,([]:List V),([]:List V))=
   some ((a.n:Int),false,qF a p a.n,qN a p a.n):=by
 have h6:=h.l6;have hm:=h.eG;rw[show(cV a.n p).length=a.n by simp[cV]];refine(gp a.n (fun i=>((i:Int),qF a p i,qN a p i)) _ (fun q hq=> ?_) ?_)
 ·have hle:=azq p q;have hF:(qF a p q).length=(Da.jw p q).length:=by simp[qF]
  have hN:(qN a p q).length=(Da.jw p q).length:=by simp[qN]
  simp only[Uu,Nq,un,aL];refine bT (cF hq) ?_;refine(pD (i:=q) hq).trans ?_;rw[bY (by omega)];simp only[nV,V.toInt_int];by_cases hx:p q∈cT p q
  ·refine bT (bj (by rw[hF];have:=(amu ho hq).1 hx;omega)) ?_;unfold qF qN;rw[Da.jw,aP hx]
  ·refine bF (cw (by rw[hF];intro h2;exact hx ((amu ho hq).2 (by omega)))) ?_;refine bT (iB (by omega) (by omega)) ?_;refine(pD (i:=q) hq).trans ?_;simp only[My];refine bs (azs h hq) ?_;refine(pD (i:=q) hq).trans ?_;refine bT (cap (by grind) (by omega)) ?_;refine bT (cap (by grind) (by omega)) ?_;unfold qF qN;rw[Da.jw,aM hx,sA,sA];rfl
 ·simp only[Uu,Nq,un,aL];grind
end
def Ag(U U':List Nat)(p:Nat→Nat)(q:Nat):V:=if q∈U then iV ((if p (U.idxOf q)∈U' then nV (U'.idxOf (p (U.idxOf q)))else vI (-1)).toInt)else vI (-1)
theorem azu{n m k:Nat}{U U':List Nat}{p:Nat→Nat}(hn:n≤512)(hU:U.length≤m)(hp:∀q,q<m→p q<k){k1 k2 k3 k4:Int}{l1 l2 l3 l4:List V}:
  ∃X,Loop (Uv CC ((qU U n).length:Int) k1 k2 (cV m p) k3 k4 (qU U' k) (qU U n) l1 l2 l3 l4) (0,List.replicate ((((qU U n).length:Int):Int).toNat) (vI 0))=some ((n:Int),false,X):=by
 rw[show(qU U n).length=n by simp[qU],Int.toNat_natCast,mG];refine⟨tab n fun q=>if q<n then Ag U U' p q else vI 0,gp n (fun i=>((i:Int),(tab n fun q=>if q<i then Ag U U' p q else vI 0))) _ (fun q hq=> ?_) ?_⟩
 ·simp only[Uv,Nr,un,aL,aG];refine bT (cF hq) ?_;refine(pD (i:=q) hq).trans ?_;refine(pD (i:=q) hq).trans ?_;rw[bY (by omega)];have fin:∀v,v=Ag U U' p q→((tab n fun j=>if j<q then Ag U U' p j else vI 0).set q v)=tab n fun j=>if j<q+1 then Ag U U' p j else vI 0:=by
   rintro v rfl;rw[jf];grind
  by_cases hx:q∈U
  ·have es:Ag U U' p q=iV ((if p (U.idxOf q)∈U' then nV (U'.idxOf (p (U.idxOf q)))else vI (-1)).toInt):=by unfold Ag;grind
   have hi:=I7 hx;rw[aP hx];refine bT (bj (by simp only[nV,V.toInt_int];omega)) ?_;simp only[nV,V.toInt_int];refine(pD (i:=U.idxOf q) (by omega)).trans ?_;simp only[nV,V.toInt_int];refine(pD (i:=p (U.idxOf q)) (hp _ (by omega))).trans ?_;simp_all
  ·rw[aM hx];refine bF (cw (by simp)) ?_;rw[Int.toNat_natCast,←fin _ (show vI (-1)=Ag U U' p q by unfold Ag;grind)]
 ·simp only[Uv,Nr,un,aL,aG];grind
theorem Canon.congr{m:Da}{L:Nat}{K K':List Nat→Bool}(h:m.Canon L K)(e:∀w,WL L w→K w=K' w):m.Canon L K':=⟨h.ok,h.hL,h.st,h.num,h.red,fun w hw=>(h.Hv w hw).trans (e w hw)⟩
theorem azv{a:Da}(h:a.Ok):∃m X,CC 53 (iC a)=some (iC m++[ab X])∧m.Canon a.L (a.acc a.st):=by
 have ht:=h.alh;have hm:=h.eG;have hle:=h.z0 a.n;have e3:a.trim.n=(aX a.L a.nx a.st a.n).length:=yd;obtain⟨p,c1,c2,c3⟩:=azi ht;have hq:=Da.aml ht c2;obtain⟨q1,q2⟩:=azr (a:=a.trim) (p:=p);have azw:=Da.ay1 ht c2;have fB:(a.trim.quo p).st=0:=azp c2.2 ht.s;have sh:=alO hq;obtain⟨X,hX⟩:=azu (n:=a.n) (m:=a.trim.n) (k:=(a.trim.quo p).n) (U:=aX a.L a.nx a.st a.n) (U':=aX (a.trim.quo p).L (a.trim.quo p).nx (a.trim.quo p).st (a.trim.quo p).n) (p:=p) hm (by omega) (fun q hq=>by rw[Da.B0];exact Da.M9 c2.2 hq) (k1:=0) (k2:=0) (k3:=((a.trim.quo p).trim.L:Int)) (k4:=((a.trim.quo p).trim.st:Int)) (l1:=[]) (l2:=[]) (l3:=(a.trim.quo p).trim.gq) (l4:=(a.trim.quo p).trim.ia);refine⟨(a.trim.quo p).trim,X,azn ?_,Canon.congr azw fun w hw=>h.ali hw⟩;unfold ams;refine bs (alO h) ?_;refine bs c1 ?_;refine bs (azt ht c2.2) ?_;simp only[un];rw[←q1,←q2];have azx:CC 102 [vI (a.L:Int),vI 0,au (a.trim.quo p).gq,aq (a.trim.quo p).ia]=some (iC (a.trim.quo p).trim++[ab (qU (aX (a.trim.quo p).L (a.trim.quo p).nx (a.trim.quo p).st (a.trim.quo p).n) (a.trim.quo p).n)]):=by
  rw[←sh];unfold iC BP;rw[fB];rfl
 refine bs azx ?_;have e0:(qU (aX a.L a.nx a.st a.n) a.n).length=a.n:=by simp[qU]
 refine bT (show((decide (0≤((qU (aX a.L a.nx a.st a.n) a.n).length:Int)))&&((decide (((qU (aX a.L a.nx a.st a.n) a.n).length:Int)≤((qU (aX a.L a.nx a.st a.n) a.n).length:Int)))&&(Nat.ble (((((qU (aX a.L a.nx a.st a.n) a.n).length:Nat):Int).toNat)*8) bf)))=true from iB (by omega) (by omega)) ?_;refine bs hX ?_;rfl
theorem amv{a:Da}(h:a.Ok):∃m,CC 21 (iC a)=some (iC m)∧m.Canon a.L (a.acc a.st):=by
 obtain⟨m,X,h1,h2⟩:=azv h;refine⟨m,azo ?_,h2⟩;unfold amt;refine bs (BQ h) ?_;refine bF rfl ?_;refine bs h1 ?_;rfl
open Classical in
noncomputable def minD(a:Da):Da:=if h:∃m:Da,m.Canon a.L (a.acc a.st)then Classical.choose h else a
theorem Ah{a:Da}(h:a.Ok):(minD a).Canon a.L (a.acc a.st):=by
 obtain⟨m,_,h2⟩:=amv h;have:∃m:Da,m.Canon a.L (a.acc a.st):=⟨m,h2⟩
 unfold minD;grind
theorem amw{a m:Da}(h:a.Ok)(hm:m.Canon a.L (a.acc a.st)):m=minD a:=hm.eq (Ah h)
theorem Ux{a:Da}(h:a.Ok):CC 21 (iC a)=some (iC (minD a)):=by
 obtain⟨m,h1,h2⟩:=amv h;rw[h1,amw h h2]
noncomputable def Ns(C:af)(n a t33 t34 t37 ss uL uM:Int)(Ai yl:LV)(t38:Int)(ao:LV){β:Type}(kn:ay (Int×LV) β)(kr:ay (Int×Bool×LV) β):Option β:=
 bif decide (t38<t37)then
  aL ao a fun x1=>
  (idx yl t38).bind fun x2=>
  (idx x2.toList a).bind fun x3=>
  (ao[a.toNat]?).bind fun x4=>
  bif Nat.ble ((x4.toList.length+([vI (wrap .i64 (ss+x3.toInt))]:LV).length)*8) bf then
  jS ao a <|
  bif (Nat.beq (a.toNat) (a.toNat))&&true then
   kn (wrap .i64 (t38+1),aG ao a (ab (x4.toList++([vI (wrap .i64 (ss+x3.toInt))]:LV))))
  else none
  else none
 else
  kr (t38,decide (t38<t37),ao)
noncomputable def Uy(C:af)(n a t33 t34 t37 ss uL uM:Int)(Ai yl:LV):=un fun t38 ao=>Ns C n a t33 t34 t37 ss uL uM Ai yl t38 ao ct cu
noncomputable def Nt(C:af)(n t33 ss uL uM:Int)(Ai yl:LV)(t34:Int)(ao:LV){β:Type}(kn:ay (Int×LV) β)(kr:ay (Int×Bool×LV) β):Option β:=
 bif decide (t34<t33)then
  (Loop (Uy C n t34 t33 t34 n ss uL uM Ai yl) (0,ao)).bind (un fun jV=>un fun(uE:Bool) (b_7:LV)=>
   kn (wrap .i64 (t34+1),b_7))
 else
  kr (t34,decide (t34<t33),ao)
noncomputable def Uz(C:af)(n t33 ss uL uM:Int)(Ai yl:LV):=un fun t34 ao=>Nt C n t33 ss uL uM Ai yl t34 ao ct cu
noncomputable def amx(C:af):da:=cm 161 ZD (aN 12 2080) [[1,2,3,4,5,0,0,7,8,9,10,11,0]] (@Ns C) (cm 113 ZE (aN 9 260) [[1,2,0,0,4,5,6,7,8,0]] (@Nt C) bS)
theorem azy(C:af):bt C (amx C) 20 (Lp [1,1,1,1,0,1,0,0,1,1,0,0,1,1,0,0] 20):=cj ZD (aN 12 2080) [[1,2,3,4,5,0,0,7,8,9,10,11,0]] (@Ns C) (aY ak)
theorem azz(C:af):bt C (amx C) 20 (Lp [1,1,1,1,0,1,0,0] 20):=cj ZE (aN 9 260) [[1,2,0,0,4,5,6,7,8,0]] (@Nt C) (aY (br (azy C) ak))
noncomputable def amy(C:af)(ym HM:Int)(Aj UA:LV)(ss:Int):Option LV:=
 bif decide (((wrap .i64 (ss+(Aj.length:Int))):Int)>32)then
  some [vI 3,vI ss,aq ([]:LV),uu ([]:LV)]
 else
  bif (decide (0≤ym))&&((decide (ym≤ym))&&(Nat.ble ((ym.toNat)*24) bf))then
  (Loop (Uz C (Aj.length:Int) ((List.replicate (ym.toNat) (ab ([]:LV))).length:Int) ss ym HM Aj UA) (0,List.replicate (ym.toNat) (ab ([]:LV)))).bind (un fun BO=>un fun(uI:Bool) (v5:LV)=>
   bif Nat.ble (([.agg [vI (wrap .i64 (ss+HM)),au Aj,vI ss]]:LV).length*40) bf then
    some [vI 0,vI (wrap .i64 (ss+(Aj.length:Int))),aq v5,uu ([.agg [vI (wrap .i64 (ss+HM)),au Aj,vI ss]]:LV)]
   else none)
  else none
theorem azA{ym HM:Int}{Aj UA:LV}{ss:Int}{r:Option LV}(h:amy CC ym HM Aj UA ss=r):CC 20 [vI ym,vI HM,au Aj,aq UA,vI ss]=r:=bR (br (azz CC) ak) h
noncomputable def amz(C:af)(jW:Int)(jX:LV)(UB:Int)(f:LV):Option LV:=
 (idx f jW).bind fun x1=>
 (idx jX (wrap .i64 (x1.toInt-UB))).bind fun x2=>
 some [.bool x2.toBool]
theorem azB{jW:Int}{jX:LV}{UB:Int}{f:LV}{r:Option LV}(h:amz CC jW jX UB f=r):CC 57 [vI jW,au jX,vI UB,ab f]=r:=bR (L:=bS) ak h
section
variable {a:LV}{i:Nat}{l l':LV}
theorem azC:Tryz.prog.underlying 22=some (.slice 3):=by kernel_rfl
theorem amA:cR Tryz.prog 22=false:=by kernel_rfl
theorem amB:parts Tryz.prog 22 (ab l)=[ab l]:=by
 unfold parts;rw[amA];simp only[cond_false,iJ,azC,V.fa]
theorem tm(h:a[i]? =some (ab l)):ec Tryz.prog 22 a [(i,0)]=some (ab l):=by
 simp only[ec,h,Option.bind_some,amB];rfl
theorem Nu(h:a[i]? =some (ab l)):setRow Tryz.prog l' 22 a [(i,0)]=a.set i (ab l'):=by
 simp only[setRow,h,amB];simp only[List.getElem?_cons_zero,List.set_cons_zero,dY,amA,cond_false,V.jE,gI,gL,gB,gS]
theorem azD:Tryz.prog.underlying 23=some (.slice 4):=by kernel_rfl
theorem amC:cR Tryz.prog 23=false:=by kernel_rfl
theorem amD:parts Tryz.prog 23 (au l)=[au l]:=by
 unfold parts;rw[amC];simp only[cond_false,iJ,azD,V.fa]
theorem tn(h:a[i]? =some (au l)):ec Tryz.prog 23 a [(i,0)]=some (au l):=by
 simp only[ec,h,Option.bind_some,amD];rfl
theorem UC(h:a[i]? =some (au l)):setRow Tryz.prog l' 23 a [(i,0)]=a.set i (au l'):=by
 simp only[setRow,h,amD];simp only[List.getElem?_cons_zero,List.set_cons_zero,dY,amC,cond_false,V.jE,gI,gL,gB,gS]
end
def Da.gT(m:Da)(x:Nat):List Nat:=(List.range m.n).map fun q=>m.nx q x
theorem Da.Ok.gT{m:Da}(h:m.Ok){x:Nat}(hx:x<m.L):Tr m.n (m.gT x):=by
 refine⟨by simp[Da.gT],fun y hy=> ?_⟩;obtain⟨q,hq,rfl⟩:=iZ.1 hy;exact h.ov (gM.1 hq) hx
theorem azE{m:Da}{x:Nat}:nS (m.gT x)=tab m.n fun q=>nV (m.nx q x):=by
 unfold Da.gT nS;rw[AE];rfl
def wh(m:Da):LV:=[.agg [vI (m.st:Int),au m.gq,vI 0]]
section
variable {m:Da}(h:m.Ok)(qV:m.n≤32)
include h qV
theorem azF{a:Nat}(ha:a<m.L){k1 k2:Int}:Loop (Uy CC (m.n:Int) (a:Int) k1 k2 (m.n:Int) 0 (m.L:Int) (m.st:Int) m.gq m.ia) (0,tab m.L fun j=>if j<a then tV (m.gT j)else ab [])=some ((m.n:Int),false,tab m.L fun j=>if j<a+1 then tV (m.gT j)else ab []):=by
 have hl6:=h.l6;have fB:∀{q:Nat} {l:LV},(tab m.L fun j=>if j<a then tV (m.gT j)else if j=a then ab l else ab [])[a]? =some (ab l):=fun {q l}=>by rw[dH ha,fH,gC]
 refine(gp m.n (fun q=>((q:Int),(tab m.L fun j=>if j<a then tV (m.gT j)else if j=a then ab (tab q fun p=>nV (m.nx p a))else ab []))) _ (fun q hq=> ?_) ?_) |> fun e=>by
  rw[show(tab m.L fun j=>if j<a then tV (m.gT j)else ab [])=tab m.L fun j=>if j<a then tV (m.gT j)else if j=a then ab (tab 0 fun p=>nV (m.nx p a))else ab []from dA fun j _=>by
   by_cases c:j<a
   ·grind
   ·rw[aM c,aM c];split<;>rfl]
  exact e
 ·simp only[Uy,Ns,un,aL,jS,aG];have e1:=fB (q:=q) (l:=tab q fun p=>nV (m.nx p a));have e2:a<(tab m.L fun j=>if j<a then tV (m.gT j)else if j=a then ab (tab q fun p=>nV (m.nx p a))else ab []).length:=by grind
  have JS:=h.ov hq ha;refine bT (cF hq) ((aU e1).trans (bs (Da.TM hq) ?_));rw[My];refine bs (Mz ha) (bs (by rw[Int.toNat_natCast];exact e1) (bT (cap (by simp;omega) (by omega)) (bT (qj e2) (bT (by simp) ?_))));rw[bY (by omega),show wrap .i64 (0+(iV (m.nx q a)).toInt)=((m.nx q a:Nat):Int)from by show wrap .i64 (0+((m.nx q a:Nat):Int))=_;rw[uh]<;>omega,Int.toNat_natCast,jf];refine congrArg (fun t=>some (Sum.inl (((q+1:Nat):Int),t))) (dA fun j _=> ?_);by_cases c:j=a
  ·subst c;rw[gC,fH,gC,V.fa,TF];rfl
  grind
 ·simp only[Uy,Ns,un];refine bF (cf (aR _)) ?_;rw[cf (aR _)];refine congrArg (fun t=>some (Sum.inr ((m.n:Int),false,t))) (dA fun j _=> ?_);by_cases c:j=a
  ·subst c;rw[fH,gC,gC];unfold tV;rw[azE]
  grind
theorem amE:CC 20 (BP m [vI 0])=some [vI 0,vI (m.n:Int),aq (gV m.L m.gT),uu (wh m)]:=by
 have hl6:=h.l6;have hs:=h.s;refine azA ?_;unfold amy;rw[Da.Mx,show wrap .i64 (0+(m.n:Int))=(m.n:Int)from by rw[uh]<;>omega];refine bF (cw (by omega)) (bT (iB (by omega) (by omega)) ?_);rw[Int.toNat_natCast,CD];have l2:Loop (Uz CC (m.n:Int) (m.L:Int) 0 (m.L:Int) (m.st:Int) m.gq m.ia) (0,List.replicate m.L (ab ([]:LV)))=some ((m.L:Int),false,gV m.L m.gT):=by
  rw[mG];refine(gp m.L (fun a=>((a:Int),(tab m.L fun j=>if j<a then tV (m.gT j)else ab []))) _ (fun a ha=> ?_) ?_)
  ·simp only[Uz,Nt,un];refine bT (cF ha) (bs (azF h qV ha) ?_);rw[bY (by omega)];rfl
  ·simp only[Uz,Nt,un];refine bF (cf (aR _)) ?_;rw[cf (aR _)];exact congrArg (fun t=>some (Sum.inr ((m.L:Int),false,t))) (dA fun j hj=>aP hj)
 rw[show wrap .i64 (0+(m.st:Int))=(m.st:Int)from by rw[uh]<;>omega];exact bs l2 rfl
theorem azG{f:List Nat}(hf:Tr m.n f):CC 57 [vI (m.st:Int),au m.gq,vI 0,ab (nS f)]=some [.bool (m.fin (f.getD m.st 0))]:=by
 have hs:=h.s;have lk:m.st<f.length:=by rw[hf.1];exact hs
 have h2:=hf.at lk;refine azB ?_;unfold amz;refine bs (qk lk) ?_;rw[show wrap .i64 ((nV f[m.st]).toInt-0)=((f[m.st]:Nat):Int)from by show wrap .i64 (((f[m.st]:Nat):Int)-0)=_;rw[uh]<;>omega,dK lk];exact bs (Da.TL h2) rfl
end
noncomputable def Nv(C:af)(s:LV)(v t7 t8:Int){β:Type}(kn:ay Int β)(kr:ay ((Int) ⊕ (Int×Bool)) β):Option β:=
 bif decide (t8<t7)then
  (idx s t8).bind fun x1=>
  bif v==x1.toInt then
  kr (.inl t8)
  else
  kn (wrap .i64 (t8+1))
 else
  kr (.inr (t8,decide (t8<t7)))
noncomputable def UD(C:af)(s:LV)(v t7:Int):=fun t8=>Nv C s v t7 t8 ct cu
noncomputable def azH(C:af):da:=cm 33 aa7 [zJ,zJ,zJ,zK] [[0],[1,2,3,0,0]] (@Nv C) bS
theorem azI(C:af):bt C (azH C) 107 (Lp [1,0,1,0,0] 107):=cj aa7 [zJ,zJ,zJ,zK] [[0],[1,2,3,0,0]] (@Nv C) (aY ak)
noncomputable def acq(C:af)(s:LV)(v:Int):Option LV:=
 (Loop (UD C s v (s.length:Int)) 0).bind (gZ (fun lA=>
  some [vI lA]) (un fun(fL:Int) (hZ:Bool)=>
  some [vI (-1)]))
theorem amF{s:LV}{v:Int}{r:Option LV}(h:acq CC s v=r):CC 107 [ab s,vI v]=r:=bR (br (azI CC) ak) h
noncomputable def amG(C:af)(s:LV)(v:Int):Option LV:=
 (C 107 [ab s,vI v]).bind fun r1=>
 some [.bool (decide (((gI r1):Int)≥0))]
theorem azJ{s:LV}{v:Int}{r:Option LV}(h:amG CC s v=r):CC 56 [ab s,vI v]=r:=bR (L:=bS) ak h
noncomputable def Nw(C:af)(n ss:Int)(aE:LV)(jx pG:Int)(pH:Bool)(pI ms:Int)(aC aH bB bZ cg dL me jv ib ic iD iS eW ju nw:LV)(i:Int)(ig jI:LV){β:Type}(kn:ay (Int×LV×LV) β)(kr:ay (Int×Bool×LV×LV) β):Option β:=
 bif decide (i<n)then
  aL ib i fun x3=>
  bif (decide (0≤x3.toInt))&&(decide (x3.toInt<(ig.length:Int)))then
  (ig[(x3.toInt:Int).toNat]?).bind fun x4=>
  aL ic i fun x5=>
  bif Nat.ble (x4.toStr.length+(mu ([.int .u8 (wrap .u8 (wrap .i64 (97+x5.toInt)))]:LV)).length) ry then
   aL ig i fun x6=>
   aL jI i fun x7=>
   kn (wrap .i64 (i+1),aG ig i (.str (x4.toStr++(mu ([.int .u8 (wrap .u8 (wrap .i64 (97+x5.toInt)))]:LV)))),aG jI i (.bool true))
  else none
  else none
 else
  kr (i,decide (i<n),ig,jI)
noncomputable def Nx(C:af)(n ss:Int)(aE:LV)(jx pG:Int)(pH:Bool)(pI ms:Int)(aC aH bB bZ cg dL me jv ib ic iD iS eW ju nw:LV):=un fun i=>un fun ig jI=>Nw C n ss aE jx pG pH pI ms aC aH bB bZ cg dL me jv ib ic iD iS eW ju nw i ig jI ct cu
noncomputable def Ny(C:af)(n i t87 t88 ss:Int)(aE:LV)(jx pG:Int)(pH:Bool)(pI ms:Int)(yn aH bB bZ cg dL me jv ib ic iD iS ig ju nw jI:LV)(j:Int)(eW:LV){β:Type}(kn:ay (Int×LV) β)(kr:ay (Int×Bool×LV) β):Option β:=
 bif decide (j<n)then
  aL eW i fun uN=>
  aL eW i fun Af=>
  aL ic j fun yk=>
  (ec Tryz.prog 22 eW [(i.toNat,0)]).bind fun tj=>
  bif (decide (0≤yk.toInt))&&(decide (yk.toInt<(tj.toList.length:Int)))then
  (ec Tryz.prog 22 eW [(i.toNat,0)]).bind fun uK=>
  (uK.toList[(yk.toInt:Int).toNat]?).bind fun uO=>
  bif (decide (0≤uO.toInt))&&(decide (uO.toInt<(yn.length:Int)))then
   (yn[(uO.toInt:Int).toNat]?).bind fun wc=>
   aL iD j fun uJ=>
   (idx wc.toList uJ.toInt).bind fun B4=>
   (ec Tryz.prog 22 eW [(i.toNat,0)]).bind fun Ak=>
   bif (decide (0≤j))&&(decide (j<(Ak.toList.length:Int)))then
   (ec Tryz.prog 22 eW [(i.toNat,0)]).bind fun Nz=>
   (Nz.toList[j.toNat]?).bind fun HN=>
   kn (wrap .i64 (j+1),setRow Tryz.prog (aG Nz.toList j (vI B4.toInt)) 22 eW [(i.toNat,0)])
   else none
  else none
  else none
 else
  kr (j,decide (j<n),eW)
noncomputable def HO(C:af)(n i t87 t88 ss:Int)(aE:LV)(jx pG:Int)(pH:Bool)(pI ms:Int)(yn aH bB bZ cg dL me jv ib ic iD iS ig ju nw jI:LV):=un fun j eW=>Ny C n i t87 t88 ss aE jx pG pH pI ms yn aH bB bZ cg dL me jv ib ic iD iS ig ju nw jI j eW ct cu
noncomputable def NA(C:af)(n t87 ss:Int)(aE:LV)(jx pG:Int)(pH:Bool)(pI ms:Int)(yn aH bB bZ cg dL me jv ib ic iD iS ig ju nw:LV)(t88:Int)(eW jI:LV){β:Type}(kn:ay (Int×LV×LV) β)(kr:ay (Int×Bool×LV×LV) β):Option β:=
 bif decide (t88<t87)then
  aL yn t88 fun ij=>
  bif decide (0<(jI.length:Int))then
  (jI[0]?).bind fun oT=>
  bif oT.toBool then
   bif decide (0<(jI.length:Int))then
   (jI[0]?).bind fun pJ=>
   bif (decide (0≤n))&&((decide (n≤n))&&(Nat.ble ((n.toNat)*8) bf))then
    aL eW t88 fun uP=>
    aL (aG eW t88 (ab (List.replicate (n.toNat) (vI 0)))) t88 fun nz=>
    (ec Tryz.prog 22 (aG eW t88 (ab (List.replicate (n.toNat) (vI 0)))) [(t88.toNat,0)]).bind fun pF=>
    bif decide (0<(pF.toList.length:Int))then
    (ec Tryz.prog 22 (aG eW t88 (ab (List.replicate (n.toNat) (vI 0)))) [(t88.toNat,0)]).bind fun wg=>
    (wg.toList[0]?).bind fun Ae=>
    (Loop (HO C n t88 t87 t88 ss aE jx pG pH pI ms yn aH bB bZ cg dL me jv ib ic iD iS ig ju nw (jI.set 0 (.bool true))) (1,setRow Tryz.prog (wg.toList.set 0 (vI t88)) 22 (aG eW t88 (ab (List.replicate (n.toNat) (vI 0)))) [(t88.toNat,0)])).bind (un fun aIY=>un fun(aIZ:Bool) (EA:LV)=>
     kn (wrap .i64 (t88+1),EA,jI.set 0 (.bool true)))
    else none
   else none
   else none
  else
   (C 56 [ab ij.toList,vI 0]).bind fun UE=>
   bif decide (0<(jI.length:Int))then
   (jI[0]?).bind fun EL=>
   bif (decide (0≤n))&&((decide (n≤n))&&(Nat.ble ((n.toNat)*8) bf))then
    aL eW t88 fun UF=>
    aL (aG eW t88 (ab (List.replicate (n.toNat) (vI 0)))) t88 fun EM=>
    (ec Tryz.prog 22 (aG eW t88 (ab (List.replicate (n.toNat) (vI 0)))) [(t88.toNat,0)]).bind fun x39=>
    bif decide (0<(x39.toList.length:Int))then
    (ec Tryz.prog 22 (aG eW t88 (ab (List.replicate (n.toNat) (vI 0)))) [(t88.toNat,0)]).bind fun Al=>
    (Al.toList[0]?).bind fun x41=>
    (Loop (HO C n t88 t87 t88 ss aE jx pG pH pI ms yn aH bB bZ cg dL me jv ib ic iD iS ig ju nw (jI.set 0 (.bool (gB UE)))) (1,setRow Tryz.prog (Al.toList.set 0 (vI t88)) 22 (aG eW t88 (ab (List.replicate (n.toNat) (vI 0)))) [(t88.toNat,0)])).bind (un fun aI0=>un fun(T6:Bool) (ab8:LV)=>
     kn (wrap .i64 (t88+1),ab8,jI.set 0 (.bool (gB UE))))
    else none
   else none
   else none
  else none
 else
  kr (t88,decide (t88<t87),eW,jI)
noncomputable def UG(C:af)(n t87 ss:Int)(aE:LV)(jx pG:Int)(pH:Bool)(pI ms:Int)(yn aH bB bZ cg dL me jv ib ic iD iS ig ju nw:LV):=un fun t88=>un fun eW jI=>NA C n t87 ss aE jx pG pH pI ms yn aH bB bZ cg dL me jv ib ic iD iS ig ju nw t88 eW jI ct cu
noncomputable def NB(C:af)(n k' t163 t164 t176 HP:Int)(aE:LV)(jx pG:Int)(pH:Bool)(pI ms acr:Int)(acs:LV)(acu:Int)(EN acv cg dL me jv ib ic iD iS eW ig ju nw jI HQ amH:LV)(t177:Int)(tp:LV){β:Type}(kn:ay (Int×LV) β)(kr:ay (Int×Bool×LV) β):Option β:=
 bif decide (t177<t176)then
  aL acv t177 fun x51=>
  aL tp k' fun x52=>
  (C 57 [vI acr,au acs,vI acu,ab x51.toList]).bind fun qm=>
  (ec Tryz.prog 23 tp [(k'.toNat,0)]).bind fun x54=>
  bif (decide (0≤t177))&&(decide (t177<(x54.toList.length:Int)))then
  (ec Tryz.prog 23 tp [(k'.toNat,0)]).bind fun x55=>
  (x55.toList[t177.toNat]?).bind fun x56=>
  kn (wrap .i64 (t177+1),setRow Tryz.prog (aG x55.toList t177 (.bool (gB qm))) 23 tp [(k'.toNat,0)])
  else none
 else
  kr (t177,decide (t177<t176),tp)
noncomputable def UH(C:af)(n k' t163 t164 t176 HP:Int)(aE:LV)(jx pG:Int)(pH:Bool)(pI ms acr:Int)(acs:LV)(acu:Int)(EN acv cg dL me jv ib ic iD iS eW ig ju nw jI HQ amH:LV):=un fun t177 tp=>NB C n k' t163 t164 t176 HP aE jx pG pH pI ms acr acs acu EN acv cg dL me jv ib ic iD iS eW ig ju nw jI HQ amH t177 tp ct cu
noncomputable def NC(C:af)(n t163 HP:Int)(aE:LV)(jx pG:Int)(pH:Bool)(pI ms:Int)(EN bB bZ cg dL me jv ib ic iD iS eW ig ju nw jI HQ:LV)(t164:Int)(tp:LV){β:Type}(kn:ay (Int×LV) β)(kr:ay (Int×Bool×LV) β):Option β:=
 bif decide (t164<t163)then
  aL EN t164 fun ND=>
  bif (decide (0≤n))&&((decide (n≤n))&&(Nat.ble ((n.toNat)*1) bf))then
  aL tp t164 fun x50=>
  (Loop (UH C n t164 t163 t164 (ib.length:Int) HP aE jx pG pH pI ms ((ND.cell 0).toInt) ((ND.cell 1).toList) ((ND.cell 2).toInt) EN ib bB bZ cg dL me jv ic iD iS eW ig ju nw jI HQ) (0,aG tp t164 (au (List.replicate (n.toNat) (V.bool false))))).bind (un fun ayg=>un fun(ayh:Bool) (azK:LV)=>
   kn (wrap .i64 (t164+1),azK))
  else none
 else
  kr (t164,decide (t164<t163),tp)
noncomputable def UI(C:af)(n t163 HP:Int)(aE:LV)(jx pG:Int)(pH:Bool)(pI ms:Int)(EN bB bZ cg dL me jv ib ic iD iS eW ig ju nw jI HQ:LV):=un fun t164 tp=>NC C n t163 HP aE jx pG pH pI ms EN bB bZ cg dL me jv ib ic iD iS eW ig ju nw jI HQ t164 tp ct cu
noncomputable def NF(C:af):da:=cm 145 ZF (aN 26 37748738) [[1,0,0,3,4,5,6,7,8,9,10,11,12,13,14,15,16,17,18,19,20,21,22,0,24,25,0]] (@Nw C) (cm 321 ZG (aN 29 16777220) [[1,2,0,4,5,0,6,7,8,9,10,11,12,13,14,15,16,17,18,19,20,21,22,23,24,0,26,27,28,29]] (@Ny C) (cm 225 ZH (aN 27 71303172) [[1,2,0,0,4,5,6,7,8,9,10,11,12,13,14,15,16,17,18,19,20,21,22,0,24,25,26,0]] (@NA C) (cm 481 ZI (aN 34 8224) [[1,2,3,4,5,0,0,7,8,9,10,11,12,13,0,15,16,17,18,19,20,21,22,23,24,25,26,27,28,29,30,31,32,33,34]] (@NB C) (cm 417 ZJ (aN 28 1028) [[1,2,0,0,4,5,6,7,8,9,10,0,12,13,14,15,16,17,18,19,20,21,22,23,24,25,26,27,28]] (@NC C) bS))))
theorem azL(C:af):bt C (NF C) 22 (Lp [1,1,1,1,1,1,0,1,0,0] 22):=cj ZF (aN 26 37748738) [[1,0,0,3,4,5,6,7,8,9,10,11,12,13,14,15,16,17,18,19,20,21,22,0,24,25,0]] (@Nw C) (aY ak)
theorem azM(C:af):bt C (NF C) 22 (Lp [1,1,1,1,1,1,1,0,1,0,0,1,1,0,0,1,1,1,1,1,0,0] 22):=cj ZG (aN 29 16777220) [[1,2,0,4,5,0,6,7,8,9,10,11,12,13,14,15,16,17,18,19,20,21,22,23,24,0,26,27,28,29]] (@Ny C) (aY ak)
theorem azN(C:af):bt C (NF C) 22 (Lp [1,1,1,1,1,1,1,0,1,0,0] 22):=cj ZH (aN 27 71303172) [[1,2,0,0,4,5,6,7,8,9,10,11,12,13,14,15,16,17,18,19,20,21,22,0,24,25,26,0]] (@NA C) (aY (br (azM C) ak))
theorem azO(C:af):bt C (NF C) 22 (Lp [1,1,1,1,1,1,1,1,1,0,1,0,0,1,1,0,0,1,1,1,0,0] 22):=cj ZI (aN 34 8224) [[1,2,3,4,5,0,0,7,8,9,10,11,12,13,0,15,16,17,18,19,20,21,22,23,24,25,26,27,28,29,30,31,32,33,34]] (@NB C) (aY ak)
theorem azP(C:af):bt C (NF C) 22 (Lp [1,1,1,1,1,1,1,1,1,0,1,0,0] 22):=cj ZJ (aN 28 1028) [[1,2,0,0,4,5,6,7,8,9,10,0,12,13,14,15,16,17,18,19,20,21,22,23,24,25,26,27,28]] (@NC C) (aY (br (azO C) ak))
noncomputable def NG(C:af)(ss:Int)(aE ao:LV):Option LV:=
 (C 54 [aq aE,.bool true]).bind fun r1=>
 bif ((G2 r1):Int) != 0 then
  some [vI 0,aq ([]:LV),cq ([]:LV),ab ([]:LV),au ([]:LV),au ([]:LV),bd ([]:LV),vI (G2 r1),vI ss,aq aE,uu ao]
 else
  bif decide ((((lx r1).length:Int):Int)>400)then
  some [vI 0,aq ([]:LV),cq ([]:LV),ab ([]:LV),au ([]:LV),au ([]:LV),bd ([]:LV),vI 3,vI ss,aq aE,uu ao]
  else
  bif (decide (0≤((lx r1).length:Int)))&&((decide (((lx r1).length:Int)≤((lx r1).length:Int)))&&(Nat.ble (((((lx r1).length:Int):Int).toNat)*24) bf))then
   bif (decide (0≤((lx r1).length:Int)))&&((decide (((lx r1).length:Int)≤((lx r1).length:Int)))&&(Nat.ble (((((lx r1).length:Int):Int).toNat)*16) bf))then
   bif decide (0<((BA r1).length:Int))then
    ((BA r1)[0]?).bind fun x2=>
    bif Nat.ble (x2.toList.length*8) bf then
    bif (decide (0≤((lx r1).length:Int)))&&((decide (((lx r1).length:Int)≤((lx r1).length:Int)))&&(Nat.ble (((((lx r1).length:Int):Int).toNat)*1) bf))then
     (Loop (Nx C ((lx r1).length:Int) ss aE 0 (gI r1) (js r1) (jo r1) (aE.length:Int) ao ([]:LV) ([]:LV) ([]:LV) ([]:LV) ([]:LV) (Lw r1) (lx r1) (Lx r1) (Ly r1) (BA r1) (LA r1) (List.replicate ((((lx r1).length:Int):Int).toNat) (ab ([]:LV))) x2.toList ([]:LV)) (1,List.replicate ((((lx r1).length:Int):Int).toNat) (V.str []),List.replicate ((((lx r1).length:Int):Int).toNat) (V.bool false))).bind (un fun i_8=>un fun(uI:Bool)=>un fun(v5:LV) (zX:LV)=>
      (Loop (UG C ((lx r1).length:Int) ((BA r1).length:Int) ss aE 0 (gI r1) (js r1) (jo r1) (aE.length:Int) (BA r1) ao ([]:LV) ([]:LV) ([]:LV) ([]:LV) ([]:LV) (Lw r1) (lx r1) (Lx r1) (Ly r1) (LA r1) v5 x2.toList ([]:LV)) (0,List.replicate ((((lx r1).length:Int):Int).toNat) (ab ([]:LV)),zX)).bind (un fun amI=>un fun(azQ:Bool)=>un fun(T7:LV) (Ab:LV)=>
       bif (decide (0≤(ao.length:Int)))&&((decide ((ao.length:Int)≤(ao.length:Int)))&&(Nat.ble (((ao.length:Int).toNat)*24) bf))then
       (Loop (UI C ((lx r1).length:Int) (ao.length:Int) ss aE 0 (gI r1) (js r1) (jo r1) (aE.length:Int) ao ([]:LV) ([]:LV) ([]:LV) ([]:LV) ([]:LV) (Lw r1) (lx r1) (Lx r1) (Ly r1) (BA r1) (LA r1) T7 v5 x2.toList ([]:LV) Ab) (0,List.replicate ((ao.length:Int).toNat) (au ([]:LV)))).bind (un fun aI1=>un fun(azR:Bool) (azS:LV)=>
        some [vI (aE.length:Int),aq T7,cq v5,ab x2.toList,au ([]:LV),au Ab,bd azS,vI 0,vI ss,aq aE,uu ao])
       else none))
    else none
    else none
   else none
   else none
  else none
theorem azT{ss:Int}{aE ao:LV}{r:Option LV}(h:NG CC ss aE ao=r):CC 22 [vI ss,aq aE,uu ao]=r:=bR (br (azL CC) (br (azN CC) (br (azP CC) ak))) h
theorem azU{l:List Nat}(hl:l.length≤1000000):CC 56 [ab (nS l),vI 0]=some [.bool (decide (0∈l))]:=by
 have key:∃k:Int,CC 107 [ab (nS l),vI 0]=some [vI k]∧decide (k≥0)=decide (0∈l):=by
  have hL:=alp (step:=UD CC (nS l) 0 ((nS l).length:Int)) (fun i=>l.getD i 0==0) l.length (fun i=>(i:Int)) (fun i=> .inl (i:Int)) (.inr ((l.length:Int),false)) (fun i hi=> ?_) ?_
  ·rcases hL with⟨i,hi,hb,_,e⟩|⟨hb,e⟩
   ·refine⟨(i:Int),amF ?_,?_⟩
    ·unfold acq;exact bs e rfl
    grind
   ·refine⟨-1,amF ?_,?_⟩
    ·unfold acq;exact bs e rfl
    ·rw[cw (by omega),cw fun hm=> ?_];obtain⟨i,hi,e⟩:=CH hm;grind
  ·simp only[UD,Nv];rw[ff];refine bT (cF hi) (bs (qk hi) ?_);by_cases c:l[i]=0
   ·rw[aP (by grind)];exact bT (by show((0:Int)==((l[i]:Nat):Int))=true;rw[c];rfl) rfl
   ·rw[aM (by grind)];refine bF (by show((0:Int)==((l[i]:Nat):Int))=false;grind) ?_;rw[bY (by omega)]
  ·simp only[UD,Nv];rw[ff];grind
 obtain⟨k,e,h⟩:=key;refine azJ ?_;unfold amG;simp_all
theorem getD_map{l:List Nat}{k:Nat→Nat}{i:Nat}(h:i<l.length):(l.map k).getD i 0=k (l.getD i 0):=by
 grind
theorem acw{n:Nat}{f g k:List Nat}(hf:Tr n f)(hg:Tr n g):comp (comp f g) k=comp f (comp g k):=by
 unfold comp;rw[AE];exact rl fun i hi=>(getD_map (k:=fun i=>k.getD i 0) (by rw[hg.1];exact hf.2 i hi)).symm
theorem comp_id{n:Nat}{f:List Nat}(hf:Tr n f):comp f (List.range n)=f:=by
 refine yQ (by simp[comp]) fun i h1 h2=> ?_;have:=hf.at h2;simp[comp,this]
def eH(S:List (List Nat))(i j:Nat):Nat:=jH S (comp (S.getD i []) (S.getD j []))
def wi(S:List (List Nat))(i j:Nat):LV:=tab S.length fun b=>if b<j then nV (eH S i b)else vI 0
def tq(S:List (List Nat))(i j:Nat):LV:=tab S.length fun a=>if a<i then ab (wi S a S.length)else if a=i then ab (wi S i j)else ab []
def uQ(S:List (List Nat))(i:Nat):LV:=tab S.length fun a=>if a<i then ab (wi S a S.length)else ab []
def EO(L:Nat)(g:Nat→List Nat)(S:List (List Nat))(i:Nat):Bool:=decide (∃a,a<i∧0∈fM L g S (S.getD a []))
def mH(L:Nat)(g:Nat→List Nat)(S:List (List Nat))(i:Nat):LV:=tab S.length fun j=> .bool (if j=0 then EO L g S i else true)
def acx(L n:Nat)(g:Nat→List Nat):Prop:= ∃T:List (List Nat),T.Nodup∧(∀f∈T,Tr n f∧Wd L n g f)∧400<T.length
section
variable {L n:Nat}{g:Nat→List Nat}{S:List (List Nat)}{P K:List Int}{R:List (List Nat)}{W:List (List UInt8)}{B:List Int}{s:List Nat}
theorem ow.row(h:ow L n S.length g S P K R W B s):R=S.map (fM L g S):=by rw[h.rr,tH]
theorem ow.UJ(h:ow L n S.length g S P K R W B s){i:Nat}(hi:i<S.length):(sV R)[i]? =some (tV (fM L g S (S.getD i []))):=by
 rw[h.row];simp[sV,hi]
theorem ow.cl'(h:ow L n S.length g S P K R W B s){f:List Nat}(hf:f∈S){x:Nat}(hx:x<L):b8 g f x∈S:=h.cl f (by grind) x hx
theorem ow.word(h:ow L n S.length g S P K R W B s):∀{i:Nat},i<S.length→∃w,WL L w∧S.getD i []=w.foldl (b8 g) (List.range n):=h.I.word
theorem ow.amJ(h:ow L n S.length g S P K R W B s)(hg:∀x,x<L→Tr n (g x)){f:List Nat}(hf:f∈S):∀{j:Nat},j<S.length→comp f (S.getD j [])∈S:=by
 intro j hj
 induction j using Nat.strongRecOn with
 |ind j ih=>
  rcases PL j with rfl|h0
  ·have:S.getD 0 []=List.range n:=by
    have:=h.I.id;cases S with
    |nil=>cases this
    |cons a S=>grind
   rw[this,comp_id (h.I.tr f hf)];exact hf
  ·obtain⟨p,x,_,_,hp,hx,e⟩:=h.I.p j h0 hj;have gj:p<S.length:=by omega
   have htp:Tr n (S.getD p []):=by rw[dK gj];exact h.I.tr _ (fx gj)
   rw[e,←acw (h.I.tr f hf) htp];exact h.cl' (ih p hp gj) hx
theorem ow.azV(h:ow L n S.length g S P K R W B s)(hg:∀x,x<L→Tr n (g x)){i j:Nat}(hi:i<S.length)(hj:j<S.length):eH S i j<S.length:=
 wa (h.amJ hg (by grind) hj)
section
variable (h:ow L n S.length g S P K R W B s)(hg:∀x,x<L→Tr n (g x))
include h hg
theorem amK{i:Nat}(hi:i<S.length){k1 k2 k3 k4 k5 k6 k7:Int}{k8:Bool}{l1 l2 l3 l4 l5 l6 l7 l8 l9 l10 l11 l12 l13 l14:LV}:
  Loop (HO CC (S.length:Int) (i:Int) k1 k2 k3 l1 k4 k5 k8 k6 k7 (sV R) l2 l3 l4 l5 l6 l7 l8 l9 (iL P) (iL K) l10 l11 l12 l13 l14) (1,tq S i 1)=some ((S.length:Int),false,tq S i S.length):=by
 have hlen:=h.I.len;have pX:∀{j:Nat},(tq S i j)[i]? =some (ab (wi S i j)):=fun {j}=>by unfold tq;rw[dH hi,fH,gC]
 have hl:∀{j:Nat},(wi S i j).length=S.length:=fun {j}=>fi;have pU:∀{j:Nat},j<S.length→(tq S i j).set i (ab ((wi S i j).set j (nV (eH S i j))))=tq S i (j+1):=fun {j} hj=>by
  unfold tq wi;rw[jf,jf];grind
 have hfi:Tr n (S.getD i []):=by rw[dK hi];exact h.I.tr _ (fx hi)
 have key:=gH (step:=HO CC (S.length:Int) (i:Int) k1 k2 k3 l1 k4 k5 k8 k6 k7 (sV R) l2 l3 l4 l5 l6 l7 l8 l9 (iL P) (iL K) l10 l11 l12 l13 l14) (fun j x=>x=((j:Int),tq S i j)) (fun r=>r=((S.length:Int),false,tq S i S.length)) (S.length-1) 1 (1,tq S i 1) (fun j h1 hj x hx=> ?_) (fun x hx=> ?_) rfl
 ·grind
 ·subst hx;have hj:j<S.length:=by omega
  obtain⟨p,x,eP,eK,hp,hx,e⟩:=h.I.p j (by omega) hj;have gj:p<S.length:=by omega
  have htp:Tr n (S.getD p []):=by rw[dK gj];exact h.I.tr _ (fx gj)
  have hm:=h.azV hg hi gj;have hmm:S.getD (eH S i p) []=comp (S.getD i []) (S.getD p []):=by
   rw[dK hm];exact abU (h.amJ hg (by grind) gj)
  have hv:(fM L g S (S.getD (eH S i p) [])).getD x 0=eH S i j:=by
   unfold fM;rw[getD_map (by grind),dK (l:=List.range L) (by grind),P4,hmm];unfold eH b8;rw[acw hfi htp,←e]
  have hrl:(fM L g S (S.getD (eH S i p) [])).length=L:=by simp[fM]
  refine⟨_,?_,rfl⟩;simp only[HO,Ny,un,aL,aG,Int.toNat_natCast];have g1:(wi S i j)[p]? =some (nV (eH S i p)):=by unfold wi;rw[dH gj,aP hp]
  have g2:(wi S i j)[j]? =some (vI 0):=by unfold wi;rw[dH hj,fH]
  refine bT (cF hj) ((aU pX).trans ((aU pX).trans ((aU (yh (by rw[h.I.lP];exact hj))).trans (bs (tm pX) ?_))));rw[eP,V.fa];refine bT (qj (by grind)) (bs (tm pX) ?_);rw[V.fa,show(vI (p:Int)).toInt.toNat=p from rfl];refine bs g1 (bT (qj (by rw[BU,h.row,dD];exact hm)) (bs (by rw[show(nV (eH S i p)).toInt.toNat=eH S i p from rfl];exact h.UJ hm) ((aU (yh (by rw[h.I.lK];exact hj))).trans ?_)));rw[eK,tf];refine bs (qk (i:=x) (by omega)) (bs (tm pX) ?_);rw[V.fa];refine bT (qj (by grind)) (bs (tm pX) ?_);rw[V.fa];refine bs g2 ?_;have rG:(fM L g S (S.getD (eH S i p) []))[x]'(by omega)=eH S i j:=(dK (d:=0) _).symm.trans hv;rw[Nu pX,bY (by omega),←pU hj,rG];rfl
 ·subst hx;have e1:1+(S.length-1)=S.length:=by omega
  rw[e1];refine⟨_,?_,rfl⟩;simp only[HO,Ny,un];grind
end
end
section
variable {L n:Nat}{g:Nat→List Nat}{S:List (List Nat)}{P K:List Int}{R:List (List Nat)}{W:List (List UInt8)}{B:List Int}{s:List Nat}
section
variable (h:ow L n S.length g S P K R W B s)(hg:∀x,x<L→Tr n (g x))
include h
theorem ow.HR:S.getD 0 []=List.range n:=by
 have:=h.I.id;cases S with
 |nil=>cases this
 |cons a S=>grind
theorem mul_zero{i:Nat}(hi:i<S.length):eH S i 0=i:=by
 unfold eH;have:=h.I.tr _ (fx hi);rw[h.HR,dK hi,comp_id this];exact abV h.I.nd hi
theorem azW{k1 k2 k3 k4 k5:Int}{k8:Bool}{l1 l2 l3 l4 l5 l6 l7 l8 l9 l10 l11 l12 l13 l14:LV}:∃f:Nat→List UInt8,
  Loop (Nx CC (S.length:Int) k1 l1 k2 k3 k8 k4 k5 l2 l3 l4 l5 l6 l7 l8 l9 (iL P) (iL K) l10 l11 l12 l13 l14) (1,List.replicate S.length (V.str []),List.replicate S.length (V.bool false))=some ((S.length:Int),false,tab S.length fun j=> .str (f j),mH L g S 0):=by
 have hlen:=h.I.len;have key:=gH (step:=Nx CC (S.length:Int) k1 l1 k2 k3 k8 k4 k5 l2 l3 l4 l5 l6 l7 l8 l9 (iL P) (iL K) l10 l11 l12 l13 l14)
  (fun i x=> ∃f:Nat→List UInt8,x=((i:Int),(tab S.length fun j=>V.str (f j)),tab S.length fun j=>V.bool (decide (0<j∧j<i)))∧∀j,(f j).length≤j)
  (fun r=> ∃f:Nat→List UInt8,r=((S.length:Int),false,(tab S.length fun j=>V.str (f j)),mH L g S 0)) (S.length-1) 1
  (1,List.replicate S.length (V.str []),List.replicate S.length (V.bool false)) (fun i h1 hi x hx=> ?_) (fun x hx=> ?_) ⟨fun _=>[],?_,fun j=>by simp⟩
 ·obtain⟨r,e,f,rfl⟩:=key;exact⟨f,e⟩
 ·obtain⟨f,rfl,hf⟩:=hx;have dO:i<S.length:=by omega
  obtain⟨p,x,eP,eK,hp,hx,_⟩:=h.I.p i (by omega) dO;have gj:p<S.length:=by omega
  have hfp:=hf p;simp only[Nx,Nw,un,aL,aG];refine⟨_,bT (cF dO) ((aU (yh (by rw[h.I.lP];exact dO))).trans ?_),fun j=>if j=i then f p++mu [V.int .u8 (wrap .u8 (wrap .i64 (97+(x:Int))))]else f j,rfl,fun j=> ?_⟩
  ·rw[eP];refine bT (qj (by simp_all)) (bs (by rw[show(vI (p:Int)).toInt.toNat=p from rfl];exact dH gj) ((aU (yh (by rw[h.I.lK];exact dO))).trans ?_));rw[eK];refine bT (AF ?_) ((BR (by simp_all)).trans ((BR (by simp_all)).trans ?_))
   ·show(f p).length+1≤ry;unfold ry;omega
   ·rw[bY (by omega),Int.toNat_natCast,jf,jf];refine congrArg (fun t=>some (Sum.inl t)) (dX rfl (dX (dA fun j _=> ?_) (dA fun j _=> ?_)))
    ·dsimp only;by_cases c:j=i
     all_goals simp_all
    ·by_cases c:j=i
     ·grind
     ·rw[aM c];by_cases c2:0<j∧j<i
      ·grind
      ·rw[cw c2,cw (by omega)]
  ·dsimp only;by_cases c:j=i
   ·rw[aP c,kG];show _+1≤j;omega
   grind
 ·obtain⟨f,rfl,hf⟩:=hx;have e1:1+(S.length-1)=S.length:=by have:=h.I.pos;omega
  rw[e1];simp only[Nx,Nw,un];refine⟨_,bF (cf (aR _)) rfl,f,?_⟩;rw[cf (aR _)];refine dX rfl (dX rfl (dX rfl (dA fun j hj=> ?_)));by_cases c:j=0
  ·rw[aP c,cw (by omega)];exact congrArg V.bool (cw (by omega)).symm
  ·rw[aM c,bj (by omega)]
 ·rw[mG,mG];refine dX rfl (dX rfl (dA fun j _=> ?_));rw[cw (by omega)]
include hg
theorem azX(hL:L≤6){k1 k2 k3 k4 k5:Int}{k8:Bool}{l1 l2 l3 l4 l5 l6 l7 l8 l9 l10 l11 l12 l13:LV}:
  Loop (UG CC (S.length:Int) (S.length:Int) k1 l1 k2 k3 k8 k4 k5 (sV R) l2 l3 l4 l5 l6 l7 l8 l9 (iL P) (iL K) l10 l11 l12 l13) (0,List.replicate S.length (ab ([]:LV)),mH L g S 0)=some ((S.length:Int),false,uQ S S.length,mH L g S S.length):=by
 have hlen:=h.I.len;have ka:=h.I.pos;rw[show List.replicate S.length (ab ([]:LV))=uQ S 0 from by rw[mG];exact dA fun j _=>by rw[fH]];refine gp S.length (fun i=>((i:Int),uQ S i,mH L g S i)) _ (fun i hi=> ?_) ?_
 ·have hl:(mH L g S i).length=S.length:=fi;have hy:(uQ S i).length=S.length:=fi;have e0:(mH L g S i)[0]? =some (.bool (EO L g S i)):=dH ka;have hz:((uQ S i).set i (ab (List.replicate S.length (vI 0))))[i]? =some (ab (List.replicate S.length (vI 0))):=by
   rw[yL (by rw[hy];exact hi)]
  have oO:setRow Tryz.prog ((List.replicate S.length (vI 0)).set 0 (vI (i:Int))) 22 ((uQ S i).set i (ab (List.replicate S.length (vI 0)))) [(i,0)]=tq S i 1:=by
   rw[Nu hz,List.set_set];unfold uQ tq;rw[jf];refine dA fun a _=> ?_;by_cases c:a=i
   ·subst c;rw[gC,fH,gC,mG,jf];refine congrArg _ (dA fun b _=> ?_);by_cases c2:b=0
    ·rw[aP c2,gC,c2,mul_zero h hi];rfl
    ·rw[aM c2,fH]
   ·rw[aM c];by_cases c2:a<i
    ·rw[aP c2,aP c2]
    ·rw[aM c2,aM c2,aM c]
  have nj:tq S i S.length=uQ S (i+1):=dA fun a _=>by
   by_cases c:a=i
   ·subst c;rw[fH,gC,gC]
   ·by_cases c2:a<i
    ·rw[gC,gC]
    ·rw[fH,aM c,fH]
  have gj:∀c:Bool,c=EO L g S (i+1)→(mH L g S i).set 0 (.bool c)=mH L g S (i+1):=fun c hc=>by
   unfold mH;rw[jf];refine dA fun j _=> ?_;by_cases c2:j=0
   ·rw[aP c2,aP c2,hc]
   ·rw[aM c2,aM c2,aM c2]
  have UK:EO L g S (i+1)=(EO L g S i||decide (0∈fM L g S (S.getD i []))):=by
   unfold EO;rw[CI,qw,I9,I9,I9];constructor
   ·rintro⟨a,ha,hm⟩;rcases fR a i with c|c
    ·exact .inl ⟨a,c,hm⟩
    ·exact .inr (by rw[show i=a by omega];exact hm)
   ·rintro(⟨a,ha,hm⟩|hm)
    ·exact⟨a,by omega,hm⟩
    ·exact⟨i,by omega,hm⟩
  simp only[UG,NA,un,aL,aG,Int.toNat_natCast];have HS:∀{l:LV},l.length=S.length→decide (0<(l.length:Int))=true:=fun {l} hl=>bj (by omega);have HT:(decide (0≤(S.length:Int))&&(decide ((S.length:Int)≤(S.length:Int))&&(S.length*8).ble bf))=true:=by
   have:=iB (n:=S.length) (m:=8) (by omega) (by omega);rwa [Int.toNat_natCast]at this
  have Rs:(uQ S i)[i]? =some (ab []):=by unfold uQ;rw[dH hi,fH]
  have hzi:(((uQ S i).set i (ab (List.replicate S.length (vI 0)))).length)=S.length:=by rw[wH,hy]
  have hz0:(List.replicate S.length (vI 0))[0]? =some (vI 0):=by rw[List.getElem?_replicate,aP ka]
  cases hb:EO L g S i with
  |true=>
   rw[hb]at e0 UK;refine bT (cF hi) ((aU (h.UJ hi)).trans (bT (HS hl) (bs e0 (bT rfl (bT (HS hl) (bs e0 (bT HT ((aU Rs).trans ((aU hz).trans (bs (tm hz) ?_))))))))));rw[V.fa];refine bT (HS (by simp)) (bs (tm hz) ?_);rw[V.fa];refine bs hz0 ?_;rw[oO];refine bs (amK h hg hi) ?_;rw[gj true (by rw[UK];rfl),nj,bY (by omega)];rfl
  |false=>
   rw[hb]at e0 UK;have hC:=azU (l:=fM L g S (S.getD i [])) (by rw[fM,dD,qx];omega);refine bT (cF hi) ((aU (h.UJ hi)).trans (bT (HS hl) (bs e0 (bF rfl (bs (by rw[tf];exact hC) (bT (HS hl) (bs e0 (bT HT ((aU Rs).trans ((aU hz).trans (bs (tm hz) ?_)))))))))));rw[V.fa];refine bT (HS (by simp)) (bs (tm hz) ?_);rw[V.fa];refine bs hz0 ?_;rw[oO];refine bs (amK h hg hi) ?_;rw[nj,bY (by omega)];show some (Sum.inl (_,_,(mH L g S i).set 0 (V.bool (decide (0∈fM L g S (S.getD i []))))))=_;rw[gj _ (by rw[UK];rfl)]
 ·simp only[UG,NA,un];refine bF (cf (aR _)) ?_;rw[cf (aR _)]
end
end
end Go.AM
set_option maxRecDepth 100000
namespace Go.AM
open Go.IntKind (wrap)
open Go.Proofs
namespace Da
def NH(a:Da)(k q:Nat):Prop:= ∃w,WL a.L w∧w.length≤k∧a.acc q w=true
def Live(a:Da)(q:Nat):Prop:= ∃w,WL a.L w∧a.acc q w=true
open Classical in
noncomputable def Wn(a:Da)(q:Nat):Bool:=decide (a.Live q)
theorem NH.live{a:Da}{k q:Nat}(h:a.NH k q):a.Live q:=by obtain⟨w,h1,_,h3⟩:=h;exact⟨w,h1,h3⟩
theorem NH.mono{a:Da}{k m q:Nat}(h:a.NH k q)(hk:k≤m):a.NH m q:=by obtain⟨w,h1,h2,h3⟩:=h;exact⟨w,h1,by omega,h3⟩
end Da
def upd(r:Nat→Bool)(p:Nat)(b:Bool)(q:Nat):Bool:=if q=p then b else r q
structure LvI(a:Da)(r0 r:Nat→Bool)(c:Bool):Prop where
 good:∀q,q<a.n→r q=true→a.Live q
 up:∀q,q<a.n→r0 q=true→r q=true
 yes:c=true→∃q,q<a.n∧r0 q=false∧r q=true
 no:c=false→∀q,q<a.n→r q=r0 q
end Go.AM
set_option maxRecDepth 100000
namespace Go.AM
open Go.IntKind (wrap)
open Go.Proofs
theorem tt{a:Da}(h:a.Ok):(minD a).Ok:=(Ah h).ok
theorem Am{a:Da}(h:a.Ok):(minD a).L=a.L:=(Ah h).hL
theorem amL{a:Da}(h:a.Ok):(minD a).st=0:=(Ah h).st
theorem HU{a:Da}(h:a.Ok){w:List Nat}(hw:WL a.L w):(minD a).acc (minD a).st w=a.acc a.st w:=by
 rw[amL h];exact(Ah h).Hv w hw
theorem amM{a b:Da}(ha:a.Ok)(hb:b.Ok)(hL:a.L=b.L)(hl:∀w,WL a.L w→a.acc a.st w=b.acc b.st w):minD a=minD b:=
 amw hb (hL▸Canon.congr (Ah ha) hl)
theorem azY{a:Da}(ha:a.Ok):minD (minD a)=minD a:=
 amM (tt ha) ha (Am ha) fun w hw=>HU ha (by rwa [Am ha]at hw)
noncomputable def EP(C:af)(dp dx:Int)(dJ eE:LV):Option LV:=
 (C 19 [vI dp,vI dx,au dJ,aq eE]).bind fun r1=>
 bif ((gI r1):Int) != 0 then
  some [vI 0,aq ([]:LV),cq ([]:LV),ab ([]:LV),au ([]:LV),au ([]:LV),vI (gI r1)]
 else
  (C 21 [vI dp,vI dx,au dJ,aq eE]).bind fun r2=>
  (C 20 (D7 r2 [vI 0])).bind fun r3=>
  bif ((gI r3):Int) != 0 then
  some [vI 0,aq ([]:LV),cq ([]:LV),ab ([]:LV),au ([]:LV),au ([]:LV),vI (gI r3)]
  else
  (C 22 [vI (dm r3),aq (jT r3),uu (jr r3)]).bind fun r4=>
  bif ((gI ((r4.drop 6).drop 1)):Int) != 0 then
   some [vI 0,aq ([]:LV),cq ([]:LV),ab ([]:LV),au ([]:LV),au ([]:LV),vI (gI ((r4.drop 6).drop 1))]
  else
   ((gL (r4.drop 6))[0]?).bind fun x5=>
   some [vI (gI r4),aq (dw r4),cq (jT r4),ab (jr r4),au x5.toList,au (qR r4),vI 0]
theorem acy{dp dx:Int}{dJ eE:LV}{r:Option LV}(h:EP CC dp dx dJ eE=r):CC 7 [vI dp,vI dx,au dJ,aq eE]=r:=bR (L:=bS) ak h
structure wj(m:Da)(S:List (List Nat)):Prop where
 tr:∀f∈S,Tr m.n f
 nd:S.Nodup
 HR:S.getD 0 []=List.range m.n
 pos:0<S.length
 cl:∀f∈S,∀x,x<m.L→b8 m.gT f x∈S
 re:∀i,i<S.length→∃w,WL m.L w∧S.getD i []=w.foldl (b8 m.gT) (List.range m.n)
 le:S.length≤400
def lC(S:List (List Nat)):LV:=tab S.length fun i=>ab (tab S.length fun j=>nV (eH S i j))
def mI(m:Da)(S:List (List Nat)):LV:=nS (fM m.L m.gT S (List.range m.n))
def nA(m:Da)(S:List (List Nat)):LV:=tab S.length fun i=> .bool (m.fin ((S.getD i []).getD m.st 0))
def ox(m:Da)(S:List (List Nat))(f:Nat→List UInt8):List V:=
 [vI (m.L:Int),aq (lC S),cq (tab S.length fun j=> .str (f j)),ab (mI m S),au (nA m S),au (mH m.L m.gT S S.length)]
def syZ(e:Int):List V:=[vI 0,aq [],cq [],ab [],au [],au [],vI e]
theorem azZ{S:List (List Nat)}:uQ S S.length=lC S:=dA fun i hi=>by
 rw[aP hi];exact congrArg _ (dA fun j hj=>aP hj)
section
variable {m:Da}(h:m.Ok)(qV:m.n≤32)
include h qV
theorem az0{S:List (List Nat)}(hS:∀f∈S,Tr m.n f)(hl:S.length≤400){k1 k2 k3 k4 k5 k6 k7 k8:Int}{k9:Bool}{l1 l2 l3 l4 l5 l6 l7 l8 l9 l10 l11 l12 l13 l14 UL UM l17:LV}:
  Loop (UH CC k1 0 k2 k3 (S.length:Int) k4 l1 k5 k6 k9 k7 k8 (m.st:Int) m.gq 0 l2 (sV S) l3 l4 l5 l6 l7 l8 l9 l10 l11 l12 l13 l14 UL UM l17) (0,[au (List.replicate S.length (V.bool false))])=some ((S.length:Int),false,[au (nA m S)]):=by
 refine EC (fun i a=>((i:Int),[au a])) S.length (fun i=> .bool (m.fin ((S.getD i []).getD m.st 0))) _ (by simp) (fun a=>((S.length:Int),false,[au a])) (fun i hi a ha=> ?_) ?_
 ·simp only[UH,NB,un,aL,aG];have e0:([au a]:LV)[0]? =some (au a):=rfl;refine bT (cF hi) ((aU (MR hi)).trans ((aU (i:=0) e0).trans (bs (by rw[tf];exact azG h qV (hS _ (fx hi))) (bs (tn e0) ?_))));rw[V.fa];refine bT (qj (by omega)) (bs (tn e0) ?_);rw[V.fa,Int.toNat_natCast];refine bs (cv (by omega)) ?_;rw[bY (by omega),dK hi];exact congrArg (fun t=>some (Sum.inl (((i+1:Nat):Int),t))) (UC e0)
 ·simp only[UH,NB,un];grind
theorem az1:∃r,CC 22 [vI (m.n:Int),aq (gV m.L m.gT),uu (wh m)]=some r∧
  ((r=[vI 0,aq [],cq [],ab [],au [],au [],bd [],vI 3,vI (m.n:Int),aq (gV m.L m.gT),uu (wh m)]∧acx m.L m.n m.gT)∨
   ∃S,∃f:Nat→List UInt8,r=[vI (m.L:Int),aq (lC S),cq (tab S.length fun j=> .str (f j)),ab (mI m S),au [],au (mH m.L m.gT S S.length),bd [au (nA m S)],vI 0,vI (m.n:Int),aq (gV m.L m.gT),uu (wh m)]∧wj m S):=by
 have hs:=h.s;have hL:=h.l6;have hg:∀x,x<m.L→Tr m.n (m.gT x):=fun x hx=>h.gT hx;obtain⟨r,e1,h1⟩:=ayT (n:=m.n) (by omega) qV hg h.l1 h.l6;have fin:∀z,NG CC (m.n:Int) (gV m.L m.gT) (wh m)=z→CC 22 [vI (m.n:Int),aq (gV m.L m.gT),uu (wh m)]=z:=fun z h=>azT h;rcases h1 with⟨rfl,T,t1,t2,t3⟩|⟨S,P,K,R,W,B,s,U,rfl,hE⟩
 ·refine⟨_,fin _ ?_,.inl ⟨rfl,T,t1,t2,by omega⟩⟩;unfold NG;exact bs e1 (bT rfl rfl)
 ·rcases fR 400 S.length with c|c
  ·refine⟨_,fin _ ?_,.inl ⟨rfl,S,hE.I.nd,fun f hf=>⟨hE.I.tr f hf,hE.I.wd hf⟩,c⟩⟩;unfold NG;exact bs e1 (bF rfl (bT (by show decide ((((sV S).length:Nat):Int)>400)=true;rw[BU];grind) rfl))
  ·have ka:=hE.I.pos;obtain⟨f,e2⟩:=azW (L:=m.L) (g:=m.gT) hE (k1:=(m.n:Int)) (k2:=0) (k3:=(m.n:Int)) (k4:=(S.length:Int)) (k5:=((gV m.L m.gT).length:Int)) (k8:=true) (l1:=gV m.L m.gT) (l2:=wh m) (l3:=[]) (l4:=[]) (l5:=[]) (l6:=[]) (l7:=[]) (l8:=gV m.L m.gT) (l9:=sV S) (l10:=sV R) (l11:=U) (l12:=List.replicate S.length (ab [])) (l13:=mI m S) (l14:=[]);refine⟨_,fin _ ?_,.inr ⟨S,f,rfl,hE.I.tr,hE.I.nd,hE.HR,ka,fun f hf x hx=>hE.cl' hf hx,fun i hi=>hE.word hi,c⟩⟩;unfold NG;refine bs e1 (bF rfl (bF (by show decide ((((sV S).length:Nat):Int)>400)=false;rw[BU];grind) ?_));have nj:(sV R)[0]? =some (tV (fM m.L m.gT S (List.range m.n))):=by rw[hE.UJ ka,hE.HR]
   have hRl:(sV R).length=S.length:=by rw[BU,hE.row,dD]
   have e3:=azX hE hg hL (k1:=(m.n:Int)) (k2:=0) (k3:=(m.n:Int)) (k4:=(S.length:Int)) (k5:=((gV m.L m.gT).length:Int)) (k8:=true) (l1:=gV m.L m.gT) (l2:=wh m) (l3:=[]) (l4:=[]) (l5:=[]) (l6:=[]) (l7:=[]) (l8:=gV m.L m.gT) (l9:=sV S) (l10:=U) (l11:=tab S.length fun j=> .str (f j)) (l12:=mI m S) (l13:=[]);have e4:∀{k1 k2 k3 k4 k5:Int} {k8:Bool} {l1 l2 l3 l4 l5 l6 l7 l8 l9 l10 l11 l12 l13 l14 UL UM:LV},Loop (UI CC (S.length:Int) 1 k1 l1 k2 k3 k8 k4 k5 (wh m) l2 l3 l4 l5 l6 l7 (sV S) l8 l9 l10 l11 l12 l13 l14 UL UM) (0,[au []])=some (1,false,[au (nA m S)]):=by
    intro k1 k2 k3 k4 k5 k8 l1 l2 l3 l4 l5 l6 l7 l8 l9 l10 l11 l12 l13 l14 UL UM;refine gp 1 (fun i=>((i:Int),if i=0 then [au []]else [au (nA m S)])) _ (fun i hi=> ?_) ?_
    ·obtain rfl:i=0:=by omega
     simp only[UI,NC,un,aL,aG];refine bT rfl ((aU (es:=wh m) (i:=0) rfl).trans (bT (iB (by omega) (by omega)) ((aU (i:=0) (v:=au []) rfl).trans ?_)));rw[BU];exact bs (az0 h qV hE.I.tr c) rfl
    ·simp only[UI,NC,un];rfl
   have HT:∀k,k≤1000→(decide (0≤(S.length:Int))&&(decide ((S.length:Int)≤(S.length:Int))&&(S.length*k).ble bf))=true:=fun k hk=>by
    have:=iB (n:=S.length) (m:=k) (by omega) hk;grind
   have gk:(nS (fM m.L m.gT S (List.range m.n))).length≤6:=by rw[ff,fM,dD,qx];exact hL
   simp only[PU,wF,V.jE,V.fa,V.toInt_int,V.Yp,BU,Int.toNat_natCast,gI,gL,gB,gS,js,mR,vR,uy,BB,dm,jo,uw,LB,G2,dw,jT,ux,nq,s6,jr,oq,qR,sW,sX,sY,sZ,vQ,G1,GZ,G0,xP,xQ,xR,vM,vN,xS,vO,vP,xT,xU,jq,oR,uv,G3,D6,Lu,Lv,Lt,Lw,lx,Lx,Ly,BA,LA];refine bT (HT 24 (by omega)) (bT (HT 16 (by omega)) (bT (bj (by simp_all)) (bs nj (bT (by rw[tf];exact cap (b:=0) (by omega) (by omega)) (bT (HT 1 (by omega)) ?_)))));rw[tf];refine bs e2 ?_;rw[show R.length=S.length by simp_all];refine bs e3 ?_;simp only[un];rw[show(wh m).length=1 from rfl];refine bT (iB (n:=1) (by omega) (by omega)) (bs e4 ?_);rw[azZ,show(gV m.L m.gT).length=m.L from fi];rfl
end
theorem az2{a:Da}(h:a.Ok)(qV:(minD a).n≤32):(CC 7 (iC a)=some (syZ 3)∧acx (minD a).L (minD a).n (minD a).gT)∨∃S,∃f:Nat→List UInt8,CC 7 (iC a)=some (ox (minD a) S f++[vI 0])∧wj (minD a) S:=by
 have hm:=tt h;obtain⟨r,e,h1⟩:=az1 hm qV;have fin:∀z,EP CC (a.L:Int) (a.st:Int) a.gq a.ia=z→CC 7 (iC a)=z:=fun z h=>acy h;rcases h1 with⟨rfl,hb⟩|⟨S,f,rfl,hS⟩
 ·refine .inl ⟨fin _ ?_,hb⟩;unfold EP;exact bs (BQ h) (bF rfl (bs (Ux h) (bs (amE hm qV) (bF rfl (bs e (bT rfl rfl))))))
 ·refine .inr ⟨S,f,fin _ ?_,hS⟩;unfold EP;refine bs (BQ h) (bF rfl (bs (Ux h) (bs (amE hm qV) (bF rfl (bs e (bF rfl (bs (a:=au (nA (minD a) S)) rfl ?_)))))));rw[V.fa];rfl
def GV(L:Nat)(ns:List Nd):Prop:= ∀(i:Nat) d,ns[i]? =some d→d.Ok L i
def lD(ns:List Nd):Nat→Nat→List Nat→Prop
 |0,_,_=>False
 |n+1,i,w=>
  match ns[i]? with
  |none=>False
  |some d=>
   if d.op=2 then w=[]else if d.op=3 then w=[d.x]else if d.op=4 then True
   else if d.op=5 then lD ns n d.a w∨lD ns n d.b w
   else if d.op=6 then lD ns n d.a w∧lD ns n d.b w
   else if d.op=7 then∃u v,w=u++v∧lD ns n d.a u∧lD ns n d.b v
   else if d.op=8 then¬lD ns n d.a w else False
def lg(ns:List Nd)(i:Nat)(w:List Nat):Prop:=lD ns (i+1) i w
theorem amN{L:Nat}{ns:List Nd}(hv:GV L ns):∀(n m i:Nat),i<n→i<m→lD ns n i=lD ns m i:=by
 intro n
 induction n with
 |zero=>intro m i h;omega
 |succ n ih=>
  intro m i h1 h2;obtain⟨m,rfl⟩:∃k,m=k+1:=⟨m-1,by omega⟩
  funext w;unfold lD;cases hx:ns[i]? with
  |none=>rfl
  |some d=>
   have ok:=hv i d hx;have ha:5≤d.op→lD ns n d.a=lD ns m d.a:=fun h=>by
    have:=ok.a1 h;exact ih m _ (by omega) (by omega)
   have hb:5≤d.op→d.op≠8→lD ns n d.b=lD ns m d.b:=fun h h'=>by
    have:=ok.b1 h h';exact ih m _ (by omega) (by omega)
   simp only;by_cases h5:d.op=5
   ·simp[h5,ha (by omega),hb (by omega) (by omega)]
   by_cases h6:d.op=6
   ·simp[h6,ha (by omega),hb (by omega) (by omega)]
   by_cases h7:d.op=7
   ·simp[h7,ha (by omega),hb (by omega) (by omega)]
   by_cases h8:d.op=8
   ·simp[h8,ha (by omega)]
   simp[h5,h6,h7,h8]
theorem yo{L:Nat}{ns:List Nd}(hv:GV L ns){i:Nat}{d:Nd}(hx:ns[i]? =some d)(w:List Nat):
  lg ns i w=if d.op=2 then w=[]else if d.op=3 then w=[d.x]else if d.op=4 then True
   else if d.op=5 then lg ns d.a w∨lg ns d.b w
   else if d.op=6 then lg ns d.a w∧lg ns d.b w
   else if d.op=7 then∃u v,w=u++v∧lg ns d.a u∧lg ns d.b v
   else if d.op=8 then¬lg ns d.a w else False:=by
 have ok:=hv i d hx;have ha:5≤d.op→lD ns i d.a=lg ns d.a:=fun h=>by
  have:=ok.a1 h;exact amN hv _ _ _ (by omega) (by omega)
 have hb:5≤d.op→d.op≠8→lD ns i d.b=lg ns d.b:=fun h h'=>by
  have:=ok.b1 h h';exact amN hv _ _ _ (by omega) (by omega)
 conv=>lhs;unfold lg lD
 rw[hx];simp only;by_cases h5:d.op=5
 ·simp[h5,ha (by omega),hb (by omega) (by omega)]
 by_cases h6:d.op=6
 ·simp[h6,ha (by omega),hb (by omega) (by omega)]
 by_cases h7:d.op=7
 ·simp[h7,ha (by omega),hb (by omega) (by omega)]
 by_cases h8:d.op=8
 ·simp[h8,ha (by omega)]
 simp[h5,h6,h7,h8]
section
variable {L:Nat}{ns:List Nd}(hv:GV L ns){i a b:Nat}
include hv
theorem acz{x y z:Nat}(h:ns[i]? =some ⟨1,x,y,z⟩)(w:List Nat):lg ns i w↔False:=by rw[yo hv h];simp
theorem amO{x y z:Nat}(h:ns[i]? =some ⟨2,x,y,z⟩)(w:List Nat):lg ns i w↔w=[]:=by rw[yo hv h];simp
theorem NI{x y z:Nat}(h:ns[i]? =some ⟨3,x,y,z⟩)(w:List Nat):lg ns i w↔w=[x]:=by rw[yo hv h];simp
theorem acA{x y z:Nat}(h:ns[i]? =some ⟨4,x,y,z⟩)(w:List Nat):lg ns i w↔True:=by rw[yo hv h];simp
theorem acB{x:Nat}(h:ns[i]? =some ⟨5,x,a,b⟩)(w:List Nat):lg ns i w↔lg ns a w∨lg ns b w:=by rw[yo hv h];simp
theorem acC{x:Nat}(h:ns[i]? =some ⟨6,x,a,b⟩)(w:List Nat):lg ns i w↔lg ns a w∧lg ns b w:=by rw[yo hv h];simp
theorem acD{x:Nat}(h:ns[i]? =some ⟨7,x,a,b⟩)(w:List Nat):lg ns i w↔∃u v,w=u++v∧lg ns a u∧lg ns b v:=by rw[yo hv h];simp
theorem acE{x y:Nat}(h:ns[i]? =some ⟨8,x,a,y⟩)(w:List Nat):lg ns i w↔¬lg ns a w:=by rw[yo hv h];simp
end
structure Xt(L:Nat)(ns ms:List Nd)(k:Nat):Prop where
 v:GV L ms
 p:ns <+: ms
 l:ms.length≤ns.length+k
theorem Xt.refl{L:Nat}{ns:List Nd}(h:GV L ns){k:Nat}:Xt L ns ns k:=⟨h,List.prefix_refl _,Nat.le_add_right _ _⟩
theorem Xt.trans{L:Nat}{a b c:List Nd}{k m:Nat}(h1:Xt L a b k)(h2:Xt L b c m):Xt L a c (k+m):=⟨h2.v,h1.p.trans h2.p,by have:=h1.l;have:=h2.l;omega⟩
theorem Xt.mono{L:Nat}{a b:List Nd}{k m:Nat}(h:Xt L a b k)(hk:k≤m):Xt L a b m:=⟨h.v,h.p,by have:=h.l;omega⟩
theorem Xt.le{L:Nat}{a b:List Nd}{k:Nat}(h:Xt L a b k):a.length≤b.length:=h.p.length_le
theorem az3{L:Nat}{ns ms:List Nd}(hp:ns <+: ms)(h1:GV L ns):∀(n i:Nat),i<ns.length→lD ms n i=lD ns n i:=by
 intro n
 induction n with
 |zero=>intro i _;rfl
 |succ n ih=>
  intro i hi;funext w;unfold lD;have e:ms[i]? =ns[i]? :=by
   obtain⟨t,rfl⟩:=hp;exact o6 hi
  rw[e];cases hx:ns[i]? with
  |none=>rfl
  |some d=>
   have ok:=h1 i d hx;have ha:5≤d.op→lD ms n d.a=lD ns n d.a:=fun h=>by
    have:=ok.a1 h;exact ih _ (by omega)
   have hb:5≤d.op→d.op≠8→lD ms n d.b=lD ns n d.b:=fun h h'=>by
    have:=ok.b1 h h';exact ih _ (by omega)
   simp only;by_cases h5:d.op=5
   ·simp[h5,ha (by omega),hb (by omega) (by omega)]
   by_cases h6:d.op=6
   ·simp[h6,ha (by omega),hb (by omega) (by omega)]
   by_cases h7:d.op=7
   ·simp[h7,ha (by omega),hb (by omega) (by omega)]
   by_cases h8:d.op=8
   ·simp[h8,ha (by omega)]
   simp[h5,h6,h7,h8]
theorem Xt.lg{L:Nat}{ns ms:List Nd}{k:Nat}(h:Xt L ns ms k)(hv:GV L ns){i:Nat}(hi:i<ns.length):lg ms i=lg ns i:=az3 h.p hv _ i hi
noncomputable def UN(C:af)(gJ lE iF iR bJ:Int)(bC bK bh bL bM bH bI bD bE aE ao aj:LV):Option LV:=
 bif (dE .i64 gJ&&(dE .i64 lE&&(dE .i64 iF&&(dE .i64 iR&&true))))&&true then
  bif !(gD (.agg [vI gJ,vI lE,vI iF,vI iR]) ao)then
  bif (dE .i64 gJ&&(dE .i64 lE&&(dE .i64 iF&&(dE .i64 iR&&true))))&&true then
   bif Nat.ble ((aE.length+([.agg [vI gJ,vI lE,vI iF,vI iR]]:LV).length)*32) bf then
   some [vI (aE.length:Int),vI bJ,aq bC,cq bK,ab bh,au bL,au bM,bd bH,bd bI,bd bD,ab bE,fK (kJ (.agg [vI gJ,vI lE,vI iF,vI iR]) (vI (aE.length:Int)) ao),ab aj,cz (aE++([.agg [vI gJ,vI lE,vI iF,vI iR]]:LV))]
   else none
  else none
  else
  some [vI ((mq (.agg [vI gJ,vI lE,vI iF,vI iR]) ao (vI 0)).toInt),vI bJ,aq bC,cq bK,ab bh,au bL,au bM,bd bH,bd bI,bd bD,ab bE,fK ao,ab aj,cz aE]
 else none
theorem az4{gJ lE iF iR bJ:Int}{bC bK bh bL bM bH bI bD bE aE ao aj:LV}{r:Option LV}(h:UN CC gJ lE iF iR bJ bC bK bh bL bM bH bI bD bE aE ao aj=r):CC 74 [vI gJ,vI lE,vI iF,vI iR,vI bJ,aq bC,cq bK,ab bh,au bL,au bM,bd bH,bd bI,bd bD,ab bE,cz aE,fK ao,ab aj]=r:=bR (L:=bS) ak h
noncomputable def acF(C:af)(bJ:Int)(bC bK bh bL bM bH bI bD bE aE ao aj:LV):Option LV:=
 (C 74 [vI 4,vI 0,vI 0,vI 0,vI bJ,aq bC,cq bK,ab bh,au bL,au bM,bd bH,bd bI,bd bD,ab bE,cz aE,fK ao,ab aj]).bind fun r1=>
 some (vI (gI r1)::(kh r1 (zN r1 [])))
theorem az5{bJ:Int}{bC bK bh bL bM bH bI bD bE aE ao aj:LV}{r:Option LV}(h:acF CC bJ bC bK bh bL bM bH bI bD bE aE ao aj=r):CC 71 [vI bJ,aq bC,cq bK,ab bh,au bL,au bM,bd bH,bd bI,bd bD,ab bE,cz aE,fK ao,ab aj]=r:=bR (L:=bS) ak h
noncomputable def acG(C:af)(a bJ:Int)(bC bK bh bL bM bH bI bD bE aE ao aj:LV):Option LV:=
 (C 74 [vI 3,vI a,vI 0,vI 0,vI bJ,aq bC,cq bK,ab bh,au bL,au bM,bd bH,bd bI,bd bD,ab bE,cz aE,fK ao,ab aj]).bind fun r1=>
 some (vI (gI r1)::(kh r1 (zN r1 [])))
theorem az6{a bJ:Int}{bC bK bh bL bM bH bI bD bE aE ao aj:LV}{r:Option LV}(h:acG CC a bJ bC bK bh bL bM bH bI bD bE aE ao aj=r):CC 68 [vI a,vI bJ,aq bC,cq bK,ab bh,au bL,au bM,bd bH,bd bI,bd bD,ab bE,cz aE,fK ao,ab aj]=r:=bR (L:=bS) ak h
noncomputable def acH(C:af)(x y bJ:Int)(bC bK bh bL bM bH bI bD bE aE ao aj:LV):Option LV:=
 (C 74 [vI 7,vI 0,vI x,vI y,vI bJ,aq bC,cq bK,ab bh,au bL,au bM,bd bH,bd bI,bd bD,ab bE,cz aE,fK ao,ab aj]).bind fun r1=>
 some (vI (gI r1)::(kh r1 (zN r1 [])))
theorem az7{x y bJ:Int}{bC bK bh bL bM bH bI bD bE aE ao aj:LV}{r:Option LV}(h:acH CC x y bJ bC bK bh bL bM bH bI bD bE aE ao aj=r):CC 70 [vI x,vI y,vI bJ,aq bC,cq bK,ab bh,au bL,au bM,bd bH,bd bI,bd bD,ab bE,cz aE,fK ao,ab aj]=r:=bR (L:=bS) ak h
noncomputable def acI(C:af)(x y bJ:Int)(bC bK bh bL bM bH bI bD bE aE ao aj:LV):Option LV:=
 (C 74 [vI 6,vI 0,vI x,vI y,vI bJ,aq bC,cq bK,ab bh,au bL,au bM,bd bH,bd bI,bd bD,ab bE,cz aE,fK ao,ab aj]).bind fun r1=>
 some (vI (gI r1)::(kh r1 (zN r1 [])))
theorem az8{x y bJ:Int}{bC bK bh bL bM bH bI bD bE aE ao aj:LV}{r:Option LV}(h:acI CC x y bJ bC bK bh bL bM bH bI bD bE aE ao aj=r):CC 72 [vI x,vI y,vI bJ,aq bC,cq bK,ab bh,au bL,au bM,bd bH,bd bI,bd bD,ab bE,cz aE,fK ao,ab aj]=r:=bR (L:=bS) ak h
theorem Nd.An(a b:Nd):jO a.v b.v=decide (a=b):=by
 obtain⟨o,x,y,z⟩:=a;obtain⟨o',x',y',z'⟩:=b;simp only[Nd.v,jO,V.cells,qy,wR,CF];rw[CI];simp only[bc,beq_iff_eq,il,Nd.mk.injEq];omega
structure BC where
 L:Int
 t:LV
 w:LV
 im:LV
 ac:LV
 pl:LV
 rt:LV
 lf:LV
 tw:LV
 od:LV
def BC.i(c:BC)(ns:List Nd)(o:LV):LV:=[vI c.L,aq c.t,cq c.w,ab c.im,au c.ac,au c.pl,bd c.rt,bd c.lf,bd c.tw,ab c.od,cz (ns.map Nd.v),fK (cO Nd.v 0 ns),ab o]
def BC.o(c:BC)(ns:List Nd)(o:LV):LV:=[vI c.L,aq c.t,cq c.w,ab c.im,au c.ac,au c.pl,bd c.rt,bd c.lf,bd c.tw,ab c.od,fK (cO Nd.v 0 ns),ab o,cz (ns.map Nd.v)]
section
variable {c:BC}{L:Nat}{ns:List Nd}{o:LV}(hv:GV L ns)(hn:ns.length≤1000000)(hL:L≤6)
include hv hn hL
theorem ER{d:Nd}(hd:d.Ok L ns.length):∃(i:Nat) (ms:List Nd),CC 74 (vI (d.op:Int)::vI (d.x:Int)::vI (d.a:Int)::vI (d.b:Int)::c.i ns o)=some (vI (i:Int)::c.o ms o)∧Xt L ns ms 1∧ms[i]? =some d:=by
 have fin:∀z,UN CC (d.op:Int) (d.x:Int) (d.a:Int) (d.b:Int) c.L c.t c.w c.im c.ac c.pl c.rt c.lf c.tw c.od (ns.map Nd.v) (cO Nd.v 0 ns) o=z→CC 74 (vI (d.op:Int)::vI (d.x:Int)::vI (d.a:Int)::vI (d.b:Int)::c.i ns o)=z:=fun z h=>az4 h;have o8:=hd.o8;have hx:d.x≤6:=by
  by_cases h:d.op=3
  ·have:=hd.x1 h;omega
  ·rw[hd.x0 h];omega
 have ha:d.a≤ns.length:=by
  by_cases h:5≤d.op
  ·exact IT (hd.a1 h)
  ·rw[hd.a0 (by omega)];omega
 have hb:d.b≤ns.length:=by
  by_cases h:5≤d.op∧d.op≠8
  ·exact IT (hd.b1 h.1 h.2)
  ·rw[hd.b0 (by omega)];omega
 have k1:((dE .i64 (d.op:Int)&&(dE .i64 (d.x:Int)&&(dE .i64 (d.a:Int)&&(dE .i64 (d.b:Int)&&true))))&&true)=true:=by
  rw[te (by omega),te (by omega),te (by omega),te (by omega)];rfl
 by_cases h:d∈ns
 ·have e1:gD d.v (cO Nd.v 0 ns)=true:=(Ey Nd.An d ns 0).trans (bj h)
  have e2:=MB Nd.An d (vI 0) ns 0 h;rw[cL]at e2;refine⟨ns.idxOf d,ns,fin _ ?_,Xt.refl hv,?_⟩
  ·unfold UN;refine bT k1 (bF (by rw[show V.agg [vI (d.op:Int),vI (d.x:Int),vI (d.a:Int),vI (d.b:Int)]=d.v from rfl,e1];rfl) ?_);rw[show V.agg [vI (d.op:Int),vI (d.x:Int),vI (d.a:Int),vI (d.b:Int)]=d.v from rfl,e2];rfl
  ·have bO:=List.idxOf_lt_length_iff.2 h;rw[cv bO,I8]
 ·have e1:gD d.v (cO Nd.v 0 ns)=false:=(Ey Nd.An d ns 0).trans (cw h)
  have e2:=MC Nd.An d ns 0 h;rw[cL]at e2;refine⟨ns.length,ns++[d],fin _ ?_,⟨fun i z hz=> ?_,Ja _ _,by simp⟩,by simp⟩
  ·unfold UN;refine bT k1 (bT (by rw[show V.agg [vI (d.op:Int),vI (d.x:Int),vI (d.a:Int),vI (d.b:Int)]=d.v from rfl,e1];rfl) (bT k1 (bT (by rw[fG,zU];simp;omega) ?_)));rw[show V.agg [vI (d.op:Int),vI (d.x:Int),vI (d.a:Int),vI (d.b:Int)]=d.v from rfl,dD,e2];simp[BC.o]
  ·rcases fR i ns.length with hi|hi
   ·rw[o6 hi]at hz;exact hv i z hz
   ·rw[qv hi]at hz;have:i=ns.length:=by
     have:=(cP.1 hz).1;simp at this;omega
    subst this;simp at hz;subst hz;exact hd
theorem UO:∃(i:Nat) (ms:List Nd),CC 71 (c.i ns o)=some (vI (i:Int)::c.o ms o)∧Xt L ns ms 1∧i<ms.length∧∀w,lg ms i w:=by
 obtain⟨i,ms,e,h1,h2⟩:=ER (c:=c) (o:=o) hv hn hL (d:=⟨4,0,0,0⟩) ⟨by simp,by simp,by simp,by simp,by simp,by simp,by simp,by simp⟩;refine⟨i,ms,?_,h1,(cP.1 h2).1,fun w=>(acA h1.v h2 w).2 trivial⟩;have fin:∀z,acF CC c.L c.t c.w c.im c.ac c.pl c.rt c.lf c.tw c.od (ns.map Nd.v) (cO Nd.v 0 ns) o=z→CC 71 (c.i ns o)=z:=fun z h=>az5 h;exact fin _ (by unfold acF;exact bs e rfl)
theorem HV{a:Nat}(ha:a<L):∃(i:Nat) (ms:List Nd),CC 68 (vI (a:Int)::c.i ns o)=some (vI (i:Int)::c.o ms o)∧Xt L ns ms 1∧i<ms.length∧∀w,lg ms i w↔w=[a]:=by
 obtain⟨i,ms,e,h1,h2⟩:=ER (c:=c) (o:=o) hv hn hL (d:=⟨3,a,0,0⟩) ⟨by simp,by simp,by simpa using ha,by simp,by simp,by simp,by simp,by simp⟩;refine⟨i,ms,?_,h1,(cP.1 h2).1,fun w=>NI h1.v h2 w⟩;have fin:∀z,acG CC (a:Int) c.L c.t c.w c.im c.ac c.pl c.rt c.lf c.tw c.od (ns.map Nd.v) (cO Nd.v 0 ns) o=z→CC 68 (vI (a:Int)::c.i ns o)=z:=fun z h=>az6 h;exact fin _ (by unfold acG;exact bs e rfl)
theorem B5{a b:Nat}(ha:a<ns.length)(hb:b<ns.length):∃(i:Nat) (ms:List Nd),CC 70 (vI (a:Int)::vI (b:Int)::c.i ns o)=some (vI (i:Int)::c.o ms o)∧Xt L ns ms 1∧i<ms.length∧∀w,lg ms i w↔∃u v,w=u++v∧lg ns a u∧lg ns b v:=by
 obtain⟨i,ms,e,h1,h2⟩:=ER (c:=c) (o:=o) hv hn hL (d:=⟨7,0,a,b⟩) ⟨by simp,by simp,by simp,by simp,by simpa using ha,by simp,by simpa using hb,by simp⟩;refine⟨i,ms,?_,h1,(cP.1 h2).1,fun w=>by rw[acD h1.v h2 w,h1.lg hv ha,h1.lg hv hb]⟩;have fin:∀z,acH CC (a:Int) (b:Int) c.L c.t c.w c.im c.ac c.pl c.rt c.lf c.tw c.od (ns.map Nd.v) (cO Nd.v 0 ns) o=z→CC 70 (vI (a:Int)::vI (b:Int)::c.i ns o)=z:=fun z h=>az7 h;exact fin _ (by unfold acH;exact bs e rfl)
theorem amP{a b:Nat}(ha:a<ns.length)(hb:b<ns.length):∃(i:Nat) (ms:List Nd),CC 72 (vI (a:Int)::vI (b:Int)::c.i ns o)=some (vI (i:Int)::c.o ms o)∧Xt L ns ms 1∧i<ms.length∧∀w,lg ms i w↔lg ns a w∧lg ns b w:=by
 obtain⟨i,ms,e,h1,h2⟩:=ER (c:=c) (o:=o) hv hn hL (d:=⟨6,0,a,b⟩) ⟨by simp,by simp,by simp,by simp,by simpa using ha,by simp,by simpa using hb,by simp⟩;refine⟨i,ms,?_,h1,(cP.1 h2).1,fun w=>by rw[acC h1.v h2 w,h1.lg hv ha,h1.lg hv hb]⟩;have fin:∀z,acI CC (a:Int) (b:Int) c.L c.t c.w c.im c.ac c.pl c.rt c.lf c.tw c.od (ns.map Nd.v) (cO Nd.v 0 ns) o=z→CC 72 (vI (a:Int)::vI (b:Int)::c.i ns o)=z:=fun z h=>az8 h;exact fin _ (by unfold acI;exact bs e rfl)
end
noncomputable def NJ(C:af)(t18:LV)(t19 x t20 bJ:Int)(bC bK bh bL bM bH bI bD bE ao aj aS:LV){β:Type}(kn:ay (Int×Int×Int×LV×LV×LV×LV×LV×LV×LV×LV×LV×LV×LV×LV) β)(kr:ay (Int×Int×Bool×Int×LV×LV×LV×LV×LV×LV×LV×LV×LV×LV×LV×LV) β):Option β:=
 bif decide (t20<t19)then
  (idx t18 t20).bind fun x3=>
  (C 74 [vI 5,vI 0,vI x,vI x3.toInt,vI bJ,aq bC,cq bK,ab bh,au bL,au bM,bd bH,bd bI,bd bD,ab bE,cz aS,fK ao,ab aj]).bind fun r4=>
  kn ((gI r4),wrap .i64 (t20+1),(dm r4),(jT r4),(jr r4),(oq r4),(qR r4),(sW r4),(sX r4),(sY r4),(sZ r4),(vQ r4),(ux r4),(nq r4),(s6 r4))
 else
  kr (x,t20,decide (t20<t19),bJ,bC,bK,bh,bL,bM,bH,bI,bD,bE,ao,aj,aS)
noncomputable def UP(C:af)(t18:LV)(t19:Int):=un fun x=>un fun t20=>un fun bJ=>un fun bC=>un fun bK=>un fun bh=>un fun bL=>un fun bM=>un fun bH=>un fun bI=>un fun bD=>un fun bE=>un fun ao=>un fun aj aS=>NJ C t18 t19 x t20 bJ bC bK bh bL bM bH bI bD bE ao aj aS ct cu
noncomputable def az9(C:af):da:=cm 81 ZV (aN 17 131065) [[0,2,3,0,0,0,0,0,0,0,0,0,0,0,0,0,0,0]] (@NJ C) bS
theorem aAa(C:af):bt C (az9 C) 27 (Lp [1,1,1,0,1,0,0] 27):=cj ZV (aN 17 131065) [[0,2,3,0,0,0,0,0,0,0,0,0,0,0,0,0,0,0]] (@NJ C) (aY ak)
noncomputable def UQ(C:af)(nodes:LV)(bJ:Int)(bC bK bh bL bM bH bI bD bE aE ao aj:LV):Option LV:=
 bif (nodes.length:Int)==0 then
  (C 74 [vI 1,vI 0,vI 0,vI 0,vI bJ,aq bC,cq bK,ab bh,au bL,au bM,bd bH,bd bI,bd bD,ab bE,cz aE,fK ao,ab aj]).bind fun r1=>
  some (vI (gI r1)::(kh r1 (zN r1 [])))
 else
  (nodes[0]?).bind fun x2=>
  bif decide (1≤(nodes.length:Int))then
  (Loop (UP C ((nodes.drop 1).take (nodes.length-1)) (((nodes.drop 1).take (nodes.length-1)).length:Int)) (x2.toInt,0,bJ,bC,bK,bh,bL,bM,bH,bI,bD,bE,ao,aj,aE)).bind (un fun uR=>un fun uE=>un fun(v7:Bool)=>un fun z8=>un fun(B6:LV)=>un fun(B7:LV)=>un fun(B8:LV)=>un fun(B9:LV)=>un fun(Cc:LV)=>un fun(Ce:LV)=>un fun(uS:LV)=>un fun(uT:LV)=>un fun(uU:LV)=>un fun(lz:LV)=>un fun(sf:LV) (yj:LV)=>
   some [vI uR,vI z8,aq B6,cq B7,ab B8,au B9,au Cc,bd Ce,bd uS,bd uT,ab uU,fK lz,ab sf,cz yj])
  else none
theorem aAb{nodes:LV}{bJ:Int}{bC bK bh bL bM bH bI bD bE aE ao aj:LV}{r:Option LV}(h:UQ CC nodes bJ bC bK bh bL bM bH bI bD bE aE ao aj=r):CC 27 [ab nodes,vI bJ,aq bC,cq bK,ab bh,au bL,au bM,bd bH,bd bI,bd bD,ab bE,cz aE,fK ao,ab aj]=r:=bR (br (aAa CC) ak) h
noncomputable def UR(C:af)(nodes:LV)(bJ:Int)(bC bK bh bL bM bH bI bD bE aE ao aj:LV):Option LV:=
 bif (nodes.length:Int)==0 then
  (C 71 [vI bJ,aq bC,cq bK,ab bh,au bL,au bM,bd bH,bd bI,bd bD,ab bE,cz aE,fK ao,ab aj]).bind fun r1=>
  some (vI (gI r1)::(kh r1 (zN r1 [])))
 else
  (C 71 [vI bJ,aq bC,cq bK,ab bh,au bL,au bM,bd bH,bd bI,bd bD,ab bE,cz aE,fK ao,ab aj]).bind fun r2=>
  (C 27 (ab nodes::(kh r2 (oS r2 [])))).bind fun r3=>
  (C 71 (kh r3 (oS r3 []))).bind fun r4=>
  (C 70 (vI (gI r3)::(vI (gI r4)::(kh r4 (oS r4 []))))).bind fun r5=>
  (C 70 (vI (gI r2)::(vI (gI r5)::(kh r5 (oS r5 []))))).bind fun r6=>
  (C 74 (vI 8::(vI 0::(vI (gI r6)::(vI 0::(kh r6 (oS r6 []))))))).bind fun r7=>
  some (vI (gI r7)::(kh r7 (zN r7 [])))
theorem aAc{nodes:LV}{bJ:Int}{bC bK bh bL bM bH bI bD bE aE ao aj:LV}{r:Option LV}(h:UR CC nodes bJ bC bK bh bL bM bH bI bD bE aE ao aj=r):CC 69 [ab nodes,vI bJ,aq bC,cq bK,ab bh,au bL,au bM,bd bH,bd bI,bd bD,ab bE,cz aE,fK ao,ab aj]=r:=bR (L:=bS) ak h
def BC.u(c:BC)(ns:List Nd)(o:LV):Int×LV×LV×LV×LV×LV×LV×LV×LV×LV×LV×LV×LV:=(c.L,c.t,c.w,c.im,c.ac,c.pl,c.rt,c.lf,c.tw,c.od,cO Nd.v 0 ns,o,ns.map Nd.v)
section
variable {c:BC}{L:Nat}{ns:List Nd}{o:LV}(hv:GV L ns)(hL:L≤6)
include hv hL
theorem US{l:List Nat}(hn:ns.length+l.length≤1000000)(hl:∀x∈l,x<ns.length):∃(i:Nat) (ms:List Nd),CC 27 (ab (nS l)::c.i ns o)=some (vI (i:Int)::c.o ms o)∧Xt L ns ms (l.length+1)∧i<ms.length∧∀w,lg ms i w↔∃x∈l,lg ns x w:=by
 have fin:∀z,UQ CC (nS l) c.L c.t c.w c.im c.ac c.pl c.rt c.lf c.tw c.od (ns.map Nd.v) (cO Nd.v 0 ns) o=z→CC 27 (ab (nS l)::c.i ns o)=z:=fun z h=>aAb h
 match l,hn,hl,fin with
 | [],hn,hl,fin=>
  obtain⟨i,ms,e,h1,h2⟩:=ER (c:=c) (o:=o) hv (by simpa using hn) hL (d:=⟨1,0,0,0⟩) ⟨by simp,by simp,by simp,by simp,by simp,by simp,by simp,by simp⟩;refine⟨i,ms,fin _ ?_,h1,(cP.1 h2).1,fun w=>by rw[acz h1.v h2 w];simp⟩;unfold UQ;exact bT rfl (bs e rfl)
 |x::l,hn,hl,fin=>
  rw[List.length_cons]at hn;have key:=gH (step:=UP CC (nS l) (l.length:Int)) (fun i (s:Int×Int×Int×LV×LV×LV×LV×LV×LV×LV×LV×LV×LV×LV×LV)=> ∃(y:Nat) (ms:List Nd),s=((y:Int),(i:Int),c.u ms o)∧Xt L ns ms i∧y<ms.length∧∀w,lg ms y w↔∃z∈x::l.take i,lg ns z w)
   (fun r=> ∃(y:Nat) (ms:List Nd),r=((y:Int),(l.length:Int),false,c.u ms o)∧Xt L ns ms l.length∧y<ms.length∧∀w,lg ms y w↔∃z∈x::l,lg ns z w) l.length 0 ((x:Int),0,c.u ns o)
   (fun i _ hi s hs=> ?_) (fun s hs=> ?_) ⟨x,ns,rfl,Xt.refl hv,hl x (by simp),fun w=>by simp⟩
  ·obtain⟨r,e1,y,ms,rfl,h1,h2,h3⟩:=key;refine⟨y,ms,fin _ ?_,h1.mono (by simp;omega),h2,h3⟩;unfold UQ;have e0:(nS (x::l)).drop 1=nS l:=rfl;have e2:((nS (x::l)).drop 1).take ((nS (x::l)).length-1)=nS l:=by rw[e0];exact P3 (by simp[nS])
   rw[e2];refine bF (by simp[nS];omega) (bs (a:=vI (x:Int)) rfl (bT (bj (by simp[nS];omega)) ?_));rw[ff];exact bs e1 rfl
  ·obtain⟨y,ms,rfl,h1,h2,h3⟩:=hs;rw[cL]at hi;have hz:=hl l[i] (by simp);obtain⟨j,pK,e,g1,g2⟩:=ER (c:=c) (o:=o) h1.v (by have:=h1.l;omega) hL (d:=⟨5,0,y,l[i]⟩) ⟨by simp,by simp,by simp,by simp,by simpa using h2,by simp,by simpa using fY hz h1.le,by simp⟩;refine⟨((j:Int),((i+1:Nat):Int),c.u pK o),?_,j,pK,rfl,h1.trans g1,(cP.1 g2).1,fun w=> ?_⟩
   ·simp only[UP,NJ,un,BC.u];refine bT (cF hi) (bs (qk hi) (bs e ?_));rw[bY (by omega)];rfl
   ·rw[acB g1.v g2 w,g1.lg h1.v h2,h3,g1.lg h1.v (fY hz h1.le),h1.lg hv hz,u9 hi];grind
  ·rw[cL]at hs;obtain⟨y,ms,rfl,h1,h2,h3⟩:=hs;refine⟨((y:Int),(l.length:Int),false,c.u ms o),?_,y,ms,rfl,h1,h2,fun w=>by rw[h3,tH]⟩;simp only[UP,NJ,un,BC.u];exact bF (cf (aR _)) (by rw[cf (aR _)])
theorem amQ{l:List Nat}(hn:ns.length+l.length+10≤1000000)(hl:∀x∈l,x<ns.length):∃(i:Nat) (ms:List Nd),CC 69 (ab (nS l)::c.i ns o)=some (vI (i:Int)::c.o ms o)∧Xt L ns ms (l.length+6)∧i<ms.length∧∀w,lg ms i w↔¬∃a f b,w=a++f++b∧∃x∈l,lg ns x f:=by
 have fin:∀z,UR CC (nS l) c.L c.t c.w c.im c.ac c.pl c.rt c.lf c.tw c.od (ns.map Nd.v) (cO Nd.v 0 ns) o=z→CC 69 (ab (nS l)::c.i ns o)=z:=fun z h=>aAc h;obtain⟨i2,m2,e2,x2,l2,g2⟩:=UO (c:=c) (o:=o) hv (by omega) hL;have le2:=x2.l;by_cases h0:l=[]
 ·subst h0;refine⟨i2,m2,fin _ ?_,x2.mono (by simp),l2,fun w=>by simp[g2 w]⟩;unfold UR;exact bT rfl (bs e2 rfl)
 ·obtain⟨i3,m3,e3,x3,l3,g3⟩:=US (c:=c) (o:=o) x2.v hL (l:=l) (by omega) fun x hx=>fY (hl x hx) x2.le;have le3:=x3.l;obtain⟨i4,m4,e4,x4,l4,g4⟩:=UO (c:=c) (o:=o) x3.v (by omega) hL;have le4:=x4.l;obtain⟨i5,m5,e5,x5,l5,g5⟩:=B5 (c:=c) (o:=o) x4.v (by omega) hL (fY l3 x4.le) l4;have le5:=x5.l;have tj:=x3.trans (x4.trans x5)
  obtain⟨i6,m6,e6,x6,l6,g6⟩:=B5 (c:=c) (o:=o) x5.v (by omega) hL (fY l2 tj.le) l5;have le6:=x6.l;obtain⟨i7,m7,e7,x7,h7⟩:=ER (c:=c) (o:=o) x6.v (by omega) hL (d:=⟨8,0,i6,0⟩) ⟨by simp,by simp,by simp,by simp,by simpa using l6,by simp,by simp,by simp⟩;refine⟨i7,m7,fin _ ?_,(x2.trans (tj.trans (x6.trans x7))).mono (by omega),(cP.1 h7).1,fun w=> ?_⟩
  ·unfold UR;refine bF (by simp[nS,h0]) (bs e2 (bs e3 (bs e4 (bs e5 (bs e6 (bs e7 rfl))))))
  ·rw[acE x7.v h7,x7.lg x6.v l6,g6];refine not_congr ⟨?_,?_⟩
   ·rintro⟨u,v,rfl,_,h⟩;obtain⟨f,b,rfl,h,_⟩:=(g5 _).1 h;rw[x4.lg x3.v l3,g3]at h;obtain⟨x,hx,h⟩:=h;rw[x2.lg hv (hl x hx)]at h;exact⟨u,f,b,by simp,x,hx,h⟩
   ·rintro⟨a,f,b,rfl,x,hx,h⟩;refine⟨a,f++b,by simp,?_,(g5 _).2 ⟨f,b,rfl,?_,g4 b⟩⟩
    ·rw[tj.lg x2.v l2];exact g2 a
    ·rw[x4.lg x3.v l3,g3];exact⟨x,hx,by rw[x2.lg hv (hl x hx)];exact h⟩
end
structure Tb(K:Nat)(mul:Nat→Nat→Nat):Prop where
 k1:1≤K
 k4:K≤400
 lt:∀i j,i<K→j<K→mul i j<K
structure NK(K:Nat)(M:List Nat):Prop where
 nd:M.Nodup
 lt:∀x∈M,x<K
theorem NK.le{K:Nat}{M:List Nat}(h:NK K M):M.length≤K:=by
 have:=tJ (l₂:=List.range K) h.nd fun x hx=>gM.2 (h.lt x hx);grind
theorem NK.add{K:Nat}{M:List Nat}(h:NK K M){x:Nat}(hx:x<K):NK K (eV M x):=⟨abx h.nd,fun y hy=>by
 unfold eV at hy;split at hy
 ·exact h.lt y hy
 ·rcases fQ.1 hy with hy|hy
  ·exact h.lt y hy
  grind⟩
def pw(mul:Nat→Nat→Nat)(x:Nat):Nat→Nat
 |0=>x
 |k+1=>mul (pw mul x k) x
theorem aAd{K:Nat}{f:Nat→Nat}(h:∀i,f i<K):∃i j,i<j∧f i=f j:=by
 refine P5 fun hn=> ?_;have bz:∀i j,i<j→f i≠f j:=fun i j Dz e=>hn ⟨i,j,Dz,e⟩;have hd:((List.range (K+1)).map f).Nodup:=by
  refine PX.2 (I6.imp_of_mem fun {a b} _ _ T9 e=> ?_);rcases Nat.lt_or_gt_of_ne T9 with c|c
  ·exact bz a b c e
  ·exact bz b a c e.symm
 have:=tJ (l₂:=List.range K) hd fun x hx=>by
  obtain⟨i,_,rfl⟩:=iZ.1 hx;exact gM.2 (h i)
 simp at this;omega
section
variable {K:Nat}{mul:Nat→Nat→Nat}(h:Tb K mul)(ha:∀i j k,i<K→j<K→k<K→mul (mul i j) k=mul i (mul j k)){x:Nat}(hx:x<K)
include h hx
theorem oU:∀k,pw mul x k<K
 |0=>hx
 |k+1=>h.lt _ _ (oU k) hx
include ha
theorem Ao(m:Nat):∀n,mul (pw mul x m) (pw mul x n)=pw mul x (m+n+1)
 |0=>rfl
 |n+1=>by
  show mul (pw mul x m) (mul (pw mul x n) x)=mul (pw mul x (m+n+1)) x;rw[←ha _ _ _ (oU h hx m) (oU h hx n) hx,Ao m n]
theorem aAe:∃k,mul (pw mul x k) (pw mul x k)=pw mul x k:=by
 obtain⟨i,j,Dz,e⟩:=aAd (oU h hx);have step:∀n,pw mul x (i+n)=pw mul x (j+n):=fun n=>by
  induction n with
  |zero=>exact e
  |succ n ih=>exact congrArg (fun y=>mul y x) ih
 have per:∀c m,i≤m→pw mul x (m+(j-i)*c)=pw mul x m:=fun c=>by
  induction c with
  |zero=>intro m _;rw[Nat.mul_zero,Nat.add_zero]
  |succ c ih=>
   intro m hm;have h1:=step (m-i);rw[show i+(m-i)=m by omega,show j+(m-i)=m+(j-i) by omega]at h1;rw[h1,←ih (m+(j-i)) (by omega),Nat.mul_succ,Cy,Nat.add_comm (j-i)]
 have hp:0<(j-i)*(i+1):=Nat.mul_pos (by omega) (by omega);have sM:i+1≤(j-i)*(i+1):=Nat.le_mul_of_pos_left _ (by omega);refine⟨(j-i)*(i+1)-1,?_⟩;rw[Ao h ha hx,show(j-i)*(i+1)-1+((j-i)*(i+1)-1)+1=((j-i)*(i+1)-1)+(j-i)*(i+1) by omega];exact per (i+1) _ (by omega)
end
def UT:Nat→Nat
 |0=>1
 |n+1=>(n+1)*UT n
theorem amR:∀n,0<UT n
 |0=>Nat.one_pos
 |n+1=>Nat.mul_pos (Nat.succ_pos n) (amR n)
theorem acJ{p:Nat}(h1:1≤p):∀n,p≤n→p ∣ UT n
 |0,h=>by omega
 |n+1,h=>by
  by_cases c:p=n+1
  ·subst c;exact Nat.dvd_mul_right _ _
  ·exact Nat.dvd_trans (acJ h1 n (by omega)) (Nat.dvd_mul_left _ _)
theorem acK:∃N,400<N∧∀p,1≤p→p≤400→p ∣ N:=
 ⟨UT 401,fY (yK 400) (Nat.le_of_dvd (amR 401) (acJ (by omega) 401 (aR _))),fun _ h1 h2=>acJ h1 401 (by omega)⟩
noncomputable def eN:Nat:=Classical.choose acK
theorem UU:400<eN:=(Classical.choose_spec acK).1
theorem aAf{p:Nat}(h1:1≤p)(h2:p≤400):p ∣ eN:=(Classical.choose_spec acK).2 p h1 h2
theorem aAg{K:Nat}{f:Nat→Nat}(h:∀i,f i<K):∃i j,i<j∧j≤K∧f i=f j:=by
 refine P5 fun hn=> ?_;have bz:∀i j,i<j→j≤K→f i≠f j:=fun i j Dz hj e=>hn ⟨i,j,Dz,hj,e⟩;have hd:((List.range (K+1)).map f).Nodup:=by
  refine PX.2 (I6.imp_of_mem fun {a b} ha hb T9 e=> ?_);grind
 have:=tJ (l₂:=List.range K) hd fun x hx=>by
  grind
 grind
section
variable {K:Nat}{mul:Nat→Nat→Nat}(h:Tb K mul)(ha:∀i j k,i<K→j<K→k<K→mul (mul i j) k=mul i (mul j k)){x:Nat}(hx:x<K)
include h hx ha
theorem acL:mul (pw mul x (eN-1)) (pw mul x (eN-1))=pw mul x (eN-1):=by
 have h4:=h.k4;have hN:=UU;obtain⟨i,j,Dz,hj,e⟩:=aAg (oU h hx);have step:∀n,pw mul x (i+n)=pw mul x (j+n):=fun n=>by
  induction n with
  |zero=>exact e
  |succ n ih=>exact congrArg (fun y=>mul y x) ih
 have per:∀c m,i≤m→pw mul x (m+(j-i)*c)=pw mul x m:=fun c=>by
  induction c with
  |zero=>grind
  |succ c ih=>
   intro m hm;have h1:=step (m-i);rw[show i+(m-i)=m by omega,show j+(m-i)=m+(j-i) by omega]at h1;grind
 obtain⟨c,hc⟩:=aAf (p:=j-i) (by omega) (by omega);rw[Ao h ha hx,show eN-1+(eN-1)+1=(eN-1)+eN by omega];have:=per c (eN-1) (by omega);grind
theorem acM(k:Nat):∀n,pw mul (pw mul x k) n=pw mul x ((k+1)*n+k)
 |0=>by rw[Nat.mul_zero,cL];rfl
 |n+1=>by
  show mul (pw mul (pw mul x k) n) (pw mul x k)=_;rw[acM k n,Ao h ha hx];grind
omit h hx ha in
theorem acN{e:Nat}(he:mul e e=e):∀n,pw mul e n=e
 |0=>rfl
 |n+1=>by
  show mul (pw mul e n) e=e;rw[acN he n,he]
theorem aAh{k:Nat}(hk:mul (pw mul x k) (pw mul x k)=pw mul x k):pw mul x k=pw mul x (eN-1):=by
 have hN:=UU;have e1:=acM h ha hx k (eN-1);have e2:=acM h ha hx (eN-1) k;rw[acN hk]at e1;rw[acN (acL h ha hx)]at e2;grind
end
structure Mn(K:Nat)(mul:Nat→Nat→Nat):Prop where
 tb:Tb K mul
 ac:∀i j k,i<K→j<K→k<K→mul (mul i j) k=mul i (mul j k)
 e0:∀j,j<K→mul 0 j=j∧mul j 0=j
def Rr(K:Nat)(mul:Nat→Nat→Nat)(x y:Nat):Prop:= ∃s,s<K∧mul x s=y
def Lr(K:Nat)(mul:Nat→Nat→Nat)(x y:Nat):Prop:= ∃s,s<K∧mul s x=y
def Jr(K:Nat)(mul:Nat→Nat→Nat)(x y:Nat):Prop:= ∃s t,s<K∧t<K∧mul s (mul x t)=y
def uW(K:Nat)(mul:Nat→Nat→Nat):Prop:= ∀x,x<K→mul (pw mul x (eN-1)) x=pw mul x (eN-1)
section
variable {K:Nat}{mul:Nat→Nat→Nat}(M:Mn K mul)
include M
theorem Mn.k0:0<K:=M.tb.k1
theorem Mn.lt{i j:Nat}(hi:i<K)(hj:j<K):mul i j<K:=M.tb.lt _ _ hi hj
theorem Rr.refl{x:Nat}(hx:x<K):Rr K mul x x:=⟨0,M.k0,(M.e0 x hx).2⟩
theorem Lr.refl{x:Nat}(hx:x<K):Lr K mul x x:=⟨0,M.k0,(M.e0 x hx).1⟩
theorem Rr.trans{x y z:Nat}(hx:x<K)(h:Rr K mul x y)(h2:Rr K mul y z):Rr K mul x z:=by
 obtain⟨s,hs,rfl⟩:=h;obtain⟨t,ht,rfl⟩:=h2;exact⟨mul s t,M.lt hs ht,(M.ac _ _ _ hx hs ht).symm⟩
theorem Lr.trans{x y z:Nat}(hx:x<K)(h:Lr K mul x y)(h2:Lr K mul y z):Lr K mul x z:=by
 obtain⟨s,hs,rfl⟩:=h;obtain⟨t,ht,rfl⟩:=h2;exact⟨mul t s,M.lt ht hs,M.ac _ _ _ ht hs hx⟩
theorem Rr.J{x y:Nat}(hx:x<K)(h:Rr K mul x y):Jr K mul x y:=by
 obtain⟨s,hs,rfl⟩:=h;exact⟨0,s,M.k0,hs,(M.e0 _ (M.lt hx hs)).1⟩
theorem Lr.J{x y:Nat}(hx:x<K)(h:Lr K mul x y):Jr K mul x y:=by
 obtain⟨s,hs,rfl⟩:=h;exact⟨s,0,hs,M.k0,by rw[(M.e0 _ hx).2]⟩
theorem Jr.refl{x:Nat}(hx:x<K):Jr K mul x x:=(Rr.refl M hx).J M hx
theorem Jr.trans{x y z:Nat}(hx:x<K)(h:Jr K mul x y)(h2:Jr K mul y z):Jr K mul x z:=by
 obtain⟨s,t,hs,ht,rfl⟩:=h;obtain⟨u,v,hu,hv,rfl⟩:=h2;refine⟨mul u s,mul t v,M.lt hu hs,M.lt ht hv,?_⟩;rw[M.ac _ _ _ hu hs (M.lt hx (M.lt ht hv)),M.ac _ _ _ hs (M.lt hx ht) hv,M.ac _ _ _ hx ht hv]
theorem Rr.lt{x y:Nat}(hx:x<K)(h:Rr K mul x y):y<K:=by
 obtain⟨s,hs,rfl⟩:=h;exact M.lt hx hs
theorem Lr.lt{x y:Nat}(hx:x<K)(h:Lr K mul x y):y<K:=by
 obtain⟨s,hs,rfl⟩:=h;exact M.lt hs hx
theorem UW{s x u:Nat}(hs:s<K)(hx:x<K)(hu:u<K)(e:mul s (mul x u)=x):∀n,mul (pw mul s n) (mul x (pw mul u n))=x
 |0=>e
 |n+1=>by
  have ih:=UW hs hx hu e n;have hpn:=oU M.tb hs n;have J6:=oU M.tb hu n;show mul (mul (pw mul s n) s) (mul x (mul (pw mul u n) u))=x;have hc:mul (pw mul u n) u=mul u (pw mul u n):=by
   show mul (pw mul u n) (pw mul u 0)=mul (pw mul u 0) (pw mul u n);rw[Ao M.tb M.ac hu n 0,Ao M.tb M.ac hu 0 n,cL,Nat.add_zero]
  rw[hc,M.ac _ _ _ hpn hs (M.lt hx (M.lt hu J6)),←M.ac _ _ _ hx hu J6,←M.ac _ _ _ hs (M.lt hx hu) J6,e];exact ih
theorem amS{x y:Nat}(hx:x<K)(h:Rr K mul x y)(hj:Jr K mul y x):Rr K mul y x:=by
 obtain⟨t',gi,rfl⟩:=h;obtain⟨s,t,hs,ht,e⟩:=hj;have hu:=M.lt gi ht;have e1:mul s (mul x (mul t' t))=x:=by rw[←M.ac _ _ _ hx gi ht];exact e
 have h1:=UW M hs hx hu e1 (eN-1);have hq:=oU M.tb hu (eN-1);have hp:=oU M.tb hs (eN-1);have h2:mul x (pw mul (mul t' t) (eN-1))=x:=by
  have:=congrArg (fun z=>mul z (pw mul (mul t' t) (eN-1))) h1;rw[M.ac _ _ _ hp (M.lt hx hq) hq,M.ac _ _ _ hx hq hq,acL M.tb M.ac hu,h1]at this;exact this.symm
 have hN:=UU;obtain⟨k,hk⟩:∃k,eN-1=0+k+1:=⟨eN-2,by omega⟩
 have h3:pw mul (mul t' t) (eN-1)=mul (mul t' t) (pw mul (mul t' t) k):=by
  rw[hk,←Ao M.tb M.ac hu 0 k];rfl
 have eU:=oU M.tb hu k;refine⟨mul t (pw mul (mul t' t) k),M.lt ht eU,?_⟩;rw[M.ac _ _ _ hx gi (M.lt ht eU),←M.ac _ _ _ gi ht eU,←h3,h2]
theorem UX{x y:Nat}(hx:x<K)(h:Lr K mul x y)(hj:Jr K mul y x):Lr K mul y x:=by
 obtain⟨s',lk,rfl⟩:=h;obtain⟨s,t,hs,ht,e⟩:=hj;have hu:=M.lt hs lk;have e1:mul (mul s s') (mul x t)=x:=by rw[M.ac _ _ _ hs lk (M.lt hx ht),←M.ac _ _ _ lk hx ht];exact e
 have h1:=UW M hu hx ht e1 (eN-1);have hq:=oU M.tb ht (eN-1);have hp:=oU M.tb hu (eN-1);have h2:mul (pw mul (mul s s') (eN-1)) x=x:=by
  have:=congrArg (fun z=>mul (pw mul (mul s s') (eN-1)) z) h1;rw[←M.ac _ _ _ hp hp (M.lt hx hq),acL M.tb M.ac hu,h1]at this;exact this.symm
 have hN:=UU;obtain⟨k,hk⟩:∃k,eN-1=k+1:=⟨eN-2,by omega⟩
 have eU:=oU M.tb hu k;refine⟨mul (pw mul (mul s s') k) s,M.lt eU hs,?_⟩;rw[M.ac _ _ _ eU hs (M.lt lk hx),←M.ac _ _ _ hs lk hx,←M.ac _ _ _ eU hu hx];rw[hk]at h2;exact h2
theorem amT(A:uW K mul){x y:Nat}(hx:x<K)(hy:y<K)(r1:Rr K mul x y)(l1:Lr K mul x y)(l2:Lr K mul y x):x=y:=by
 obtain⟨t,ht,e1⟩:=r1;obtain⟨s,hs,e2⟩:=l2;have e3:mul s (mul x t)=x:=by rw[e1,e2]
 have h1:=UW M hs hx ht e3 (eN-1);have hq:=oU M.tb ht (eN-1);have hp:=oU M.tb hs (eN-1);have h2:mul s x=x:=by
  have hc:mul s (pw mul s (eN-1))=pw mul s (eN-1):=by
   refine Eq.trans ?_ (A s hs);show mul (pw mul s 0) (pw mul s (eN-1))=mul (pw mul s (eN-1)) (pw mul s 0);rw[Ao M.tb M.ac hs (eN-1) 0,Ao M.tb M.ac hs 0 (eN-1),cL,Nat.add_zero]
  have:=congrArg (fun z=>mul s z) h1;rw[←M.ac _ _ _ hs hp (M.lt hx hq),hc,h1]at this;exact this.symm
 have h3:mul s y=y:=by rw[←e1,←M.ac _ _ _ hs hx ht,h2]
 rw[←e2,h3]
theorem acO(A:uW K mul){x:Nat}(hx:x<K)(h:Jr K mul x 0):x=0:=by
 have h0:=M.k0;have r:Rr K mul 0 x:=⟨x,hx,(M.e0 x hx).1⟩
 have l:Lr K mul 0 x:=⟨x,hx,(M.e0 x hx).2⟩
 exact(amT M A h0 hx r l (UX M h0 l h)).symm
end
structure UY(K:Nat)(mul:Nat→Nat→Nat)(ok:List Nat→Prop)(val:List Nat→Nat):Prop where
 lt:∀w,ok w→val w<K
 nil:val []=0
 app:∀u v,ok u→ok v→val (u++v)=mul (val u) (val v)
 nB:∀u v,ok (u++v)↔ok u∧ok v
section
variable {K:Nat}{mul:Nat→Nat→Nat}(M:Mn K mul)(ap:uW K mul){ok:List Nat→Prop}{val:List Nat→Nat}(H:UY K mul ok val){m0:Nat}(hm:m0<K)(kS:m0≠0){A:Nat→Prop}(hA:∀x,x<K→Jr K mul x m0→¬Jr K mul m0 x→A x)
def aAi(K:Nat)(mul:Nat→Nat→Nat)(ok:List Nat→Prop)(val:List Nat→Nat)(A:Nat→Prop)(m0:Nat)(w:List Nat):Prop:= ∃u x v,w=u++(x::v)∧A (val u)∧Rr K mul m0 (mul (val u) (val [x]))∧Rr K mul (mul (val u) (val [x])) m0∧¬Rr K mul m0 (val u)
def aAj(K:Nat)(mul:Nat→Nat→Nat)(ok:List Nat→Prop)(val:List Nat→Nat)(A:Nat→Prop)(m0:Nat)(w:List Nat):Prop:= ∃u x v,w=u++(x::v)∧A (val v)∧Lr K mul m0 (mul (val [x]) (val v))∧Lr K mul (mul (val [x]) (val v)) m0∧¬Lr K mul m0 (val v)
def amU(K:Nat)(mul:Nat→Nat→Nat)(val:List Nat→Nat)(A:Nat→Prop)(m0:Nat)(v:List Nat):Prop:=(∃x,v=[x]∧¬Jr K mul (val [x]) m0)∨∃x v' y,v=x::(v'++[y])∧A (val v')∧Jr K mul (mul (val [x]) (val v')) m0∧Jr K mul (mul (val v') (val [y])) m0∧¬Jr K mul (mul (mul (val [x]) (val v')) (val [y])) m0
include M H
theorem UZ{u v z:List Nat}(h:ok (u++v++z)):Jr K mul (val v) (val (u++v++z)):=by
 obtain⟨h1,hz⟩:=(H.nB _ _).1 h;obtain⟨hu,hv⟩:=(H.nB _ _).1 h1;refine⟨val u,val z,H.lt _ hu,H.lt _ hz,?_⟩;rw[H.app _ _ h1 hz,H.app _ _ hu hv,M.ac _ _ _ (H.lt _ hu) (H.lt _ hv) (H.lt _ hz)]
include hm hA
theorem amV:∀(v u:List Nat),ok (u++v)→val (u++v)=m0→¬Rr K mul m0 (val u)→∃a x b,u++v=a++(x::b)∧A (val a)∧Rr K mul m0 (mul (val a) (val [x]))∧Rr K mul (mul (val a) (val [x])) m0∧¬Rr K mul m0 (val a)
 | [],u,ho,he,hn=>by
  rw[uZ]at he;exact absurd (by rw[he];exact Rr.refl M hm) hn
 |x::v,u,ho,he,hn=>by
  have e1:u++x::v=(u++[x])++v:=by simp
  rw[e1]at ho he;obtain⟨pr,hv⟩:=(H.nB _ _).1 ho;obtain⟨hu,hx⟩:=(H.nB _ _).1 pr;have ev:val (u++[x])=mul (val u) (val [x]):=H.app _ _ hu hx;by_cases c:Rr K mul m0 (val (u++[x]))
  ·refine⟨u,x,v,rfl,hA _ (H.lt _ hu) ?_ ?_,by rw[←ev];exact c,?_,hn⟩
   ·have:=UZ M H (u:=[]) (v:=u) (z:=[x]++v) (by simpa using ho);rw[show []++u++([x]++v)=(u++[x])++v by simp,he]at this;exact this
   ·intro hj;have r1:Rr K mul (val u) m0:=⟨val ([x]++v),H.lt _ ((H.nB _ _).2 ⟨hx,hv⟩),by rw[←H.app _ _ hu ((H.nB _ _).2 ⟨hx,hv⟩),←kH];exact he⟩
    exact hn (amS M (H.lt _ hu) r1 hj)
   ·exact⟨val v,H.lt _ hv,by rw[←ev,←H.app _ _ pr hv];exact he⟩
  ·rw[e1];exact amV v (u++[x]) ho he c
theorem aAk:∀(u v:List Nat),ok (u++v)→val (u++v)=m0→¬Lr K mul m0 (val v)→∃a x b,u++v=a++(x::b)∧A (val b)∧Lr K mul m0 (mul (val [x]) (val b))∧Lr K mul (mul (val [x]) (val b)) m0∧¬Lr K mul m0 (val b):=by
 intro u
 induction hu:u.length generalizing u with
 |zero=>
  intro v ho he hn;obtain rfl:u=[]:=tF.1 hu;exact absurd (by rw[show val v=m0 from he];exact Lr.refl M hm) hn
 |succ n ih=>
  intro v ho he hn;obtain⟨p,x,rfl⟩:∃p x,u=p++[x]:=⟨u.dropLast,u.getLast (fun e=>by rw[e]at hu;cases hu),(List.dropLast_concat_getLast _).symm⟩
  have e1:p++[x]++v=p++([x]++v):=by simp
  rw[e1]at ho he;obtain⟨hp,pr⟩:=(H.nB _ _).1 ho;obtain⟨hx,hv⟩:=(H.nB _ _).1 pr;have ev:val ([x]++v)=mul (val [x]) (val v):=H.app _ _ hx hv;by_cases c:Lr K mul m0 (val ([x]++v))
  ·refine⟨p,x,v,by simp,hA _ (H.lt _ hv) ?_ ?_,by rw[←ev];exact c,?_,hn⟩
   ·have:=UZ M H (u:=p++[x]) (v:=v) (z:=[]) (by simpa using ho);rw[show p++[x]++v++[]=p++([x]++v) by simp,he]at this;exact this
   ·intro hj;have l1:Lr K mul (val v) m0:=⟨val (p++[x]),H.lt _ ((H.nB _ _).2 ⟨hp,hx⟩),by rw[←H.app _ _ ((H.nB _ _).2 ⟨hp,hx⟩) hv,kH];exact he⟩
    exact hn (UX M (H.lt _ hv) l1 hj)
   ·exact⟨val p,H.lt _ hp,by rw[←ev,←H.app _ _ hp pr];exact he⟩
  ·rw[e1];exact ih p (by simpa using hu) ([x]++v) ho he c
theorem aAl:∀(n:Nat) (v:List Nat),v.length=n→ok v→¬Jr K mul (val v) m0→∃a f b,v=a++f++b∧amU K mul val A m0 f:=by
 intro n
 induction n using Nat.strongRecOn with
 |_ n ih=>
  intro v hl ho hn
  match v,hl with
  | [],_=>
   rw[H.nil]at hn;exact absurd ⟨m0,0,hm,M.k0,by rw[(M.e0 0 M.k0).1,(M.e0 m0 hm).2]⟩ hn
  | [x],_=>exact⟨[],[x],[],by simp,.inl ⟨x,rfl,hn⟩⟩
  |x::y::v0,hl=>
   obtain⟨v',z,hv⟩:∃v' z,y::v0=v'++[z]:=⟨(y::v0).dropLast,(y::v0).getLast (by simp),(List.dropLast_concat_getLast _).symm⟩
   rw[hv]at ho hn hl⊢;have pZ:v'.length+2=n:=by rw[←hl];simp
   have e1:x::(v'++[z])=[x]++(v'++[z]):=rfl;rw[e1]at ho hn;obtain⟨hx,rJ⟩:=(H.nB _ _).1 ho;obtain⟨lZ,hz⟩:=(H.nB _ _).1 rJ;have ln:=(H.nB _ _).2 ⟨hx,lZ⟩;by_cases c1:Jr K mul (val ([x]++v')) m0
   case neg=>
    obtain⟨a,f,b,e,hf⟩:=ih (v'.length+1) (by omega) ([x]++v') (by simp) ln c1;exact⟨a,f,b++[z],by rw[e1,←kH,e];simp,hf⟩
   by_cases c2:Jr K mul (val (v'++[z])) m0
   case neg=>
    obtain⟨a,f,b,e,hf⟩:=ih (v'.length+1) (by omega) (v'++[z]) (by simp) rJ c2;exact⟨x::a,f,b,by rw[e];simp,hf⟩
   rw[H.app _ _ hx lZ]at c1;rw[H.app _ _ lZ hz]at c2;rw[←kH,H.app _ _ ln hz,H.app _ _ hx lZ]at hn;refine⟨[],x::(v'++[z]),[],by simp,.inr ⟨x,v',z,rfl,hA _ (H.lt _ lZ) ?_ fun hj=>hn ?_,c1,c2,hn⟩⟩
   ·exact Jr.trans M (H.lt _ lZ) (Lr.J M (H.lt _ lZ) ⟨val [x],H.lt _ hx,rfl⟩) c1
   ·
    have HW:=M.lt (H.lt _ hx) (H.lt _ lZ);have lt2:=M.lt (H.lt _ lZ) (H.lt _ hz);have j1:Jr K mul (mul (val [x]) (val v')) (val v'):=Jr.trans M HW c1 hj;have j2:Jr K mul (mul (val v') (val [z])) (val v'):=Jr.trans M lt2 c2 hj;obtain⟨s,hs,e3⟩:=UX M (H.lt _ lZ) ⟨val [x],H.lt _ hx,rfl⟩ j1;obtain⟨t,ht,e4⟩:=amS M (H.lt _ lZ) ⟨val [z],H.lt _ hz,rfl⟩ j2;have j3:Jr K mul (mul (mul (val [x]) (val v')) (val [z])) (val v'):=by
     refine⟨s,t,hs,ht,?_⟩;rw[←M.ac _ _ _ hs (M.lt HW (H.lt _ hz)) ht,←M.ac _ _ _ hs HW (H.lt _ hz),e3];exact e4
    exact Jr.trans M (M.lt HW (H.lt _ hz)) j3 (Jr.trans M (H.lt _ lZ) (Jr.trans M (H.lt _ lZ) (Lr.J M (H.lt _ lZ) ⟨val [x],H.lt _ hx,rfl⟩) c1) (Jr.refl M hm))
include ap kS
theorem aAm{w:List Nat}(ho:ok w):val w=m0↔aAi K mul ok val A m0 w∧aAj K mul ok val A m0 w∧¬∃a f b,w=a++f++b∧amU K mul val A m0 f:=by
 have h0:=M.k0;have ne0:∀{P:Prop},(Jr K mul m0 0→P):=fun h=>absurd (acO M ap hm h) kS;constructor
 ·intro e;refine⟨?_,?_,?_⟩
  ·obtain⟨a,x,b,h1,h2⟩:=amV M H hm hA w [] ho e fun h=>ne0 (by rw[H.nil]at h;exact Rr.J M hm h);exact⟨a,x,b,h1,h2⟩
  ·obtain⟨a,x,b,h1,h2⟩:=aAk M H hm hA w [] (by simpa using ho) (by simpa using e) fun h=>ne0 (by rw[H.nil]at h;exact Lr.J M hm h);exact⟨a,x,b,by simpa using h1,h2⟩
  ·rintro⟨a,f,b,rfl,hf⟩;have hj:=UZ M H ho;rw[e]at hj;rcases hf with⟨x,rfl,hn⟩|⟨x,v',y,rfl,_,_,_,hn⟩
   ·exact hn hj
   ·refine hn ?_;obtain⟨h1,_⟩:=(H.nB _ _).1 ho;obtain⟨_,h2⟩:=(H.nB _ _).1 h1;have e1:x::(v'++[y])=[x]++v'++[y]:=by simp
    rw[e1]at h2 hj;obtain⟨h3,h4⟩:=(H.nB _ _).1 h2;obtain⟨h5,h6⟩:=(H.nB _ _).1 h3;rwa [H.app _ _ h3 h4,H.app _ _ h5 h6]at hj
 ·rintro⟨⟨a,x,b,e1,_,r1,_,_⟩,⟨c,y,d,e2,_,l1,_,_⟩,hf⟩;have hw:=H.lt _ ho;have hr:Rr K mul m0 (val w):=by
   have xe:w=a++[x]++b:=by rw[e1];simp
   rw[xe]at ho⊢;obtain⟨h1,h2⟩:=(H.nB _ _).1 ho;obtain⟨h3,h4⟩:=(H.nB _ _).1 h1;rw[H.app _ _ h1 h2,H.app _ _ h3 h4];exact Rr.trans M hm r1 ⟨val b,H.lt _ h2,rfl⟩
  have NL:Lr K mul m0 (val w):=by
   have xh:w=c++([y]++d):=by rw[e2];simp
   rw[xh]at ho⊢;obtain⟨h1,h2⟩:=(H.nB _ _).1 ho;obtain⟨h3,h4⟩:=(H.nB _ _).1 h2;rw[H.app _ _ h1 h2,H.app _ _ h3 h4];exact Lr.trans M hm l1 ⟨val c,H.lt _ h1,rfl⟩
  have hj:Jr K mul (val w) m0:=P5 fun hn=>hf (aAl M H hm hA _ w rfl ho hn);have l2:=UX M hm NL hj;exact(amT M ap hm hw hr NL l2).symm
end
noncomputable def HX(C:af)(one:Int)(t12:LV)(t13 t14 bJ:Int)(bC bK bh bL bM bH bI bD bE ao aj HY aw:LV){β:Type}(kn:ay (Int×Int×LV×LV×LV×LV×LV×LV×LV×LV×LV×LV×LV×LV×LV) β)(kr:ay (Int×Bool×Int×LV×LV×LV×LV×LV×LV×LV×LV×LV×LV×LV×LV×LV) β):Option β:=
 bif decide (t14<t13)then
  (idx t12 t14).bind fun x1=>
  bif (x1.toInt:Int) != one then
  (C 68 [vI t14,vI bJ,aq bC,cq bK,ab bh,au bL,au bM,bd bH,bd bI,bd bD,ab bE,cz aw,fK ao,ab aj]).bind fun r2=>
  bif Nat.ble ((HY.length+([vI (gI r2)]:LV).length)*8) bf then
   kn (wrap .i64 (t14+1),(dm r2),(jT r2),(jr r2),(oq r2),(qR r2),(sW r2),(sX r2),(sY r2),(sZ r2),(vQ r2),(ux r2),(nq r2),HY++([vI (gI r2)]:LV),(s6 r2))
  else none
  else
  kn (wrap .i64 (t14+1),bJ,bC,bK,bh,bL,bM,bH,bI,bD,bE,ao,aj,HY,aw)
 else
  kr (t14,decide (t14<t13),bJ,bC,bK,bh,bL,bM,bH,bI,bD,bE,ao,aj,HY,aw)
noncomputable def NM(C:af)(one:Int)(t12:LV)(t13:Int):=un fun t14=>un fun bJ=>un fun bC=>un fun bK=>un fun bh=>un fun bL=>un fun bM=>un fun bH=>un fun bI=>un fun bD=>un fun bE=>un fun ao=>un fun aj=>un fun HY aw=>HX C one t12 t13 t14 bJ bC bK bh bL bM bH bI bD bE ao aj HY aw ct cu
noncomputable def aAn(C:af):da:=cm 49 ZQ (aN 18 262136) [[1,2,3,0,0,0,0,0,0,0,0,0,0,0,0,0,0,0,0]] (@HX C) bS
theorem aAo(C:af):bt C (aAn C) 25 (Lp [1,1,0,1,0,0] 25):=cj ZQ (aN 18 262136) [[1,2,3,0,0,0,0,0,0,0,0,0,0,0,0,0,0,0,0]] (@HX C) (aY ak)
noncomputable def acP(C:af)(one bJ:Int)(bC bK bh bL bM bH bI bD bE aE ao aj:LV):Option LV:=
 (Loop (NM C one bh (bh.length:Int)) (0,bJ,bC,bK,bh,bL,bM,bH,bI,bD,bE,ao,aj,([]:LV),aE)).bind (un fun fL=>un fun(hZ:Bool)=>un fun z8=>un fun(B6:LV)=>un fun(B7:LV)=>un fun(B8:LV)=>un fun(B9:LV)=>un fun(Cc:LV)=>un fun(Ce:LV)=>un fun(uS:LV)=>un fun(uT:LV)=>un fun(uU:LV)=>un fun(lz:LV)=>un fun(sf:LV)=>un fun(aAp:LV) (se:LV)=>
  (C 69 [ab aAp,vI z8,aq B6,cq B7,ab B8,au B9,au Cc,bd Ce,bd uS,bd uT,ab uU,cz se,fK lz,ab sf]).bind fun wk=>
  some (vI (gI wk)::(kh wk (zN wk []))))
theorem aAq{one bJ:Int}{bC bK bh bL bM bH bI bD bE aE ao aj:LV}{r:Option LV}(h:acP CC one bJ bC bK bh bL bM bH bI bD bE aE ao aj=r):CC 25 [vI one,vI bJ,aq bC,cq bK,ab bh,au bL,au bM,bd bH,bd bI,bd bD,ab bE,cz aE,fK ao,ab aj]=r:=bR (br (aAo CC) ak) h
noncomputable def rB(R:Nat→Nat→Prop)(x y:Nat):Bool:= @decide (R x y) (Classical.propDecidable _)
theorem lF{R:Nat→Nat→Prop}{x y:Nat}(h:R x y):rB R x y=true:= @bj _ (Classical.propDecidable _) h
theorem oV{R:Nat→Nat→Prop}{x y:Nat}(h:¬R x y):rB R x y=false:= @cw _ (Classical.propDecidable _) h
noncomputable def dq(K:Nat)(R:Nat→Nat→Prop):LV:=tab K fun x=>au (tab K fun y=> .bool (rB R x y))
structure BK(c:BC)(L K:Nat)(mul:Nat→Nat→Nat)(im:Nat→Nat):Prop where
 eI:c.im=tab L fun a=>nV (im a)
 eT:c.t=tab K fun i=>ab (tab K fun j=>nV (mul i j))
 eR:c.rt=dq K (Rr K mul)
 eL:c.lf=dq K (Lr K mul)
 eJ:c.tw=dq K (Jr K mul)
 lI:∀a,a<L→im a<K
 ml:∀i j,i<K→j<K→mul i j<K
 K1:K≤400
 L6:L≤6
def BC.u2(c:BC)(ns:List Nd)(o:LV)(l:List Nat):Int×LV×LV×LV×LV×LV×LV×LV×LV×LV×LV×LV×LV×LV:=(c.L,c.t,c.w,c.im,c.ac,c.pl,c.rt,c.lf,c.tw,c.od,cO Nd.v 0 ns,o,nS l,ns.map Nd.v)
structure dR(ns:List Nd)(l:List Nat)(Q:List Nat→Prop):Prop where
 lt:∀x∈l,x<ns.length
 iff:∀w,(∃x∈l,lg ns x w)↔Q w
theorem dR.nil{ns:List Nd}{Q:List Nat→Prop}(h:∀w,¬Q w):dR ns [] Q:=⟨fun x hx=>(by cases hx),fun w=>⟨fun⟨x,hx,_⟩=>(by cases hx),fun hq=>absurd hq (h w)⟩⟩
theorem dR.ext{L k:Nat}{ns ms:List Nd}{l:List Nat}{Q:List Nat→Prop}(h:dR ns l Q)(hv:GV L ns)(x:Xt L ns ms k):dR ms l Q:=by
 refine⟨fun y hy=>fY (h.lt y hy) x.le,fun w=> ?_⟩;rw[←h.iff w];exact⟨fun⟨y,hy,hq⟩=>⟨y,hy,by rwa [←x.lg hv (h.lt y hy)]⟩,fun⟨y,hy,hq⟩=>⟨y,hy,by rwa [x.lg hv (h.lt y hy)]⟩⟩
theorem dR.add{L k:Nat}{ns ms:List Nd}{l:List Nat}{Q Q' R:List Nat→Prop}(h:dR ns l Q)(hv:GV L ns)(x:Xt L ns ms k){i:Nat}(hi:i<ms.length)(hR:∀w,lg ms i w↔R w)(hQ:∀w,Q' w↔Q w∨R w):dR ms (l++[i]) Q':=by
 have h2:=h.ext hv x;refine⟨fun y hy=> ?_,fun w=> ?_⟩
 ·rcases fQ.1 hy with hy|hy
  ·exact h2.lt y hy
  ·rw[iY.1 hy];exact hi
 ·rw[hQ,←h2.iff w,←hR w];constructor
  ·rintro⟨y,hy,hq⟩;rcases fQ.1 hy with hy|hy
   ·exact .inl ⟨y,hy,hq⟩
   ·rw[iY.1 hy]at hq;exact .inr hq
  ·rintro(⟨y,hy,hq⟩|hq)
   ·exact⟨y,Fv _ hy,hq⟩
   ·exact⟨i,by simp,hq⟩
theorem dR.same{ns:List Nd}{l:List Nat}{Q Q':List Nat→Prop}(h:dR ns l Q)(hq:∀w,Q' w↔Q w):dR ns l Q':=⟨h.lt,fun w=>(h.iff w).trans (hq w).symm⟩
theorem NN{l:List Nat}{i:Nat}:nS l++([vI (i:Int)]:LV)=nS (l++[i]):=by simp[nS,nV]
theorem HZ{l:List Nat}{v:V}(h:l.length≤1000000):Nat.ble (((nS l).length+([v]:LV).length)*8) bf=true:=by
 rw[fG,zU,ff];simp;omega
section
variable {c:BC}{L K:Nat}{mul:Nat→Nat→Nat}{im:Nat→Nat}(B:BK c L K mul im){ns:List Nd}{o:LV}(hv:GV L ns)
include B hv
theorem aAr{one:Nat}(hn:ns.length≤900000):∃(i:Nat) (ms:List Nd),CC 25 (vI (one:Int)::c.i ns o)=some (vI (i:Int)::c.o ms o)∧Xt L ns ms 18∧i<ms.length∧∀w,lg ms i w↔¬∃a f b,w=a++f++b∧∃x,x<L∧im x≠one∧f=[x]:=by
 have hL:=B.L6;have fin:∀z,acP CC (one:Int) c.L c.t c.w c.im c.ac c.pl c.rt c.lf c.tw c.od (ns.map Nd.v) (cO Nd.v 0 ns) o=z→CC 25 (vI (one:Int)::c.i ns o)=z:=fun z h=>aAq h;have gk:c.im.length=L:=by rw[B.eI];exact fi
 have key:=gH (step:=NM CC (one:Int) c.im (L:Int)) (fun i (s:Int×Int×LV×LV×LV×LV×LV×LV×LV×LV×LV×LV×LV×LV×LV)=> ∃(l:List Nat) (ms:List Nd),s=((i:Int),c.u2 ms o l)∧Xt L ns ms i∧l.length≤i∧dR ms l fun w=> ∃x,x<i∧im x≠one∧w=[x])
  (fun r=> ∃(l:List Nat) (ms:List Nd),r=((L:Int),false,c.u2 ms o l)∧Xt L ns ms L∧l.length≤L∧dR ms l fun w=> ∃x,x<L∧im x≠one∧w=[x]) L 0 (0,c.u2 ns o [])
  (fun i _ hi s hs=> ?_) (fun s hs=> ?_) ⟨[],ns,rfl,Xt.refl hv,by simp,dR.nil fun w h=>by obtain⟨x,h,_⟩:=h;omega⟩
 ·obtain⟨r,e1,l,ms,rfl,h1,h2,h3⟩:=key;have:=h1.l;obtain⟨i,pK,e2,g1,g2,g3⟩:=amQ (c:=c) (o:=o) h1.v hL (l:=l) (by omega) h3.lt;refine⟨i,pK,fin _ ?_,(h1.trans g1).mono (by omega),g2,fun w=>by simp only[g3,h3.iff]⟩;unfold acP;rw[gk];exact bs e1 (bs e2 rfl)
 ·obtain⟨l,ms,rfl,h1,h2,h3⟩:=hs;rw[cL]at hi;have hx:idx c.im (i:Int)=some (nV (im i)):=by rw[B.eI];exact pC hi
  have:=h1.l;by_cases hq:im i=one
  ·refine⟨(((i+1:Nat):Int),c.u2 ms o l),?_,l,ms,rfl,h1.mono (by omega),by omega,h3.same fun w=> ?_⟩
   ·simp only[NM,HX,un,BC.u2];refine bT (cF hi) (bs hx (bF (by show(((im i:Nat):Int) != (one:Int))=false;simp[hq]) ?_));rw[bY (by omega)]
   ·exact⟨fun⟨x,a,b,d⟩=>⟨x,by rcases fR x i with h|h;exact h;exact absurd (show im x=one by rw[show x=i by omega];exact hq) b,b,d⟩,fun⟨x,a,b,d⟩=>⟨x,by omega,b,d⟩⟩
  ·obtain⟨j,pK,e,g1,g2,g3⟩:=HV (c:=c) (o:=o) h1.v (by omega) hL hi;refine⟨(((i+1:Nat):Int),c.u2 pK o (l++[j])),?_,l++[j],pK,rfl,h1.trans g1,by simp;omega,h3.add h1.v g1 g2 g3 fun w=> ?_⟩
   ·simp only[NM,HX,un,BC.u2];refine bT (cF hi) (bs hx (bT (by show(((im i:Nat):Int) != (one:Int))=true;simp;omega) (bs e (bT (HZ (by omega)) ?_))));rw[bY (by omega),←NN];rfl
   ·constructor
    ·rintro⟨x,a,b,d⟩;rcases fR x i with h|h
     ·exact .inl ⟨x,h,b,d⟩
     ·exact .inr (by rw[d,show x=i by omega])
    ·rintro(⟨x,a,b,d⟩|d)
     ·exact⟨x,by omega,b,d⟩
     ·exact⟨i,by omega,hq,d⟩
 ·rw[cL]at hs;obtain⟨l,ms,rfl,h1,h2,h3⟩:=hs;refine⟨((L:Int),false,c.u2 ms o l),?_,l,ms,rfl,h1,h2,h3⟩;simp only[NM,HX,un,BC.u2];exact bF (cf (aR _)) (by rw[cf (aR _)])
end
noncomputable def H0(C:af)(m:Int)(above t two t34:LV)(t35 t36 bJ:Int)(bC bK bh bL bM bH bI bD bE ao aj lG aw:LV){β:Type}(kn:ay (Int×Int×LV×LV×LV×LV×LV×LV×LV×LV×LV×LV×LV×LV×LV) β)(kr:ay (Int×Bool×Int×LV×LV×LV×LV×LV×LV×LV×LV×LV×LV×LV×LV×LV) β):Option β:=
 bif decide (t36<t35)then
  (idx t34 t36).bind fun x1=>
  (idx two x1.toInt).bind fun x2=>
  (idx x2.toList m).bind fun x3=>
  bif !x3.toBool then
  (C 68 [vI t36,vI bJ,aq bC,cq bK,ab bh,au bL,au bM,bd bH,bd bI,bd bD,ab bE,cz aw,fK ao,ab aj]).bind fun r4=>
  bif Nat.ble ((lG.length+([vI (gI r4)]:LV).length)*8) bf then
   kn (wrap .i64 (t36+1),(dm r4),(jT r4),(jr r4),(oq r4),(qR r4),(sW r4),(sX r4),(sY r4),(sZ r4),(vQ r4),(ux r4),(nq r4),lG++([vI (gI r4)]:LV),(s6 r4))
  else none
  else
  kn (wrap .i64 (t36+1),bJ,bC,bK,bh,bL,bM,bH,bI,bD,bE,ao,aj,lG,aw)
 else
  kr (t36,decide (t36<t35),bJ,bC,bK,bh,bL,bM,bH,bI,bD,bE,ao,aj,lG,aw)
noncomputable def H2(C:af)(m:Int)(above t two t34:LV)(t35:Int):=un fun t36=>un fun bJ=>un fun bC=>un fun bK=>un fun bh=>un fun bL=>un fun bM=>un fun bH=>un fun bI=>un fun bD=>un fun bE=>un fun ao=>un fun aj=>un fun lG aw=>H0 C m above t two t34 t35 t36 bJ bC bK bh bL bM bH bI bD bE ao aj lG aw ct cu
noncomputable def NO(C:af)(m:Int)(t two:LV)(x a y:Int)(t56:LV)(t57 t58:Int)(t66:LV)(t67 t68:Int)(t77:LV)(t78 t79 bJ:Int)(bC bK bh bL bM bH bI bD bE ao aj lG aw:LV){β:Type}(kn:ay (Int×Int×LV×LV×LV×LV×LV×LV×LV×LV×LV×LV×LV×LV×LV) β)(kr:ay (Int×Bool×Int×LV×LV×LV×LV×LV×LV×LV×LV×LV×LV×LV×LV×LV) β):Option β:=
 bif decide (t79<t78)then
  (idx t77 t79).bind fun wc=>
  (idx t y).bind fun uJ=>
  (idx uJ.toList x).bind fun B4=>
  (idx t x).bind fun Ak=>
  (idx Ak.toList wc.toInt).bind fun Nz=>
  (idx two B4.toInt).bind fun HN=>
  (idx HN.toList m).bind fun NP=>
  bif NP.toBool then
  (idx two Nz.toInt).bind fun x33=>
  (idx x33.toList m).bind fun ES=>
  bif ES.toBool then
   (idx t B4.toInt).bind fun Cf=>
   (idx Cf.toList wc.toInt).bind fun EL=>
   (idx two EL.toInt).bind fun UF=>
   (idx UF.toList m).bind fun EM=>
   bif !EM.toBool then
   (C 68 [vI a,vI bJ,aq bC,cq bK,ab bh,au bL,au bM,bd bH,bd bI,bd bD,ab bE,cz aw,fK ao,ab aj]).bind fun mJ=>
   aL (nq mJ) x fun Al=>
   (C 70 (vI (gI mJ)::(vI Al.toInt::(kh mJ (oS mJ []))))).bind fun oW=>
   (C 68 (vI t79::(kh oW (oS oW [])))).bind fun H3=>
   (C 70 (vI (gI oW)::(vI (gI H3)::(kh H3 (oS H3 []))))).bind fun oX=>
   bif Nat.ble ((lG.length+([vI (gI oX)]:LV).length)*8) bf then
    jS aj x <|
    bif (Nat.beq (x.toNat) (x.toNat))&&true then
    (aj[x.toNat]?).bind fun x44=>
    bif decide (x44.toInt=Al.toInt)then
     kn (wrap .i64 (t79+1),(dm oX),(jT oX),(jr oX),(oq oX),(qR oX),(sW oX),(sX oX),(sY oX),(sZ oX),(vQ oX),(ux oX),(nq oX),lG++([vI (gI oX)]:LV),(s6 oX))
    else none
    else none
   else none
   else
   kn (wrap .i64 (t79+1),bJ,bC,bK,bh,bL,bM,bH,bI,bD,bE,ao,aj,lG,aw)
  else
   kn (wrap .i64 (t79+1),bJ,bC,bK,bh,bL,bM,bH,bI,bD,bE,ao,aj,lG,aw)
  else
  kn (wrap .i64 (t79+1),bJ,bC,bK,bh,bL,bM,bH,bI,bD,bE,ao,aj,lG,aw)
 else
  kr (t79,decide (t79<t78),bJ,bC,bK,bh,bL,bM,bH,bI,bD,bE,ao,aj,lG,aw)
noncomputable def NQ(C:af)(m:Int)(t two:LV)(x a y:Int)(t56:LV)(t57 t58:Int)(t66:LV)(t67 t68:Int)(t77:LV)(t78:Int):=un fun t79=>un fun bJ=>un fun bC=>un fun bK=>un fun bh=>un fun bL=>un fun bM=>un fun bH=>un fun bI=>un fun bD=>un fun bE=>un fun ao=>un fun aj=>un fun lG aw=>NO C m t two x a y t56 t57 t58 t66 t67 t68 t77 t78 t79 bJ bC bK bh bL bM bH bI bD bE ao aj lG aw ct cu
noncomputable def NR(C:af)(m:Int)(t two:LV)(x:Int)(t56:LV)(t57 t58:Int)(t66:LV)(t67 t68 bJ:Int)(bC bK bh bL bM bH bI bD bE ao aj lG aw:LV){β:Type}(kn:ay (Int×Int×LV×LV×LV×LV×LV×LV×LV×LV×LV×LV×LV×LV×LV) β)(kr:ay (Int×Bool×Int×LV×LV×LV×LV×LV×LV×LV×LV×LV×LV×LV×LV×LV) β):Option β:=
 bif decide (t68<t67)then
  (idx t66 t68).bind fun uO=>
  (Loop (NQ C m t two x t68 uO.toInt t56 t57 t58 t66 t67 t68 bh (bh.length:Int)) (0,bJ,bC,bK,bh,bL,bM,bH,bI,bD,bE,ao,aj,lG,aw)).bind (un fun amI=>un fun(azQ:Bool)=>un fun acQ=>un fun(acR:LV)=>un fun(acS:LV)=>un fun(acT:LV)=>un fun(aAs:LV)=>un fun(aAt:LV)=>un fun(aAu:LV)=>un fun(aAv:LV)=>un fun(acU:LV)=>un fun(acW:LV)=>un fun(aAw:LV)=>un fun(aAx:LV)=>un fun(aAy:LV) (acX:LV)=>
   kn (wrap .i64 (t68+1),acQ,acR,acS,acT,aAs,aAt,aAu,aAv,acU,acW,aAw,aAx,aAy,acX))
 else
  kr (t68,decide (t68<t67),bJ,bC,bK,bh,bL,bM,bH,bI,bD,bE,ao,aj,lG,aw)
noncomputable def NS(C:af)(m:Int)(t two:LV)(x:Int)(t56:LV)(t57 t58:Int)(t66:LV)(t67:Int):=un fun t68=>un fun bJ=>un fun bC=>un fun bK=>un fun bh=>un fun bL=>un fun bM=>un fun bH=>un fun bI=>un fun bD=>un fun bE=>un fun ao=>un fun aj=>un fun lG aw=>NR C m t two x t56 t57 t58 t66 t67 t68 bJ bC bK bh bL bM bH bI bD bE ao aj lG aw ct cu
noncomputable def NT(C:af)(m:Int)(t two t56:LV)(t57 t58 bJ:Int)(bC bK bh bL bM bH bI bD bE ao aj lG aw:LV){β:Type}(kn:ay (Int×Int×LV×LV×LV×LV×LV×LV×LV×LV×LV×LV×LV×LV×LV) β)(kr:ay (Int×Bool×Int×LV×LV×LV×LV×LV×LV×LV×LV×LV×LV×LV×LV×LV) β):Option β:=
 bif decide (t58<t57)then
  (idx t56 t58).bind fun uK=>
  (Loop (NS C m t two uK.toInt t56 t57 t58 bh (bh.length:Int)) (0,bJ,bC,bK,bh,bL,bM,bH,bI,bD,bE,ao,aj,lG,aw)).bind (un fun azR=>un fun(aI2:Bool)=>un fun acY=>un fun(acZ:LV)=>un fun(aAz:LV)=>un fun(aAA:LV)=>un fun(aAB:LV)=>un fun(aAC:LV)=>un fun(ac0:LV)=>un fun(ac1:LV)=>un fun(ac2:LV)=>un fun(ac3:LV)=>un fun(aAD:LV)=>un fun(aAE:LV)=>un fun(aAF:LV) (aAG:LV)=>
   kn (wrap .i64 (t58+1),acY,acZ,aAz,aAA,aAB,aAC,ac0,ac1,ac2,ac3,aAD,aAE,aAF,aAG))
 else
  kr (t58,decide (t58<t57),bJ,bC,bK,bh,bL,bM,bH,bI,bD,bE,ao,aj,lG,aw)
noncomputable def NU(C:af)(m:Int)(t two t56:LV)(t57:Int):=un fun t58=>un fun bJ=>un fun bC=>un fun bK=>un fun bh=>un fun bL=>un fun bM=>un fun bH=>un fun bI=>un fun bD=>un fun bE=>un fun ao=>un fun aj=>un fun lG aw=>NT C m t two t56 t57 t58 bJ bC bK bh bL bM bH bI bD bE ao aj lG aw ct cu
noncomputable def U0(C:af):da:=cm 65 aaI (aN 21 2097088) [[1,2,3,4,5,6,0,0,0,0,0,0,0,0,0,0,0,0,0,0,0,0]] (@H0 C) (cm 257 aaJ (aN 29 536854528) [[1,2,3,4,5,6,7,8,9,10,11,12,13,14,0,0,0,0,0,0,0,0,0,0,0,0,0,0,0,0]] (@NO C) (cm 209 aaK (aN 24 16776704) [[1,2,3,4,5,6,7,8,9,0,0,0,0,0,0,0,0,0,0,0,0,0,0,0,0]] (@NR C) (cm 161 aaL (aN 20 1048544) [[1,2,3,4,5,0,0,0,0,0,0,0,0,0,0,0,0,0,0,0,0]] (@NT C) bS)))
theorem aAH(C:af):bt C (U0 C) 73 (Lp [1,1,1,0,1,0,0] 73):=cj aaI (aN 21 2097088) [[1,2,3,4,5,6,0,0,0,0,0,0,0,0,0,0,0,0,0,0,0,0]] (@H0 C) (aY ak)
theorem aAI(C:af):bt C (U0 C) 73 (Lp [1,1,1,1,0,1,0,0,1,1,0,0,1,1,0,0,1,1,0,0,1,1,0,0] 73):=cj aaJ (aN 29 536854528) [[1,2,3,4,5,6,7,8,9,10,11,12,13,14,0,0,0,0,0,0,0,0,0,0,0,0,0,0,0,0]] (@NO C) (aY ak)
theorem aAJ(C:af):bt C (U0 C) 73 (Lp [1,1,1,1,0,1,0,0,1,1,0,0,1,1,0,0] 73):=cj aaK (aN 24 16776704) [[1,2,3,4,5,6,7,8,9,0,0,0,0,0,0,0,0,0,0,0,0,0,0,0,0]] (@NR C) (aY (br (aAI C) ak))
theorem aAK(C:af):bt C (U0 C) 73 (Lp [1,1,1,1,0,1,0,0] 73):=cj aaL (aN 20 1048544) [[1,2,3,4,5,0,0,0,0,0,0,0,0,0,0,0,0,0,0,0,0]] (@NT C) (aY (br (aAJ C) ak))
noncomputable def ac4(C:af)(m:Int)(above:LV)(bJ:Int)(bC bK bh bL bM bH bI bD bE aE ao aj:LV):Option LV:=
 (Loop (H2 C m above bC bD bh (bh.length:Int)) (0,bJ,bC,bK,bh,bL,bM,bH,bI,bD,bE,ao,aj,([]:LV),aE)).bind (un fun jV=>un fun(uE:Bool)=>un fun z8=>un fun(B6:LV)=>un fun(B7:LV)=>un fun(B8:LV)=>un fun(B9:LV)=>un fun(Cc:LV)=>un fun(Ce:LV)=>un fun(uS:LV)=>un fun(uT:LV)=>un fun(uU:LV)=>un fun(lz:LV)=>un fun(sf:LV)=>un fun(aAL:LV) (se:LV)=>
  (Loop (NU C m bC bD above (above.length:Int)) (0,z8,B6,B7,B8,B9,Cc,Ce,uS,uT,uU,lz,sf,aAL,se)).bind (un fun aI3=>un fun(aI4:Bool)=>un fun aAM=>un fun(aAN:LV)=>un fun(aAO:LV)=>un fun(aAP:LV)=>un fun(NV:LV)=>un fun(NW:LV)=>un fun(NX:LV)=>un fun(NY:LV)=>un fun(NZ:LV)=>un fun(N3:LV)=>un fun(aAQ:LV)=>un fun(aAR:LV)=>un fun(aAS:LV) (aAT:LV)=>
   some [vI aAM,aq aAN,cq aAO,ab aAP,au NV,au NW,bd NX,bd NY,bd NZ,ab N3,fK aAQ,ab aAR,ab aAS,cz aAT]))
theorem aAU{m:Int}{above:LV}{bJ:Int}{bC bK bh bL bM bH bI bD bE aE ao aj:LV}{r:Option LV}(h:ac4 CC m above bJ bC bK bh bL bM bH bI bD bE aE ao aj=r):CC 73 [vI m,ab above,vI bJ,aq bC,cq bK,ab bh,au bL,au bM,bd bH,bd bI,bd bD,ab bE,cz aE,fK ao,ab aj]=r:=bR (br (aAH CC) (br (aAK CC) ak)) h
end Go.AM
