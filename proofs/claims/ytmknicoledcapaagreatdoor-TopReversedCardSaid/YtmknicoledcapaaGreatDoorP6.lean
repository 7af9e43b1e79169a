/-
  Functions of the program, lifted to plain data.
-/
import Derived.Test.YtmknicoledcapaaGreatDoorP5
set_option linter.unusedVariables false
set_option linter.unusedSimpArgs false
set_option linter.unusedSectionVars false
set_option maxRecDepth 100000
namespace Go.AM
open Go.IntKind (wrap)
open Go.Proofs
def nV(q:Nat):V:=vI (q:Int)
def nS(S:List Nat):List V:=S.map nV
def mS(S:List Nat):List V:=fV nV 0 S
theorem aam(a b:Nat):jk (nV a) (nV b)=decide (a=b):=aAc a b
theorem dE{S:List Nat}:(nS S).length=S.length:=by simp[nS]
theorem z0{S:List Nat}{i:Nat}(h:i<S.length):(nS S)[i]? =some (nV S[i]):=by simp[nS,h]
theorem aAv{x:Nat}(hx:x≤1000000):CC 140 [nV x,ab []]=some [nV 0,ab (nS [x]),.list 216 (mS [x])]:=by
 refine aAf ?_;unfold akq;rw[aak (by omega)];exact bT rfl (bT rfl (bT (cap (by simp) (by omega)) rfl))
theorem aAw{S:List Nat}{x:Nat}(hx:x≤1000000)(hl:S.length≤1000000):CC Yg [nV x,ab (nS S),.list 216 (mS S)]=some [nV ((cN S x).idxOf x),.list 216 (mS (cN S x)),ab (nS (cN S x))]:=by
 refine aAg ?_;unfold akr;have e1:=OX aam x S 0;rw[aak (by omega)];refine bT rfl ?_;rw[adJ];by_cases h:x∈S
 ·refine bF (by rw[show gq (vI (x:Int)) (mS S)=true from e1.trans (cB h)];rfl) ?_;have e2:=OY aam x (vI 0) S 0 h;rw[show kz (vI (x:Int)) (mS S) (vI 0)=_ from e2,aF h,dP,show cN S x=S by unfold cN;rw[aF h]];rfl
 ·refine bT (by rw[show gq (vI (x:Int)) (mS S)=false from e1.trans (dj h)];rfl) ?_;refine bT rfl ?_;refine bT (cap (by rw[dE];simp;omega) (by omega)) ?_;have e2:=OZ aam x S 0 h;rw[dP]at e2;rw[dE,show jl (vI (x:Int)) (vI (S.length:Int)) (mS S)=_ from e2,aD h,show cN S x=S++[x] by unfold cN;rw[aD h]];simp[nS,nV,mS]
theorem aAx{a:Da}{q x:Nat}(hq:q<a.n)(hx:x<a.L):CC 101 (nV q::nV x::eu a)=some (nV (a.nx q x)::eu a):=by
 refine aAd ?_;unfold ako;refine bs (Da.aaj hq) ?_;rw[R0];exact bs (R3 hx) rfl
theorem aAy{a:Da}{q:Nat}(hq:q<a.n):CC 102 (nV q::eu a)=some (.bool (a.fin q)::eu a):=by
 refine aAe ?_;unfold akp;exact bs (Da.aai hq) rfl
section
variable {a:Da}(h:a.Ok)
include h
theorem aAz{S U:List Nat}{q:Nat}(hq:q<a.n)(hS:∀s∈S,s<a.n)(hSn:S.length≤1000)(hp:b9 a.nx S q a.L <+: U){i c1 c2:Int}{l1 l2 l3 l4:List V}:
  Loop (R4 CC (a.L:Int) i (q:Int) ((List.replicate (((a.L:Nat):Int).toNat) (vI 0)).length:Int) c1 c2 (a.L:Int) 0 l1 l2 l3 l4) (0,(a.L:Int),(a.st:Int),a.dN,a.dX,List.replicate (((a.L:Nat):Int).toNat) (vI 0),nS S,mS S)=
   some ((a.L:Int),false,(a.L:Int),(a.st:Int),a.dN,a.dX,(tab a.L fun x=>nV (U.idxOf (a.nx q x))),nS (b9 a.nx S q a.L),mS (b9 a.nx S q a.L)):=by
 have h6:=h.l6;rw[Int.toNat_natCast,p5,en];refine(eZ a.L (fun x=>((x:Int),(a.L:Int),(a.st:Int),a.dN,a.dX,(tab a.L fun j=>if j<x then nV (U.idxOf (a.nx q j))else nV 0),nS (b9 a.nx S q x),mS (b9 a.nx S q x))) _ (fun x hx=> ?_) ?_)
 ·simp only[R4,Ld,un,aA,bc];refine bT (bt hx) ?_;refine bs (aAx hq hx) ?_;have hT:(b9 a.nx S q x).length≤1000000:=by
   have:∀x,(b9 a.nx S q x).length≤S.length+x:=by
    intro x
    induction x with
    |zero=>exact aW _
    |succ x ih=>rw[b9,Gd];grind
   grind
  refine bs (aAw (S:=b9 a.nx S q x) (by have:=h.lH hq hx;have:=h.eb;omega) hT) ?_;refine(nY hx).trans ?_;rw[bu (by omega),Int.toNat_natCast,mw];have e:(cN (b9 a.nx S q x) (a.nx q x)).idxOf (a.nx q x)=U.idxOf (a.nx q x):=(BF ((BG S q (show x+1≤a.L by omega)).trans hp) EB).symm;show some (Sum.inl _)=some (Sum.inl _);refine congrArg (fun x=>some (Sum.inl x)) ?_;refine dm rfl (dm rfl (dm rfl (dm rfl (dm rfl (dm ?_ (dm rfl rfl))))));refine dW fun j _=> ?_;by_cases hj:j=x
  ·rw[aF hj,dG,hj,←e];rfl
  grind
 ·simp only[R4,Ld,un,aA,bc];refine bF (cL (aW _)) ?_;rw[cL (aW _)];have:(tab a.L fun j=>if j<a.L then nV (U.idxOf (a.nx q j))else nV 0)=tab a.L fun j=>nV (U.idxOf (a.nx q j)):=dW fun j hj=>aF hj;rw[this]
theorem aAA:CC 100 ([nV a.L,nV a.st]++eu a)=some ([nV a.L,nV 0,vI 0]++(eu a++[av a.trim.dN,ah a.trim.dX,ab (nS (ar a.L a.nx a.st a.n))])):=by
 have h6:=h.l6;have hm:=h.eb;have hd:=h.yU a.n;refine aAp ?_;unfold akx;refine bs (aAv (by have:=h.s;omega)) ?_;have key:Loop (R5 CC (a.L:Int) 0 0 (a.L:Int) 0 ([]:List V) ([]:List V)) (0,(a.L:Int),(a.st:Int),a.dN,a.dX,nS [a.st],mS [a.st],([]:List V),([]:List V))=
   some (.inr (((ar a.L a.nx a.st a.n).length:Int),false,(a.L:Int),(a.st:Int),a.dN,a.dX,nS (ar a.L a.nx a.st a.n),mS (ar a.L a.nx a.st a.n),a.trim.dN,a.trim.dX)):=by
  refine(eZ (ar a.L a.nx a.st a.n).length (fun i=>((i:Int),(a.L:Int),(a.st:Int),a.dN,a.dX,nS (ar a.L a.nx a.st i),mS (ar a.L a.nx a.st i),(tab i fun j=>V.bool (a.trim.fin j)),(tab i fun j=>mC a.L (a.trim.nx j)))) _ (fun i hi=> ?_) ?_)
  ·have sE:=O0 hd hi;have Vm:(ar a.L a.nx a.st i)[i]=(ar a.L a.nx a.st a.n)[i]:=(sF (show i≤a.n by omega)).getElem sE;have hq:(ar a.L a.nx a.st a.n)[i]<a.n:=h.K9 _ _ (dw hi);have hlen:(ar a.L a.nx a.st i).length≤512:=pJ (h.yU i) hm;have aHr:(ar a.L a.nx a.st (i+1)).length≤512:=pJ (h.yU (i+1)) hm;have si:=K8 hd hi;simp only[R5,Lf,un,aA];refine bT (cB (by rw[dE];omega)) ?_;refine(bJ (z0 sE)).trans ?_;refine bT (gP (by omega) (by omega)) ?_;rw[Vm];refine bs (aAz h hq (h.K9 i) (by omega) (U:=ar a.L a.nx a.st a.n) (by rw[←si];exact sF (by omega))) ?_;rw[←si];refine bF (dj (by rw[dE];omega)) ?_;refine bT (cap (by rw[en];simp;omega) (by omega)) ?_;refine bs (aAy hq) ?_;refine bT (cap (by rw[en];simp;omega) (by omega)) ?_;rw[bu (by omega),BJ,BJ];have e1:a.trim.fin i=a.fin (ar a.L a.nx a.st a.n)[i]:=Vn hi;have e2:mC a.L (a.trim.nx i)=ab (tab a.L fun x=>nV ((ar a.L a.nx a.st a.n).idxOf (a.nx (ar a.L a.nx a.st a.n)[i] x))):=by
    unfold mC;refine congrArg _ (dW fun x hx=> ?_);rw[show a.trim.nx i x=_ from IP hi hx];rfl
   rw[e1,e2];rfl
  ·simp only[R5,Lf,un,aA];rw[Vo hd,dE];refine bF (cL (aW _)) ?_;rw[cL (aW _)];have e3:a.trim.n=(ar a.L a.nx a.st a.n).length:=tD;unfold Da.dN Da.dX;rw[e3];rfl
 refine bs key ?_;rfl
end
def qo(U:List Nat)(n:Nat):List V:=tab n fun q=>if q∈U then nV (U.idxOf q)else vI (-1)
theorem aAB{U:List Nat}{n i:Nat}(hU:U.Nodup)(hi:i<U.length):(tab n fun q=>if q∈U.take i then nV (U.idxOf q)else vI (-1)).set U[i] (vI (i:Int))=tab n fun q=>if q∈U.take (i+1)then nV (U.idxOf q)else vI (-1):=by
 rw[mw];refine dW fun q _=> ?_;have e:q∈U.take (i+1)↔q∈U.take i∨q=U[i]:=by rw[AP hi,ik,jV]
 by_cases hq:q=U[i]
 ·rw[aF hq,aF (e.2 (.inr hq)),hq,hU.idxOf_getElem i hi];rfl
 grind
theorem akA{a:Da}(h:a.Ok):CC 65 (eu a)=some (eu a.trim++[ab (qo (ar a.L a.nx a.st a.n) a.n)]):=by
 have hm:=h.eb;have hU:=h.K9 a.n;have hle:=h.yU a.n;refine aAu ?_;unfold akz;refine bs (su h) ?_;refine bF rfl ?_;refine bs (aAA h) ?_;have e0:(gL (((([nV a.L,nV 0,vI 0]++(eu a++[av a.trim.dN,ah a.trim.dX,ab (nS (ar a.L a.nx a.st a.n))])).drop 3).drop 1).drop 1))=a.dN:=rfl;rw[e0,Da.Et];refine bT (gP (by omega) (by omega)) ?_;rw[Int.toNat_natCast,p5,en];generalize hUd:ar a.L a.nx a.st a.n=U at*
 have l1:∀{c1 c2 c3 c4:Int} {s1 s2 s3 s4 s5:List V},Loop (R6 CC (a.n:Int) c1 c2 c3 c4 s1 s2 s3 s4 s5) (0,tab a.n fun _=>vI 0)=some ((a.n:Int),false,tab a.n fun q=>if q∈U.take 0 then nV (U.idxOf q)else vI (-1)):=by
  intro c1 c2 c3 c4 s1 s2 s3 s4 s5;refine(eZ a.n (fun i=>((i:Int),(tab a.n fun j=>if j<i then vI (-1)else vI 0))) _ (fun i hi=> ?_) ?_)
  ·simp only[R6,Lg,un,aA,bc];refine bT (bt hi) ?_;refine(nY hi).trans ?_;rw[bu (by omega),Int.toNat_natCast,mw];grind
  ·simp only[R6,Lg,un,aA,bc];refine bF (cL (aW _)) ?_;rw[cL (aW _)];refine congrArg (fun x=>some (Sum.inr ((a.n:Int),false,x))) (dW fun j hj=> ?_);grind
 refine bs l1 ?_;simp only[un];have hUn:U.Nodup:=by rw[←hUd];exact Ge _
 have l2:∀{c1 c2 c3 c4:Int} {s2 s3 s4 s5:List V},Loop (R7 CC ((nS U).length:Int) c1 c2 c3 c4 (nS U) s2 s3 s4 s5) (0,tab a.n fun q=>if q∈U.take 0 then nV (U.idxOf q)else vI (-1))=some ((U.length:Int),false,qo U a.n):=by
  intro c1 c2 c3 c4 s2 s3 s4 s5;rw[dE];refine(eZ U.length (fun i=>((i:Int),(tab a.n fun q=>if q∈U.take i then nV (U.idxOf q)else vI (-1)))) _ (fun i hi=> ?_) ?_)
  ·have hq:=hU U[i] (dw hi);simp only[R7,Lh,un,aA,bc];refine bT (bt hi) ?_;refine(bJ (z0 hi)).trans ?_;refine(nY (i:=U[i]) hq).trans ?_;rw[bu (by omega)];refine congrArg (fun x=>some (Sum.inl (((i+1:Nat):Int),x))) ?_;exact aAB hUn hi
  ·simp only[R7,Lh,un,aA,bc];refine bF (cL (aW _)) ?_;rw[cL (aW _),xn];rfl
 refine bs l2 ?_;rfl
noncomputable def Li(C:af)(f t13:LV)(t14 t15:Int){β:Type}(kn:Int→Option β)(kr:((Bool) ⊕ (Int×Bool))→Option β):Option β:=
 bif decide (t15<t14)then
  (idx t13 t15).bind fun x1=>
  bif decide ((x1.toInt:Int)<0)then
  kr (.inl false)
  else
  bif decide ((x1.toInt:Int)≥(f.length:Int))then
   kr (.inl false)
  else
   kn (wrap .i64 (t15+1))
 else
  kr (.inr (t15,decide (t15<t14)))
noncomputable def aan(C:af)(f t13:LV)(t14:Int):=fun t15=>Li C f t13 t14 t15 (fun y=>some (Sum.inl y)) (fun r=>some (Sum.inr r))
noncomputable def aAC(C:af):cp:=bz 65 ZN [Q0,Q0,Q0,Q1] [[0],[1,2,3,0,0]] (@Li C) bh
theorem aAD(C:af):bn C (aAC C) 177 (Lp [1,1,0,1,0,0] 177):=bA ZN [Q0,Q0,Q0,Q1] [[0],[1,2,3,0,0]] (@Li C) (ba an)
noncomputable def akB(C:af)(f:LV):Option LV:=
 bif decide ((f.length:Int)<1)then
  some [.bool false]
 else
  bif decide ((f.length:Int)>32)then
  some [.bool false]
  else
  (Loop (aan C f f (f.length:Int)) 0).bind (ed (fun(v9:Bool)=>
   some [.bool v9]) (un fun(iU:Int) (mr:Bool)=>
   some [.bool true]))
theorem aAE{f:LV}{r:Option LV}(h:akB CC f=r):CC 177 [ab f]=r:=bj (bp (aAD CC) an) h
noncomputable def Lj(C:af)(t14 t15:Int)(fs:LV){β:Type}(kn:(Int×LV)→Option β)(kr:(Int×Bool×LV)→Option β):Option β:=
 bif decide (t15<t14)then
  aA fs t15 fun x1=>
  kn (wrap .i64 (t15+1),bc fs t15 (vI t15))
 else
  kr (t15,decide (t15<t14),fs)
noncomputable def aao(C:af)(t14:Int):=un fun t15 fs=>Lj C t14 t15 fs (fun y=>some (Sum.inl y)) (fun r=>some (Sum.inr r))
noncomputable def aAF(C:af):cp:=bz 81 ZO [Q0,Q1,Q1] [[1,0,0,0]] (@Lj C) bh
theorem aAG(C:af):bn C (aAF C) 179 (Lp [1,1,1,0,1,0,0] 179):=bA ZO [Q0,Q1,Q1] [[1,0,0,0]] (@Lj C) (ba an)
noncomputable def akC(C:af)(n:Int):Option LV:=
 bif decide (n<1)then
  some [ab ([]:LV)]
 else
  bif decide (n>32)then
  some [ab ([]:LV)]
  else
  bif (decide (0≤n))&&((decide (n≤n))&&(Nat.ble ((n.toNat)*8) aR))then
   (Loop (aao C ((List.replicate (n.toNat) (vI 0)).length:Int)) (0,List.replicate (n.toNat) (vI 0))).bind (un fun v9=>un fun(iU:Bool) (aAH:LV)=>
    some [ab aAH])
  else none
theorem aAI{n:Int}{r:Option LV}(h:akC CC n=r):CC 179 [vI n]=r:=bj (bp (aAG CC) an) h
noncomputable def Lk(C:af)(g t26:LV)(t27 t28:Int)(Ll:LV){β:Type}(kn:(Int×LV)→Option β)(kr:(Int×Bool×LV)→Option β):Option β:=
 bif decide (t28<t27)then
  (idx t26 t28).bind fun x3=>
  (idx g x3.toInt).bind fun x4=>
  aA Ll t28 fun x5=>
  kn (wrap .i64 (t28+1),bc Ll t28 (vI x4.toInt))
 else
  kr (t28,decide (t28<t27),Ll)
noncomputable def aap(C:af)(g t26:LV)(t27:Int):=un fun t28 Ll=>Lk C g t26 t27 t28 Ll (fun y=>some (Sum.inl y)) (fun r=>some (Sum.inr r))
noncomputable def aAJ(C:af):cp:=bz 81 ZQ [Q0,Q0,Q0,Q1,Q1] [[1,2,3,0,0,0]] (@Lk C) bh
theorem aAK(C:af):bn C (aAJ C) 181 (Lp [1,1,1,0,1,0,0] 181):=bA ZQ [Q0,Q0,Q0,Q1,Q1] [[1,2,3,0,0,0]] (@Lk C) (ba an)
noncomputable def akD(C:af)(f g:LV):Option LV:=
 bif (f.length:Int) != (g.length:Int)then
  some [ab ([]:LV)]
 else
  (C 177 [ab f]).bind fun r1=>
  bif !(gB r1)then
  some [ab ([]:LV)]
  else
  (C 177 [ab g]).bind fun r2=>
  bif !(gB r2)then
   some [ab ([]:LV)]
  else
   bif (decide (0≤(f.length:Int)))&&((decide ((f.length:Int)≤(f.length:Int)))&&(Nat.ble (((f.length:Int).toNat)*8) aR))then
   (Loop (aap C g f (f.length:Int)) (0,List.replicate ((f.length:Int).toNat) (vI 0))).bind (un fun jD=>un fun(ng:Bool) (aAL:LV)=>
    some [ab aAL])
   else none
theorem aAM{f g:LV}{r:Option LV}(h:akD CC f g=r):CC 181 [ab f,ab g]=r:=bj (bp (aAK CC) an) h
noncomputable def Lm(C:af)(t9:LV)(t10 t11:Int)(Ln:LV){β:Type}(kn:(Int×LV)→Option β)(kr:(Int×Bool×LV)→Option β):Option β:=
 bif decide (t11<t10)then
  (idx t9 t11).bind fun x1=>
  aA Ln t11 fun x2=>
  kn (wrap .i64 (t11+1),bc Ln t11 (.int .u8 (wrap .u8 x1.toInt)))
 else
  kr (t11,decide (t11<t10),Ln)
noncomputable def aaq(C:af)(t9:LV)(t10:Int):=un fun t11 Ln=>Lm C t9 t10 t11 Ln (fun y=>some (Sum.inl y)) (fun r=>some (Sum.inr r))
noncomputable def aAN(C:af):cp:=bz 49 ZP [Q0,Q0,Q1,Q1] [[1,2,0,0,0]] (@Lm C) bh
theorem aAO(C:af):bn C (aAN C) 180 (Lp [1,1,0,1,0,0] 180):=bA ZP [Q0,Q0,Q1,Q1] [[1,2,0,0,0]] (@Lm C) (ba an)
noncomputable def akE(C:af)(f:LV):Option LV:=
 bif (decide (0≤(f.length:Int)))&&((decide ((f.length:Int)≤(f.length:Int)))&&(Nat.ble (((f.length:Int).toNat)*1) aR))then
  (Loop (aaq C f (f.length:Int)) (0,List.replicate ((f.length:Int).toNat) (V.int .u8 0))).bind (un fun iU=>un fun(mr:Bool) (aAP:LV)=>
   some [.str (me aAP)])
 else none
theorem aAQ{f:LV}{r:Option LV}(h:akE CC f=r):CC 180 [ab f]=r:=bj (bp (aAO CC) an) h
section
variable {X R γ:Type}{step:X→Option (X ⊕ R)}
theorem vU(s:Nat→LV→X)(n:Nat)(g:Nat→V)(a0:LV)(h0:a0.length=n)(r:LV→R)
  (h:∀i,i<n→∀a:LV,a.length=n→step (s i a)=some (.inl (s (i+1) (a.set i (g i))))) (he:step (s n (tab n g))=some (.inr (r (tab n g)))):Loop step (s 0 a0)=some (r (tab n g)):=by
 have key:∀i,i≤n→step (s i (tab n fun j=>if j<i then g j else a0.getD j (.bool false)))=if i<n then some (.inl (s (i+1) (tab n fun j=>if j<i+1 then g j else a0.getD j (.bool false))))else some (.inr (r (tab n g))):=by
  intro i hi;by_cases c:i<n
  ·rw[aF c,h i c _ (by simp),mw];grind
  ·rw[aD c];obtain rfl:i=n:=by omega
   rw[show(tab i fun j=>if j<i then g j else a0.getD j (.bool false))=tab i g from dW fun j hj=>aF hj];exact he
 have e0:a0=tab n fun j=>if j<0 then g j else a0.getD j (.bool false):=by
  conv=>lhs;rw[akm a0 (.bool false),h0]
  grind
 rw[e0];refine eZ n (fun i=>s i (tab n fun j=>if j<i then g j else a0.getD j (.bool false))) _ (fun i hi=> ?_) ?_
 all_goals grind
theorem tw{es:LV}{i:Nat}(hi:i<es.length){K:Option γ}:(bif (decide (0≤(i:Int)))&&(decide ((i:Int)<(es.length:Int)))then(es[((i:Int)).toNat]?).bind (fun _=>K)else none)=K:=
 (bJ (bX hi)).trans rfl
end
theorem iT{S:List Nat}{i:Nat}(h:i<S.length):idx (nS S) (i:Int)=some (nV S[i]):=by rw[BE rfl,z0 h]
theorem aar(S:List Nat):nS S=tab S.length fun i=>nV (S.getD i 0):=CY S 0
theorem Gh{i n:Nat}(h:i<n):decide ((i:Int)≥(n:Int))=false:=dj (by omega)
theorem zJ{i:Nat}:decide ((i:Int)<0)=false:=dj (by omega)
def Tr(n:Nat)(f:List Nat):Prop:=f.length=n∧∀y∈f,y<n
def comp(f g:List Nat):List Nat:=f.map fun i=>g.getD i 0
theorem Tr.at{n:Nat}{f:List Nat}(h:Tr n f){i:Nat}(hi:i<f.length):f[i]<n:=h.2 _ (dw hi)
theorem Tr.comp{n:Nat}{f g:List Nat}(hf:Tr n f)(hg:Tr n g):Tr n (comp f g):=by
 refine⟨by simp[Go.AM.comp,hf.1],fun y hy=> ?_⟩;obtain⟨i,hi,rfl⟩:=gm.1 hy;have:=hf.2 i hi;rw[ep (by rw[hg.1];exact this)];exact hg.at _
theorem Lo{n:Nat}:Tr n (List.range n):=⟨by simp,fun y hy=>gn.1 hy⟩
section
variable {n:Nat}{f g:List Nat}(h1:1≤n)(nn:n≤32)
include h1 nn
theorem aas(hf:Tr n f):CC 177 [ab (nS f)]=some [.bool true]:=by
 have hl:=hf.1;refine aAE ?_;unfold akB;rw[dE,hl];refine bF (dj (by omega)) (bF (dj (by omega)) ?_);refine bs (eZ n (fun i=>(i:Int)) (.inr ((n:Int),false)) (fun i hi=> ?_) ?_) rfl
 ·simp only[aan,Li];have bS:i<f.length:=by omega
  refine bT (bt hi) (bs (iT bS) (bF zJ (bF ?_ ?_)))
  ·rw[dE,hl];exact Gh (hf.at bS)
  ·rw[bu (by omega)]
 ·simp only[aan,Li];grind
theorem aAR:CC 179 [vI (n:Int)]=some [ab (nS (List.range n))]:=by
 refine aAI ?_;unfold akC;refine bF (dj (by omega)) (bF (dj (by omega)) (bT (gP (by omega) (by omega)) ?_));rw[Int.toNat_natCast,xo];refine bs (vU (fun i a=>((i:Int),a)) n nV _ (by simp) (fun a=>((n:Int),false,a)) (fun i hi a ha=> ?_) ?_) ?_
 ·simp only[aao,Lj,un,aA,bc];refine bT (bt hi) ((tw (by omega)).trans ?_);rw[bu (by omega),Int.toNat_natCast];rfl
 ·simp only[aao,Lj,un];grind
 ·rw[aar];refine congrArg (fun t=>some [ab t]) ?_;rw[lk];exact dW fun j hj=>by grind
theorem aAS(hf:Tr n f)(hg:Tr n g):CC 181 [ab (nS f),ab (nS g)]=some [ab (nS (comp f g))]:=by
 have hl:=hf.1;have hlg:=hg.1;refine aAM ?_;unfold akD;rw[dE,dE,hl,hlg];refine bF (by simp) (bs (aas h1 nn hf) (bF rfl (bs (aas h1 nn hg) (bF rfl (bT (gP (by omega) (by omega)) ?_)))));rw[Int.toNat_natCast];refine bs (vU (fun i a=>((i:Int),a)) n (fun i=>nV (g.getD (f.getD i 0) 0)) _ (by simp) (fun a=>((n:Int),false,a)) (fun i hi a ha=> ?_) ?_) ?_
 ·simp only[aap,Lk,un,aA,bc];have bS:i<f.length:=by omega
  have h2:=hf.at bS;refine bT (bt hi) (bs (iT bS) (bs (iT (i:=f[i]) (by omega)) ((tw (by omega)).trans ?_)));rw[bu (by omega),Int.toNat_natCast,ep bS,ep (by omega)];rfl
 ·simp only[aap,Lk,un];grind
 ·rw[aar];refine congrArg (fun t=>some [ab t]) ?_;rw[show(comp f g).length=n by simp[comp,hl]];refine dW fun j hj=> ?_;have iY:j<f.length:=by omega
  rw[ep (l:=comp f g) (by simpa[comp]using iY),ep iY];simp[comp]
end
def oR(f:List Nat):List UInt8:=f.map fun y=>UInt8.ofNat y
theorem aAT{n:Nat}(hn:n≤256){f g:List Nat}(hf:Tr n f)(hg:Tr n g)(e:oR f=oR g):f=g:=by
 refine uj (hf.1.trans hg.1.symm) fun i h1 h2=> ?_;have:=List.getElem_of_eq e (i:=i) (by simpa[oR]using h1);simp only[oR,List.getElem_map]at this;have a:=hf.at h1;have b:=hg.at h2;have:=congrArg UInt8.toNat this;simp only[UInt8.toNat_ofNat']at this;omega
theorem aat{n:Nat}{f:List Nat}(hn:n≤32)(hf:Tr n f):CC 180 [ab (nS f)]=some [.str (oR f)]:=by
 have hl:=hf.1;refine aAQ ?_;unfold akE;rw[dE,hl];refine bT (gP (by omega) (by omega)) ?_;rw[Int.toNat_natCast];refine bs (vU (fun i a=>((i:Int),a)) n (fun i=> .int .u8 ((f.getD i 0:Nat):Int)) _ (by simp) (fun a=>((n:Int),false,a)) (fun i hi a ha=> ?_) ?_) ?_
 ·simp only[aaq,Lm,un,aA,bc];have bS:i<f.length:=by omega
  have h2:=hf.at bS;refine bT (bt hi) (bs (iT bS) ((tw (by omega)).trans ?_));rw[bu (by omega),Int.toNat_natCast,ep bS,show(nV f[i]).toInt=(f[i]:Int)from rfl,auU (by omega) (by omega)]
 ·simp only[aaq,Lm,un];grind
 ·refine congrArg (fun t=>some [V.str t]) ?_;rw[←hl];have:(tab f.length fun i=>V.int .u8 ((f.getD i 0:Nat):Int))=f.map fun y=> .int .u8 (y:Int):=(CY (f:=fun y:Nat=>V.int .u8 (y:Int)) f 0).symm;rw[this];simp[me,oR]
end Go.AM
set_option maxRecDepth 100000
namespace Go.AM
open Go.IntKind (wrap)
section
variable {α:Type}[DecidableEq α]{L:Nat}{next:α→Nat→α}{a0:α}
theorem Vk(S:List α)(a:α):∀x,(b9 next S a x).length≤S.length+x
 |0=>aW _
 |x+1=>by
  have:=Vk S a x;rw[b9,Gd];grind
theorem aAU{m:Nat}(h:(ar L next a0 m).length≤m)(i:Nat):(ar L next a0 i).length≤m:=by
 rcases jG m i with c|c
 ·rw[K6 h (by omega)];exact h
 ·exact pJ (sF c).length_le h
theorem apM{k:Nat}(hd:(ar L next a0 k).length≤k)(i:Nat):(ar L next a0 i).length≤(ar L next a0 k).length:=by
 rcases jG k i with c|c
 ·rw[K6 hd (by omega)];omega
 ·exact(sF c).length_le
theorem apQ{k m:Nat}(h:m<(ar L next a0 k).length):m<(ar L next a0 m).length:=by
 rcases jG m (ar L next a0 m).length with c|c
 ·exact c
 ·have:=aAU c k;omega
theorem apP{m:Nat}(h:m<(ar L next a0 m).length)(hm:1≤m):∃i,i<m∧(∀j,j≤i→j<(ar L next a0 j).length∧(ar L next a0 j).length≤m)∧m<(ar L next a0 (i+1)).length:=by
 have key:∀d k,k+d=m→(∀j,j≤k→(ar L next a0 j).length≤m)→∃i,i<m∧(∀j,j≤i→j<(ar L next a0 j).length∧(ar L next a0 j).length≤m)∧m<(ar L next a0 (i+1)).length:=by
  intro d
  induction d with
  |zero=>
   grind
  |succ d ih=>
   intro k hk hj;rcases jG m (ar L next a0 (k+1)).length with c|c
   ·refine⟨k,by omega,fun j hjk=>⟨?_,hj j hjk⟩,c⟩;rcases jG j (ar L next a0 j).length with c1|c1
    ·exact c1
    ·have h1:=hj j hjk;rw[←K6 c1 (show j≤m by omega)]at h1;omega
   ·refine ih (k+1) (by omega) fun j mn=> ?_;grind
 exact key m 0 (by omega) fun j hj=>by rw[Nat.le_zero.1 hj];simp[ar];omega
theorem apJ{P:α→Prop}(h0:P a0)(hP:∀a,P a→∀x,x<L→P (next a x))(i:Nat):∀a∈ar L next a0 i,P a:=by
 intro a ha;obtain⟨w,hw,rfl⟩:=K7 i a ha;have:∀(w:List Nat) (b:α),P b→WL L w→P (w.foldl next b):=by
  intro w
  induction w with
  |nil=>grind
  |cons x w ih=>intro b hb hw;exact ih _ (hP b hb x hw.head) hw.tail
 grind
end
end Go.AM
set_option maxRecDepth 100000
namespace Go.AM
open Go.IntKind (wrap)
open Go.Proofs
noncomputable def akF(C:af)(f:LV)(Lq last:Int)(word:List UInt8)(behind bQ:Int)(bY:Bool)(dc:Int)(aT aE aH aL aP aB aK br bH bP:LV):Option LV:=
 (C 180 [ab f]).bind fun r1=>
 bif Nat.ble ((gS r1).length) maxLen&&true then
  bif Nat.ble ((aE.length+([ab f]:LV).length)*24) aR then
  bif Nat.ble ((aH.length+([vI Lq]:LV).length)*8) aR then
   bif Nat.ble ((aL.length+([vI last]:LV).length)*8) aR then
   bif Nat.ble ((br.length+([.str word]:LV).length)*16) aR then
    bif Nat.ble ((bH.length+([vI behind]:LV).length)*8) aR then
    some [vI (aE.length:Int),vI bQ,.bool bY,vI dc,ah aT,dL (jl (.str (gS r1)) (vI (aE.length:Int)) aK),ah (aE++([ab f]:LV)),ab (aH++([vI Lq]:LV)),ab (aL++([vI last]:LV)),ah aP,gR aB,cY (br++([.str word]:LV)),ab (bH++([vI behind]:LV)),ab bP]
    else none
   else none
   else none
  else none
  else none
 else none
theorem aAV{f:LV}{Lq last:Int}{word:List UInt8}{behind bQ:Int}{bY:Bool}{dc:Int}{aT aE aH aL aP aB aK br bH bP:LV}{r:Option LV}(h:akF CC f Lq last word behind bQ bY dc aT aE aH aL aP aB aK br bH bP=r):CC 178 [ab f,vI Lq,vI last,.str word,vI behind,vI bQ,.bool bY,vI dc,ah aT,ah aE,ab aH,ab aL,ah aP,gR aB,dL aK,cY br,ab bH,ab bP]=r:=bj (L:=bh) an h
noncomputable def akG(C:af)(i x bQ:Int)(bY:Bool)(dc:Int)(aT aE aH aL aP aB aK br bH bP:LV):Option LV:=
 bif i==(-1)then
  aA bP x fun x1=>
  some [vI x1.toInt,vI bQ,.bool bY,vI dc,ah aT,dL aK,ah aE,ab aH,ab aL,ah aP,gR aB,cY br,ab bH,ab bP]
 else
  aA aP i fun x2=>
  (idx x2.toList x).bind fun x3=>
  some [vI x3.toInt,vI bQ,.bool bY,vI dc,ah aT,dL aK,ah aE,ab aH,ab aL,ah aP,gR aB,cY br,ab bH,ab bP]
theorem aAW{i x bQ:Int}{bY:Bool}{dc:Int}{aT aE aH aL aP aB aK br bH bP:LV}{r:Option LV}(h:akG CC i x bQ bY dc aT aE aH aL aP aB aK br bH bP=r):CC 182 [vI i,vI x,vI bQ,.bool bY,vI dc,ah aT,ah aE,ab aH,ab aL,ah aP,gR aB,dL aK,cY br,ab bH,ab bP]=r:=bj (L:=bh) an h
noncomputable def akH(C:af)(bQ:Int)(bY:Bool)(dc:Int)(aT aE aH aL aP aB aK br bH bP:LV):Option LV:=
 some [.bool (dc==(aE.length:Int)),vI bQ,.bool bY,vI dc,dL aK,ah aT,ah aE,ab aH,ab aL,ah aP,gR aB,cY br,ab bH,ab bP]
theorem aAX{bQ:Int}{bY:Bool}{dc:Int}{aT aE aH aL aP aB aK br bH bP:LV}{r:Option LV}(h:akH CC bQ bY dc aT aE aH aL aP aB aK br bH bP=r):CC 143 [vI bQ,.bool bY,vI dc,ah aT,ah aE,ab aH,ab aL,ah aP,gR aB,dL aK,cY br,ab bH,ab bP]=r:=bj (L:=bh) an h
noncomputable def R8(C:af)(i x bQ:Int)(bY:Bool)(dc:Int)(aT aE aH aL aP aB aK br bH bP:LV):Option LV:=
 (C 182 [vI i,vI x,vI bQ,.bool bY,vI dc,ah aT,ah aE,ab aH,ab aL,ah aP,gR aB,dL aK,cY br,ab bH,ab bP]).bind fun r1=>
 aA (gL (((((r1.drop 1).drop 3).drop 1).drop 1).drop 1)) (gI r1) fun x2=>
 bif (x2.toInt:Int)==i then
  aA (gL ((((((r1.drop 1).drop 3).drop 1).drop 1).drop 1).drop 1)) (gI r1) fun x3=>
  some [.bool ((x3.toInt:Int)==x),vI (gI (r1.drop 1)),.bool (gB ((r1.drop 1).drop 1)),vI (gI (((r1.drop 1).drop 1).drop 1)),ah (gL ((r1.drop 1).drop 3)),dL (gL (((r1.drop 1).drop 3).drop 1)),ah (gL ((((r1.drop 1).drop 3).drop 1).drop 1)),ab (gL (((((r1.drop 1).drop 3).drop 1).drop 1).drop 1)),ab (gL ((((((r1.drop 1).drop 3).drop 1).drop 1).drop 1).drop 1)),ah (gL (((((((r1.drop 1).drop 3).drop 1).drop 1).drop 1).drop 1).drop 1)),gR (gL ((((((((r1.drop 1).drop 3).drop 1).drop 1).drop 1).drop 1).drop 1).drop 1)),cY (gL (((((((((r1.drop 1).drop 3).drop 1).drop 1).drop 1).drop 1).drop 1).drop 1).drop 1)),ab (gL ((((((((((r1.drop 1).drop 3).drop 1).drop 1).drop 1).drop 1).drop 1).drop 1).drop 1).drop 1)),ab (gL (((((((((((r1.drop 1).drop 3).drop 1).drop 1).drop 1).drop 1).drop 1).drop 1).drop 1).drop 1).drop 1))]
 else
  some [.bool false,vI (gI (r1.drop 1)),.bool (gB ((r1.drop 1).drop 1)),vI (gI (((r1.drop 1).drop 1).drop 1)),ah (gL ((r1.drop 1).drop 3)),dL (gL (((r1.drop 1).drop 3).drop 1)),ah (gL ((((r1.drop 1).drop 3).drop 1).drop 1)),ab (gL (((((r1.drop 1).drop 3).drop 1).drop 1).drop 1)),ab (gL ((((((r1.drop 1).drop 3).drop 1).drop 1).drop 1).drop 1)),ah (gL (((((((r1.drop 1).drop 3).drop 1).drop 1).drop 1).drop 1).drop 1)),gR (gL ((((((((r1.drop 1).drop 3).drop 1).drop 1).drop 1).drop 1).drop 1).drop 1)),cY (gL (((((((((r1.drop 1).drop 3).drop 1).drop 1).drop 1).drop 1).drop 1).drop 1).drop 1)),ab (gL ((((((((((r1.drop 1).drop 3).drop 1).drop 1).drop 1).drop 1).drop 1).drop 1).drop 1).drop 1)),ab (gL (((((((((((r1.drop 1).drop 3).drop 1).drop 1).drop 1).drop 1).drop 1).drop 1).drop 1).drop 1).drop 1))]
theorem aAY{i x bQ:Int}{bY:Bool}{dc:Int}{aT aE aH aL aP aB aK br bH bP:LV}{r:Option LV}(h:R8 CC i x bQ bY dc aT aE aH aL aP aB aK br bH bP=r):CC 183 [vI i,vI x,vI bQ,.bool bY,vI dc,ah aT,ah aE,ab aH,ab aL,ah aP,gR aB,dL aK,cY br,ab bH,ab bP]=r:=bj (L:=bh) an h
section
variable {X R:Type}{step:X→Option (X ⊕ R)}
theorem zM(P:Nat→X→Prop)(Q:R→Prop)(n:Nat)(h:∀i,i<n→∀x,P i x→(∃y,step x=some (.inl y)∧P (i+1) y)∨∃r,step x=some (.inr r)∧Q r)
  (he:∀x,P n x→∃r,step x=some (.inr r)∧Q r):∀(d i:Nat) (x:X),i+d=n→P i x→∃r,Loop step x=some r∧Q r
 |0,i,x,hi,hx=>by
  obtain rfl:i=n:=hi;obtain⟨r,h1,h2⟩:=he x hx;exact⟨r,gH h1,h2⟩
 |d+1,i,x,hi,hx=>by
  rcases h i (by omega) x hx with⟨y,h1,h2⟩|⟨r,h1,h2⟩
  ·obtain⟨r,h3,h4⟩:=zM P Q n h he d (i+1) y (by omega) h2;exact⟨r,(gp h1).trans h3,h4⟩
  ·exact⟨r,gH h1,h2⟩
end
section
variable {α:Type}[DecidableEq α]{ke:α→V}{x:α}
theorem aau:∀{S:List α} (i:Nat),(∀a∈S,jk (ke x) (ke a)=decide (x=a))→gq (ke x) (fV ke i S)=decide (x∈S)
 | [],_,_=>by simp[fV,gq]
 |a::S,i,h=>by
  have c:∀(p q:V),(V.bf [p,q]).comp 0=p:=fun p q=>rfl;rw[fV,gq,c,h a (by simp),aau (i+1) fun b hb=>h b (jU _ hb)];grind
theorem akI{z:V}:∀{S:List α} (i:Nat),(∀a∈S,jk (ke x) (ke a)=decide (x=a))→x∈S→kz (ke x) (fV ke i S) z=vI ((i+S.idxOf x:Nat):Int)
 | [],_,_,h=>by cases h
 |a::S,i,hk,h=>by
  have c:∀(p q:V),(V.bf [p,q]).comp 0=p:=fun p q=>rfl;have c1:∀(p q:V),(V.bf [p,q]).comp 1=q:=fun p q=>rfl;rw[fV,kz,c,c1,hk a (by simp)];by_cases e:x=a
  ·subst e;rw[cB rfl];simp[fV.iV]
  ·rw[dj e,cond_false,akI (i+1) (fun b hb=>hk b (jU _ hb)) ((jg.1 h).resolve_left e),show(a::S).idxOf x=S.idxOf x+1 from by grind];grind
theorem akJ:∀{S:List α} (i:Nat),(∀a∈S,jk (ke x) (ke a)=decide (x=a))→x∉S→jl (ke x) (vI ((i+S.length:Nat):Int)) (fV ke i S)=fV ke i (S++[x])
 | [],i,_,_=>by simp[fV,jl,fV.iV]
 |a::S,i,hk,h=>by
  have c:∀(p q:V),(V.bf [p,q]).comp 0=p:=fun p q=>rfl;have e:x≠a:=fun e=>h (by simp[e]);rw[fV,jl,c,hk a (by simp),dj e,cond_false,List.cons_append,fV];congr 1;have:=akJ (i+1) (fun b hb=>hk b (jU _ hb)) fun hx=>h (jU _ hx);grind
end
section
variable {α:Type}[DecidableEq α]{ke:α→V}{x:α}{S T:List α}
def iO(S:List α)(a:α):Nat:=S.idxOf a
theorem vu(h:x∈S):iO S x<S.length:=GX h
theorem akK(hp:T <+: S)(h:x∈T):iO S x=iO T x:=BF hp h
theorem aav(h:x∈S):S[iO S x]'(vu h)=x:=List.getElem_idxOf (vu h)
theorem aaw(h:S.Nodup){i:Nat}(hi:i<S.length):iO S S[i]=i:=h.idxOf_getElem i hi
theorem aAZ(h:x∉S):iO (S++[x]) x=S.length:=by rw[iO,List.idxOf_append,aD h];simp
theorem akL(h:∀a∈S,jk (ke x) (ke a)=decide (x=a))(hx:x∈S):gq (ke x) (fV ke 0 S)=true:=(aau 0 h).trans (cB hx)
theorem akM(h:∀a∈S,jk (ke x) (ke a)=decide (x=a))(hx:x∉S):gq (ke x) (fV ke 0 S)=false:=(aau 0 h).trans (dj hx)
theorem akN{z:V}(h:∀a∈S,jk (ke x) (ke a)=decide (x=a))(hx:x∈S):(kz (ke x) (fV ke 0 S) z).toInt=((iO S x:Nat):Int):=by rw[akI 0 h hx,dP];rfl
end
theorem aA0(a b:List UInt8):jk (.str a) (.str b)=decide (a=b):=by
 simp only[jk,V.cells,qK,xu,Bool.and_true];grind
def tV(f:List Nat):V:=ab (nS f)
def sV(S:List (List Nat)):LV:=S.map tV
def kT(f:List Nat):V:= .str (oR f)
def mT(S:List (List Nat)):LV:=fV kT 0 S
def iL(l:List Int):LV:=l.map fun x=>vI x
def wL(l:List (List UInt8)):LV:=l.map V.str
theorem sZ{f:List Nat}:(tV f).toList=nS f:=by simp[tV]
theorem aax{n:Nat}(hn:n≤32){S:List (List Nat)}(hS:∀f∈S,Tr n f){f:List Nat}(hf:Tr n f):∀a∈S,jk (kT f) (kT a)=decide (f=a):=fun a ha=>by
 rw[kT,kT,aA0,Dz,GY,GY];exact⟨fun e=>aAT (by omega) hf (hS a ha) e,fun e=>by rw[e]⟩
theorem Lr{S:List (List Nat)}{i:Nat}(h:i<S.length):(sV S)[i]? =some (tV S[i]):=by simp[sV,h]
theorem xh{l:List Int}{i:Nat}(h:i<l.length):(iL l)[i]? =some (vI (l.getD i 0)):=by simp[iL,h]
theorem AG{l:List (List UInt8)}{i:Nat}(h:i<l.length):(wL l)[i]? =some (.str (l.getD i [])):=by simp[wL,h]
@[simp] theorem AH {S:List (List Nat)}:(sV S).length=S.length:=by simp[sV]
@[simp] theorem aHs {l:List Int}:(iL l).length=l.length:=by simp[iL]
@[simp] theorem aHt {l:List (List UInt8)}:(wL l).length=l.length:=by simp[wL]
def AI(n D:Nat)(G:LV)(S:List (List Nat))(P K:List Int)(R:List (List Nat))(U:LV)(W:List (List UInt8))(B:List Int)(s:List Nat):List V:=
 [vI (n:Int),.bool true,vI (D:Int),ah G,ah (sV S),ab (iL P),ab (iL K),ah (sV R),gR U,dL (mT S),cY (wL W),ab (iL B),ab (nS s)]
def R9(n D:Nat)(G:LV)(S:List (List Nat))(P K:List Int)(R:List (List Nat))(U:LV)(W:List (List UInt8))(B:List Int)(s:List Nat):List V:=
 [vI (n:Int),.bool true,vI (D:Int),ah G,dL (mT S),ah (sV S),ab (iL P),ab (iL K),ah (sV R),gR U,cY (wL W),ab (iL B),ab (nS s)]
def yW(R:List (List Nat))(s:List Nat)(b:Int)(x:Nat):Nat:=if b= -1 then s.getD x 0 else(R.getD b.toNat []).getD x 0
structure lj(L n:Nat)(g:Nat→List Nat)(S:List (List Nat))(P K:List Int)(R:List (List Nat))(W:List (List UInt8))(B:List Int)(s:List Nat):Prop where
 tr:∀f∈S,Tr n f
 nd:S.Nodup
 len:S.length≤2000
 lP:P.length=S.length
 lK:K.length=S.length
 lW:W.length=S.length
 lB:B.length=S.length
 row:∀r∈R,r.length=L∧∀y∈r,y<S.length
 s:s.length≤L∧∀y∈s,y<S.length
 b:∀i,i<S.length→B.getD i 0= -1∨(0≤B.getD i 0∧B.getD i 0<i)
 w:∀i,i<S.length→(W.getD i []).length≤i
 p:∀i,0<i→i<S.length→∃p x:Nat,P.getD i 0=p∧K.getD i 0=x∧p<i∧x<L∧S.getD i []=comp (S.getD p []) (g x)
 id:S.head? =some (List.range n)
section
variable {L n D:Nat}{g:Nat→List Nat}{S:List (List Nat)}{P K:List Int}{R:List (List Nat)}{W:List (List UInt8)}{B:List Int}{s:List Nat}{G U:LV}
theorem lj.grow(h:lj L n g S P K R W B s){f:List Nat}(hf:Tr n f)(hn:f∉S)(hl:S.length<2000){p x:Nat}{w:List UInt8}{b:Int}(hp:p<S.length)(hx:x<L)(hw:w.length≤S.length)(hb:b= -1∨(0≤b∧b<S.length))(e:f=comp (S.getD p []) (g x)):
  lj L n g (S++[f]) (P++[(p:Int)]) (K++[(x:Int)]) R (W++[w]) (B++[b]) s:=by
 have a1:∀{α:Type} {l:List α} {z d:α} {i:Nat},i<l.length→(l++[z]).getD i d=l.getD i d:=fun {α l z d i} hi=>by
  grind
 have a2:∀{α:Type} {l:List α} {z d:α} {i:Nat},i=l.length→(l++[z]).getD i d=z:=fun {α l z d i} hi=>by grind
 have c:∀i,i<(S++[f]).length→i<S.length∨i=S.length:=fun i hi=>by grind
 refine⟨fun a ha=> ?_,?_,by simp;omega,by simp[h.lP],by simp[h.lK],by simp[h.lW],by simp[h.lB],fun r hr=>⟨(h.row r hr).1,fun y hy=>by have:=(h.row r hr).2 y hy;simp;omega⟩,⟨h.s.1,fun y hy=>by have:=h.s.2 y hy;simp;omega⟩,fun i hi=> ?_,fun i hi=> ?_,fun i h0 hi=> ?_,?_⟩
 ·rcases ik.1 ha with ha|ha
  ·exact h.tr a ha
  grind
 ·refine MZ.2 ⟨h.nd,by simp,fun a ha b hb e=> ?_⟩;grind
 ·rcases c i hi with c|c
  ·rw[a1 (by rw[h.lB];exact c)];exact h.b i c
  ·rw[a2 (by rw[h.lB];exact c),c];exact hb
 ·rcases c i hi with c|c
  ·rw[a1 (by rw[h.lW];exact c)];exact h.w i c
  ·rw[a2 (by rw[h.lW];exact c),c];exact hw
 ·rcases c i hi with c|c
  ·obtain⟨p,x,q1,q2,q3,q4,q5⟩:=h.p i h0 c;exact⟨p,x,by rw[a1 (by rw[h.lP];exact c)];exact q1,by rw[a1 (by rw[h.lK];exact c)];exact q2,q3,q4,by grind⟩
  ·exact⟨p,x,a2 (by rw[h.lP];exact c),a2 (by rw[h.lK];exact c),by omega,hx,by grind⟩
 ·have:=h.id;grind
theorem lj.pos(h:lj L n g S P K R W B s):0<S.length:=by
 have:=h.id;grind
theorem akO(h:lj L n g S P K R W B s){b:Int}{x:Nat}(hx:x<L)(hs:b= -1→x<s.length)(hb:b= -1∨(0≤b∧b<R.length)):yW R s b x<S.length:=by
 unfold yW;split
 ·rename_i e;rw[ep (hs e)];exact h.s.2 _ (dw _)
 ·rename_i e;obtain⟨h1,h2⟩:=hb.resolve_left e;have h3:b.toNat<R.length:=by omega
  have:=h.row R[b.toNat] (dw h3);simp_all
theorem aay(hn:n≤32)(hS:∀f∈S,Tr n f){f:List Nat}(hf:Tr n f)(yw:f∉S)(h1:S.length≤2000)(h2:P.length≤2000)(h3:K.length≤2000)(h4:W.length≤2000)(h5:B.length≤2000){p k b:Int}{w:List UInt8}:
  CC 178 ([tV f,vI p,vI k,.str w,vI b]++AI n D G S P K R U W B s)=some (nV S.length::R9 n D G (S++[f]) (P++[p]) (K++[k]) R U (W++[w]) (B++[b]) s):=by
 have hl:=hf.1;refine aAV ?_;unfold akF;refine bs (aat hn hf) ?_;have e1:(oR f).length=n:=by simp[oR,hl]
 refine bT (mW.2 ⟨AV (by rw[show(gS [V.str (oR f)])=oR f from rfl,e1];unfold maxLen;omega),rfl⟩) ?_;refine bT (cap (by simp;omega) (by omega)) (bT (cap (by simp;omega) (by omega)) (bT (cap (by simp;omega) (by omega)) (bT (cap (by simp;omega) (by omega)) (bT (cap (by simp;omega) (by omega)) ?_))));have e2:=akJ (ke:=kT) 0 (aax hn hS hf) yw;rw[dP]at e2;rw[AH];unfold R9 mT;rw[←e2];simp[sV,iL,wL,nV,tV];rfl
theorem aaz{b:Int}{x:Nat}(h:lj L n g S P K R W B s)(hx:x<L)(hs:b= -1→x<s.length)(hb:b= -1∨(0≤b∧b<R.length)):
  CC 182 ([vI b,nV x]++AI n D G S P K R U W B s)=some (nV (yW R s b x)::R9 n D G S P K R U W B s):=by
 refine aAW ?_;unfold akG yW;by_cases e:b= -1
 ·rw[aF e];refine bT (by simp[e]) ((bJ (z0 (hs e))).trans ?_);rw[ep (hs e)];rfl
 ·rw[aD e];obtain⟨h1,h2⟩:=hb.resolve_left e;obtain⟨k,rfl⟩:=MM h1;have h3:k<R.length:=by omega
  have h4:=(h.row R[k] (dw h3)).1;refine bF (by grind) ((bJ (Lr h3)).trans ?_);rw[sZ];refine bs (iT (by omega)) ?_;rw[show((k:Int)).toNat=k from Int.toNat_natCast k,ep h3,ep (by omega)];rfl
theorem aA1{b:Int}{x:Nat}(h:lj L n g S P K R W B s)(hx:x<L)(hs:b= -1→x<s.length)(hb:b= -1∨(0≤b∧b<R.length)):
  ∃c,CC 183 ([vI b,nV x]++AI n D G S P K R U W B s)=some (.bool c::R9 n D G S P K R U W B s):=by
 have h1:=akO h hx hs hb;have e:∀r,R8 CC b (x:Int) (n:Int) true (D:Int) G (sV S) (iL P) (iL K) (sV R) U (mT S) (wL W) (iL B) (nS s)=r→CC 183 ([vI b,nV x]++AI n D G S P K R U W B s)=r:=fun r h=>aAY h;by_cases c1:P.getD (yW R s b x) 0=b
 ·refine⟨K.getD (yW R s b x) 0==(x:Int),e _ ?_⟩;unfold R8;refine bs (aaz h hx hs hb) ((bJ (xh (by rw[h.lP];exact h1))).trans (bT ?_ ((bJ (xh (by rw[h.lK];exact h1))).trans rfl)));simp_all
 ·refine⟨false,e _ ?_⟩;unfold R8;refine bs (aaz h hx hs hb) ((bJ (xh (by rw[h.lP];exact h1))).trans (bF ?_ rfl));simp_all
theorem aaA:CC 143 (AI n D G S P K R U W B s)=some [.bool ((D:Int)==(S.length:Int)),vI (n:Int),.bool true,vI (D:Int),dL (mT S),ah G,ah (sV S),ab (iL P),ab (iL K),ah (sV R),gR U,cY (wL W),ab (iL B),ab (nS s)]:=by
 refine aAX ?_;unfold akH;rw[AH]
end
noncomputable def xi(C:af)(u x i:Int)(aaB:List UInt8)(t28 t29:Int)(t78:Bool)(bQ:Int)(bY:Bool)(dc:Int)(aK rows fs vw gi gj gE gU dY gk iD lT:LV){β:Type}(kr:(Int×Int×Bool×Int×LV×LV×LV×LV×LV×LV×LV×LV×LV×LV)→Option β):Option β:=
 bif t78 then
  aA iD u fun x6=>
  (C 182 [vI x6.toInt,vI x,vI bQ,.bool bY,vI dc,ah vw,ah gi,ab gj,ab gE,ah gU,gR dY,dL aK,cY gk,ab iD,ab lT]).bind fun r7=>
  (C 178 [ab fs,vI u,vI x,.str aaB,vI (gI r7),vI (gI (r7.drop 1)),.bool (gB ((r7.drop 1).drop 1)),vI (gI (((r7.drop 1).drop 1).drop 1)),ah (gL ((r7.drop 1).drop 3)),ah (gL ((((r7.drop 1).drop 3).drop 1).drop 1)),ab (gL (((((r7.drop 1).drop 3).drop 1).drop 1).drop 1)),ab (gL ((((((r7.drop 1).drop 3).drop 1).drop 1).drop 1).drop 1)),ah (gL (((((((r7.drop 1).drop 3).drop 1).drop 1).drop 1).drop 1).drop 1)),gR (gL ((((((((r7.drop 1).drop 3).drop 1).drop 1).drop 1).drop 1).drop 1).drop 1)),dL (gL (((r7.drop 1).drop 3).drop 1)),cY (gL (((((((((r7.drop 1).drop 3).drop 1).drop 1).drop 1).drop 1).drop 1).drop 1).drop 1)),ab (gL ((((((((((r7.drop 1).drop 3).drop 1).drop 1).drop 1).drop 1).drop 1).drop 1).drop 1).drop 1)),ab (gL (((((((((((r7.drop 1).drop 3).drop 1).drop 1).drop 1).drop 1).drop 1).drop 1).drop 1).drop 1).drop 1))]).bind fun r8=>
  kr ((gI r8),(gI (r8.drop 1)),(gB ((r8.drop 1).drop 1)),(gI (((r8.drop 1).drop 1).drop 1)),(gL (((r8.drop 1).drop 3).drop 1)),(gL ((r8.drop 1).drop 3)),(gL ((((r8.drop 1).drop 3).drop 1).drop 1)),(gL (((((r8.drop 1).drop 3).drop 1).drop 1).drop 1)),(gL ((((((r8.drop 1).drop 3).drop 1).drop 1).drop 1).drop 1)),(gL (((((((r8.drop 1).drop 3).drop 1).drop 1).drop 1).drop 1).drop 1)),(gL ((((((((r8.drop 1).drop 3).drop 1).drop 1).drop 1).drop 1).drop 1).drop 1)),(gL (((((((((r8.drop 1).drop 3).drop 1).drop 1).drop 1).drop 1).drop 1).drop 1).drop 1)),(gL ((((((((((r8.drop 1).drop 3).drop 1).drop 1).drop 1).drop 1).drop 1).drop 1).drop 1).drop 1)),(gL (((((((((((r8.drop 1).drop 3).drop 1).drop 1).drop 1).drop 1).drop 1).drop 1).drop 1).drop 1).drop 1)))
 else
  aA gk u fun x9=>
  bif !(x9.toStr==[])then
  aA iD u fun mA=>
  (C 183 [vI mA.toInt,vI x,vI bQ,.bool bY,vI dc,ah vw,ah gi,ab gj,ab gE,ah gU,gR dY,dL aK,cY gk,ab iD,ab lT]).bind fun cq=>
  bif (gB cq)then
   aA (gL (((((((((cq.drop 1).drop 3).drop 1).drop 1).drop 1).drop 1).drop 1).drop 1).drop 1)) i fun ka=>
   bif Nat.ble (((gL ((((((((cq.drop 1).drop 3).drop 1).drop 1).drop 1).drop 1).drop 1).drop 1)).length+([.agg [.str aaB,.str ka.toStr]]:LV).length)*32) aR then
   kr (i,(gI (cq.drop 1)),(gB ((cq.drop 1).drop 1)),(gI (((cq.drop 1).drop 1).drop 1)),(gL (((cq.drop 1).drop 3).drop 1)),(gL ((cq.drop 1).drop 3)),(gL ((((cq.drop 1).drop 3).drop 1).drop 1)),(gL (((((cq.drop 1).drop 3).drop 1).drop 1).drop 1)),(gL ((((((cq.drop 1).drop 3).drop 1).drop 1).drop 1).drop 1)),(gL (((((((cq.drop 1).drop 3).drop 1).drop 1).drop 1).drop 1).drop 1)),(gL ((((((((cq.drop 1).drop 3).drop 1).drop 1).drop 1).drop 1).drop 1).drop 1))++([.agg [.str aaB,.str ka.toStr]]:LV),(gL (((((((((cq.drop 1).drop 3).drop 1).drop 1).drop 1).drop 1).drop 1).drop 1).drop 1)),(gL ((((((((((cq.drop 1).drop 3).drop 1).drop 1).drop 1).drop 1).drop 1).drop 1).drop 1).drop 1)),(gL (((((((((((cq.drop 1).drop 3).drop 1).drop 1).drop 1).drop 1).drop 1).drop 1).drop 1).drop 1).drop 1)))
   else none
  else
   kr (i,(gI (cq.drop 1)),(gB ((cq.drop 1).drop 1)),(gI (((cq.drop 1).drop 1).drop 1)),(gL (((cq.drop 1).drop 3).drop 1)),(gL ((cq.drop 1).drop 3)),(gL ((((cq.drop 1).drop 3).drop 1).drop 1)),(gL (((((cq.drop 1).drop 3).drop 1).drop 1).drop 1)),(gL ((((((cq.drop 1).drop 3).drop 1).drop 1).drop 1).drop 1)),(gL (((((((cq.drop 1).drop 3).drop 1).drop 1).drop 1).drop 1).drop 1)),(gL ((((((((cq.drop 1).drop 3).drop 1).drop 1).drop 1).drop 1).drop 1).drop 1)),(gL (((((((((cq.drop 1).drop 3).drop 1).drop 1).drop 1).drop 1).drop 1).drop 1).drop 1)),(gL ((((((((((cq.drop 1).drop 3).drop 1).drop 1).drop 1).drop 1).drop 1).drop 1).drop 1).drop 1)),(gL (((((((((((cq.drop 1).drop 3).drop 1).drop 1).drop 1).drop 1).drop 1).drop 1).drop 1).drop 1).drop 1)))
  else
  kr (i,bQ,bY,dc,aK,vw,gi,gj,gE,gU,dY,gk,iD,lT)
noncomputable def Ls(C:af)(u t28 t29 bQ:Int)(bY:Bool)(dc:Int)(aK rows vw iE gi gj gE gU dY gk iD:LV){β:Type}(kn:(Int×Int×Bool×Int×LV×LV×LV×LV×LV×LV×LV×LV×LV×LV×LV)→Option β)(kr:((Int×Int×Bool×Int×LV×LV×LV×LV×LV×LV×LV×LV×LV×LV) ⊕ (Int×Bool×Int×Bool×Int×LV×LV×LV×LV×LV×LV×LV×LV×LV×LV×LV))→Option β):Option β:=
 bif decide (t29<t28)then
  aA vw t29 fun x1=>
  aA iE u fun x2=>
  (C 181 [ab x2.toList,ab x1.toList]).bind fun r3=>
  (C 180 [ab (gL r3)]).bind fun r4=>
  bif Nat.ble ((gS r4).length) maxLen&&true then
  aA dY u fun x5=>
  bif (decide (0≤(wrap .i32 (wrap .i64 (97+t29)))))&&(decide ((wrap .i32 (wrap .i64 (97+t29)))<128))then
   bif Nat.ble (x5.toStr.length+[UInt8.ofNat ((wrap .i32 (wrap .i64 (97+t29)):Int).toNat)].length) qJ then
   bif !(gq (.str (gS r4)) aK)then
    bif (iE.length:Int)==2000 then
    kr (.inl (3,bQ,bY,dc,aK,vw,iE,gi,gj,gE,gU,dY,gk,iD))
    else
    xi C u t29 ((kz (.str (gS r4)) aK (vI 0)).toInt) (x5.toStr++[UInt8.ofNat ((wrap .i32 (wrap .i64 (97+t29)):Int).toNat)]) t28 t29 (!(gq (.str (gS r4)) aK)) bQ bY dc aK rows (gL r3) vw iE gi gj gE gU dY gk iD (un fun aA2=>un fun aA3=>un fun(K4:Bool)=>un fun K5=>un fun(sD:LV)=>un fun(aA4:LV)=>un fun(p9:LV)=>un fun(rE:LV)=>un fun(C3:LV)=>un fun(yi:LV)=>un fun(tC:LV)=>un fun(ym:LV)=>un fun(Sa:LV) (Sb:LV)=>
     aA rows t29 fun PK=>
     kn (wrap .i64 (t29+1),aA3,K4,K5,sD,bc rows t29 (vI aA2),aA4,p9,rE,C3,yi,tC,ym,Sa,Sb))
   else
    xi C u t29 ((kz (.str (gS r4)) aK (vI 0)).toInt) (x5.toStr++[UInt8.ofNat ((wrap .i32 (wrap .i64 (97+t29)):Int).toNat)]) t28 t29 (!(gq (.str (gS r4)) aK)) bQ bY dc aK rows (gL r3) vw iE gi gj gE gU dY gk iD (un fun Sd=>un fun aaC=>un fun(aaD:Bool)=>un fun aaE=>un fun(aal:LV)=>un fun(aA5:LV)=>un fun(zT:LV)=>un fun(BC:LV)=>un fun(IL:LV)=>un fun(Lt:LV)=>un fun(Lu:LV)=>un fun(Lv:LV)=>un fun(Lw:LV) (Gi:LV)=>
     aA rows t29 fun O5=>
     kn (wrap .i64 (t29+1),aaC,aaD,aaE,aal,bc rows t29 (vI Sd),aA5,zT,BC,IL,Lt,Lu,Lv,Lw,Gi))
   else none
  else none
  else none
 else
  kr (.inr (t29,decide (t29<t28),bQ,bY,dc,aK,rows,vw,iE,gi,gj,gE,gU,dY,gk,iD))
noncomputable def Gj(C:af)(u t28:Int):=un fun t29=>un fun bQ=>un fun bY=>un fun dc=>un fun aK=>un fun rows=>un fun vw=>un fun iE=>un fun gi=>un fun gj=>un fun gE=>un fun gU=>un fun dY=>un fun gk iD=>Ls C u t28 t29 bQ bY dc aK rows vw iE gi gj gE gU dY gk iD (fun y=>some (Sum.inl y)) (fun r=>some (Sum.inr r))
noncomputable def akP(C:af):cp:=zY 1263 Zt [[1,2,0,5,6,0,0,0,0,12,0,0,0,0,0,0,0,0,0]] (@xi C) (bz 65 Zu [Q0,Q0,Q1,Q1,Q1,Q1,Q1,Q1,Q1,Q1,Q1,Q1,Q1,Q1,Q1,Q1,Q1] [[0,0,0,0,0,0,0,0,0,0,0,0,0,0],[1,2,0,0,0,0,0,0,0,0,0,0,0,0,0,0,0,0]] (@Ls C) bh)
theorem aA6(C:af):bn C (akP C) 144 (Cd 78 [1,1,1,0,1,0,0,1,1,0,0,1,1,1,1,0,0,1,1,1,0] [1,1,1,0,1,0,0,1,1,0,0,1,1,1,1,0,0,1,1,1,1] 144):=zZ Zt [[1,2,0,5,6,0,0,0,0,12,0,0,0,0,0,0,0,0,0]] (@xi C) (ba an) (ba an)
theorem aA7(C:af):bn C (akP C) 144 (Lp [1,1,1,0,1,0,0] 144):=bA Zu [Q0,Q0,Q1,Q1,Q1,Q1,Q1,Q1,Q1,Q1,Q1,Q1,Q1,Q1,Q1,Q1,Q1] [[0,0,0,0,0,0,0,0,0,0,0,0,0,0],[1,2,0,0,0,0,0,0,0,0,0,0,0,0,0,0,0,0]] (@Ls C) (ba (bp (aA6 C) an))
noncomputable def Se(C:af)(bQ:Int)(bY:Bool)(dc:Int)(aT aE aH aL aP aB aK br bH bP:LV):Option LV:=
 bif (decide (0≤(aT.length:Int)))&&((decide ((aT.length:Int)≤(aT.length:Int)))&&(Nat.ble (((aT.length:Int).toNat)*8) aR))then
  (Loop (Gj C dc (aT.length:Int)) (0,bQ,bY,dc,aK,List.replicate ((aT.length:Int).toNat) (vI 0),aT,aE,aH,aL,aP,aB,br,bH,bP)).bind (ed (un fun aaF=>un fun Lx=>un fun(aaG:Bool)=>un fun aaH=>un fun(Gk:LV)=>un fun(AJ:LV)=>un fun(Ly:LV)=>un fun(aaI:LV)=>un fun(BL:LV)=>un fun(aaJ:LV)=>un fun(aaK:LV)=>un fun(aaL:LV)=>un fun(aaM:LV) (aaN:LV)=>
   some [vI aaF,vI Lx,.bool aaG,vI aaH,dL Gk,ah AJ,ah Ly,ab aaI,ab BL,ah aaJ,gR aaK,cY aaL,ab aaM,ab aaN]) (un fun aA8=>un fun(aA9:Bool)=>un fun aBa=>un fun(aBb:Bool)=>un fun aBc=>un fun(aBd:LV)=>un fun(akQ:LV)=>un fun(aBe:LV)=>un fun(aBf:LV)=>un fun(aBg:LV)=>un fun(aBh:LV)=>un fun(akR:LV)=>un fun(aBi:LV)=>un fun(aBj:LV)=>un fun(aBk:LV) (aBl:LV)=>
   bif Nat.ble ((akR.length+([ab akQ]:LV).length)*24) aR then
   some [vI 0,vI aBa,.bool aBb,vI (wrap .i64 (aBc+1)),dL aBd,ah aBe,ah aBf,ab aBg,ab aBh,ah (akR++([ab akQ]:LV)),gR aBi,cY aBj,ab aBk,ab aBl]
   else none))
 else none
theorem aBm{bQ:Int}{bY:Bool}{dc:Int}{aT aE aH aL aP aB aK br bH bP:LV}{r:Option LV}(h:Se CC bQ bY dc aT aE aH aL aP aB aK br bH bP=r):CC 144 [vI bQ,.bool bY,vI dc,ah aT,ah aE,ab aH,ab aL,ah aP,gR aB,dL aK,cY br,ab bH,ab bP]=r:=bj (bp (aA7 CC) an) h
theorem cg2{α β γ:Sort _}{f:α→β→γ}{a a':α}{b b':β}(h:a=a')(k:b=b'):f a b=f a' b':=by rw[h,k]
theorem wrap32{x:Int}(h1: -2147483648≤x)(h2:x<2147483648):wrap .i32 x=x:=by
 unfold IntKind.wrap;simp only[IntKind.bits,IntKind.signed];grind
theorem LA{x:Nat}(h:x<31):((decide (0≤(wrap .i32 (wrap .i64 (97+(x:Int))))))&&(decide ((wrap .i32 (wrap .i64 (97+(x:Int))))<128)))=true:=by
 rw[lF,wrap32 (by omega) (by omega)];grind
section
variable {L n D:Nat}{g:Nat→List Nat}{S:List (List Nat)}{P K:List Int}{R:List (List Nat)}{W:List (List UInt8)}{B:List Int}{s:List Nat}{G U:LV}
section
variable (h:lj L n g S P K R W B s)(hs:s.length=L)(hD:D<S.length)(hR:R.length=D)
include h hD hR in
theorem aaO:B.getD D 0= -1∨(0≤B.getD D 0∧B.getD D 0<R.length):=by rw[hR];exact h.b D hD
include h hs hD hR
theorem aBn{x i:Nat}(hx:x<L)(hi:i<S.length)(hU:U.length≤100000){w:List UInt8}{t28 t29:Int}{rows fs:LV}:
  ∃U':LV,U'.length≤U.length+1∧∀{β:Type} (kr:(Int×Int×Bool×Int×LV×LV×LV×LV×LV×LV×LV×LV×LV×LV)→Option β),xi CC (D:Int) (x:Int) (i:Int) w t28 t29 false (n:Int) true (D:Int) (mT S) rows fs G (sV S) (iL P) (iL K) (sV R) U (wL W) (iL B) (nS s) kr=
   kr ((i:Int),(n:Int),true,(D:Int),mT S,G,sV S,iL P,iL K,sV R,U',wL W,iL B,nS s):=by
 simp only[xi];obtain⟨c,hc⟩:=aA1 (D:=D) (G:=G) (U:=U) h hx (fun _=>by omega) (aaO h hD hR);have e1:D<W.length:=by rw[h.lW];exact hD
 have e2:D<B.length:=by rw[h.lB];exact hD
 by_cases e0:W.getD D []=[]
 ·refine⟨U,by omega,fun kr=>bF rfl ((bJ (AG e1)).trans (bF ?_ rfl))⟩;simp_all
 ·have e3:(!((V.str (W.getD D [])).toStr==[]))=true:=by
   simp_all
  cases c with
  |false=>exact⟨U,by omega,fun kr=>bF rfl ((bJ (AG e1)).trans (bT e3 ((bJ (xh e2)).trans (bs hc rfl))))⟩
  |true=>
   refine⟨_,?_,fun kr=>bF rfl ((bJ (AG e1)).trans (bT e3 ((bJ (xh e2)).trans (bs hc (bT rfl ((bJ (AG (by rw[h.lW];exact hi))).trans (bT (cap (m:=32) ?_ (by omega)) rfl)))))))⟩
   ·show(U++[_]).length≤_;simp
   ·show U.length+1≤_;omega
theorem aBo{x:Nat}{i:Int}(hx:x<L)(hn:n≤32){f:List Nat}(hf:Tr n f)(yw:f∉S){w:List UInt8}{t28 t29:Int}{rows:LV}{β:Type}(kr:(Int×Int×Bool×Int×LV×LV×LV×LV×LV×LV×LV×LV×LV×LV)→Option β):
  xi CC (D:Int) (x:Int) i w t28 t29 true (n:Int) true (D:Int) (mT S) rows (nS f) G (sV S) (iL P) (iL K) (sV R) U (wL W) (iL B) (nS s) kr=
   kr ((S.length:Int),(n:Int),true,(D:Int),mT (S++[f]),G,sV (S++[f]),iL (P++[(D:Int)]),iL (K++[(x:Int)]),sV R,U,wL (W++[w]),iL (B++[(yW R s (B.getD D 0) x:Int)]),nS s):=by
 unfold xi;have e2:D<B.length:=by rw[h.lB];exact hD
 have hl:=h.len;refine bT rfl ((bJ (xh e2)).trans (bs (aaz h hx (fun _=>by omega) (aaO h hD hR)) (bs (aay hn h.tr hf yw hl ?_ ?_ ?_ ?_) rfl)))
 ·rw[h.lP];exact hl
 ·rw[h.lK];exact hl
 ·rw[h.lW];exact hl
 ·rw[h.lB];exact hl
end
def bC(g:Nat→List Nat)(f:List Nat)(x:Nat):List Nat:=comp f (g x)
def gV(L:Nat)(g:Nat→List Nat):LV:=tab L fun x=>tV (g x)
def yX(n D L:Nat)(g:Nat→List Nat)(T:List (List Nat))(f:List Nat)(x:Nat)(S:List (List Nat))(P K:List Int)(R:List (List Nat))(U:LV)(W:List (List UInt8))(B:List Int)(s:List Nat):Int×Int×Bool×Int×LV×LV×LV×LV×LV×LV×LV×LV×LV×LV×LV:=
 ((x:Int),(n:Int),true,(D:Int),mT S,(tab L fun j=>if j<x then nV (iO T (bC g f j))else vI 0),gV L g,sV S,iL P,iL K,sV R,U,wL W,iL B,nS s)
def C4(n:Nat):Prop:= ∃T:List (List Nat),T.Nodup∧(∀f∈T,Tr n f)∧T.length=2000
theorem aBp(h:lj L n g S P K R W B s)(hs:s.length=L)(hR:R.length=D)(hn:1≤n)(pH:n≤32)(hg:∀x,x<L→Tr n (g x))(hL:L≤6){f:List Nat}(hD:S[D]? =some f){U2:List (List Nat)}{x:Nat}(hx:x<L)(tS:cN S (bC g f x) <+: U2)(hU:U.length≤100000):
  (∃P' K' U' W' B',Gj CC (D:Int) (L:Int) (yX n D L g U2 f x S P K R U W B s)=some (.inl (yX n D L g U2 f (x+1) (cN S (bC g f x)) P' K' R U' W' B' s))∧lj L n g (cN S (bC g f x)) P' K' R W' B' s∧U'.length≤U.length+1)∨
  ∃t,Gj CC (D:Int) (L:Int) (yX n D L g U2 f x S P K R U W B s)=some (.inr (.inl (3,t)))∧C4 n:=by
 obtain⟨rV,rfl⟩:=cw.1 hD;have hlen:=h.len;have rW:Tr n (bC g S[D] x):=(h.tr _ (dw rV)).comp (hg x hx);have kH:iO U2 (bC g S[D] x)=iO (cN S (bC g S[D] x)) (bC g S[D] x):=akK tS EB;have jK:(tab L fun j=>if j<x then nV (iO U2 (bC g S[D] j))else vI 0).set x (nV (iO U2 (bC g S[D] x)))=tab L fun j=>if j<x+1 then nV (iO U2 (bC g S[D] j))else vI 0:=by
  rw[mw];grind
 have hW:=h.w D rV;have hWl:D<W.length:=by rw[h.lW];exact rV
 have hxg:(gV L g)[x]? =some (tV (g x)):=nj hx;have hC:CC 181 [ab (tV S[D]).toList,ab (tV (g x)).toList]=some [tV (bC g S[D] x)]:=by
  rw[sZ,sZ];exact aAS hn pH (h.tr _ (dw rV)) (hg x hx)
 have hX:CC 180 [ab (gL [tV (bC g S[D] x)])]=some [kT (bC g S[D] x)]:=by
  rw[show(gL [tV (bC g S[D] x)])=nS (bC g S[D] x)from sZ];exact aat pH rW
 have uQ:(Nat.ble ((gS [kT (bC g S[D] x)]).length) maxLen&&true)=true:=by
  refine mW.2 ⟨AV ?_,rfl⟩;rw[show(gS [kT (bC g S[D] x)])=oR (bC g S[D] x)from rfl,show(oR (bC g S[D] x)).length=n by simp[oR,rW.1]];unfold maxLen;omega
 have hms:∀b:UInt8,Nat.ble ((V.str (W.getD D [])).toStr.length+[b].length) qJ=true:=fun b=>by
  refine AV ?_;show(W.getD D []).length+1≤qJ;unfold qJ;omega
 have Ah:=aax pH h.tr rW;simp only[Gj,Ls,un,yX,aA,bc];by_cases hk:bC g S[D] x∈S
 ·obtain⟨U2',hU2,he⟩:=aBn (G:=gV L g) (U:=U) (D:=D) h hs rV hR hx (vu hk) hU
   (w:=W.getD D []++[UInt8.ofNat ((wrap .i32 (wrap .i64 (97+(x:Int))):Int).toNat)]) (t28:=(L:Int)) (t29:=(x:Int)) (rows:=tab L fun j=>if j<x then nV (iO U2 (bC g S[D] j))else vI 0) (fs:=nS (bC g S[D] x))
  have C6:cN S (bC g S[D] x)=S:=by rw[cN,aF hk]
  rw[C6]at kH⊢;have hm:gq (kT (bC g S[D] x)) (mT S)=true:=akL Ah hk;refine .inl ⟨P,K,U2',W,B,bT (bt hx) ((bJ hxg).trans ((bJ (Lr rV)).trans (bs hC (bs hX (bT uQ ((bJ (AG hWl)).trans (bT (LA (by omega)) (bT (hms _) (bF ?_ ?_))))))))),h,hU2⟩
  ·exact congrArg (!·) hm
  ·refine(cg2 (f:=fun i b=>xi CC (D:Int) (x:Int) i _ (L:Int) (x:Int) b (n:Int) true (D:Int) (mT S) _ _ (gV L g) (sV S) (iL P) (iL K) (sV R) U (wL W) (iL B) (nS s) _) (akN Ah hk) (congrArg (!·) hm)).trans ((he _).trans ((tw (by simp_all)).trans ?_))
   rw[bu (by omega),Int.toNat_natCast,←jK,kH];rfl
 ·have hm:gq (kT (bC g S[D] x)) (mT S)=false:=akM Ah hk;have C6:cN S (bC g S[D] x)=S++[bC g S[D] x]:=by rw[cN,aD hk]
  by_cases aBq:S.length=2000
  ·refine .inr ⟨_,bT (bt hx) ((bJ hxg).trans ((bJ (Lr rV)).trans (bs hC (bs hX (bT uQ ((bJ (AG hWl)).trans (bT (LA (by omega)) (bT (hms _) (bT ?_ (bT ?_ rfl)))))))))),S,h.nd,h.tr,aBq⟩
   ·exact congrArg (!·) hm
   simp_all
  ·rw[C6]at kH⊢;have sj:=aaO h rV hR;have dx:=akO h hx (fun _=>by omega) sj;refine .inl ⟨P++[(D:Int)],K++[(x:Int)],U,W++[W.getD D []++[UInt8.ofNat ((wrap .i32 (wrap .i64 (97+(x:Int))):Int).toNat)]],B++[(yW R s (B.getD D 0) x:Int)],bT (bt hx) ((bJ hxg).trans ((bJ (Lr rV)).trans (bs hC (bs hX (bT uQ ((bJ (AG hWl)).trans (bT (LA (by omega)) (bT (hms _) (bT ?_ (bF ?_ ?_)))))))))),h.grow rW hk (by omega) (p:=D) (x:=x) (b:=(yW R s (B.getD D 0) x:Int)) rV hx ?_ (.inr ⟨by omega,by omega⟩) ?_,Nat.le_succ _⟩
   ·exact congrArg (!·) hm
   ·simp;omega
   ·refine(congrArg (fun b=>xi CC (D:Int) (x:Int) _ _ (L:Int) (x:Int) b (n:Int) true (D:Int) (mT S) _ _ (gV L g) (sV S) (iL P) (iL K) (sV R) U (wL W) (iL B) (nS s) _) (congrArg (!·) hm)).trans ?_;refine(aBo h hs rV hR hx pH rW hk _).trans ((tw (by simp_all)).trans ?_)
    rw[bu (by omega),Int.toNat_natCast,←jK,kH];rw[aAZ hk];rfl
   ·grind
   ·rw[ep rV];rfl
end
noncomputable def LB(C:af)(qp:Bool)(t39:LV)(t40 bQ:Int)(bY:Bool)(dc:Int)(aE aH aL aP aB aK br bH bP:LV)(t41:Int)(aT:LV){β:Type}(kn:(Int×LV)→Option β)(kr:((Int) ⊕ (Int×Bool×LV))→Option β):Option β:=
 bif decide (t41<t40)then
  (idx t39 t41).bind fun x2=>
  bif (x2.toList.length:Int) != bQ then
  kr (.inl 4)
  else
  (C 177 [ab x2.toList]).bind fun r3=>
  bif !(gB r3)then
   kr (.inl 4)
  else
   bif Nat.ble (x2.toList.length*8) aR then
   bif Nat.ble ((aT.length+([ab x2.toList]:LV).length)*24) aR then
    kn (wrap .i64 (t41+1),aT++([ab x2.toList]:LV))
   else none
   else none
 else
  kr (.inr (t41,decide (t41<t40),aT))
noncomputable def Sf(C:af)(qp:Bool)(t39:LV)(t40 bQ:Int)(bY:Bool)(dc:Int)(aE aH aL aP aB aK br bH bP:LV):=un fun t41 aT=>LB C qp t39 t40 bQ bY dc aE aH aL aP aB aK br bH bP t41 aT (fun y=>some (Sum.inl y)) (fun r=>some (Sum.inr r))
noncomputable def LC(C:af)(empty:Int)(t72:Bool)(bQ:Int)(bY:Bool)(dc:Int)(aT aE aH aL aP aB aK br bH bP:LV){β:Type}(kr:(Int×Int×Bool×Int×LV×LV×LV×LV×LV×LV×LV×LV×LV×LV)→Option β):Option β:=
 bif t72 then
  (C 179 [vI bQ]).bind fun r8=>
  (C 178 [ab (gL r8),vI (-1),vI (-1),.str [],vI (-1),vI bQ,.bool bY,vI dc,ah aT,ah aE,ab aH,ab aL,ah aP,gR aB,dL aK,cY br,ab bH,ab bP]).bind fun r9=>
  kr ((gI r9),(gI (r9.drop 1)),(gB ((r9.drop 1).drop 1)),(gI (((r9.drop 1).drop 1).drop 1)),(gL ((r9.drop 1).drop 3)),(gL ((((r9.drop 1).drop 3).drop 1).drop 1)),(gL (((((r9.drop 1).drop 3).drop 1).drop 1).drop 1)),(gL ((((((r9.drop 1).drop 3).drop 1).drop 1).drop 1).drop 1)),(gL (((((((r9.drop 1).drop 3).drop 1).drop 1).drop 1).drop 1).drop 1)),(gL ((((((((r9.drop 1).drop 3).drop 1).drop 1).drop 1).drop 1).drop 1).drop 1)),(gL (((r9.drop 1).drop 3).drop 1)),(gL (((((((((r9.drop 1).drop 3).drop 1).drop 1).drop 1).drop 1).drop 1).drop 1).drop 1)),(gL ((((((((((r9.drop 1).drop 3).drop 1).drop 1).drop 1).drop 1).drop 1).drop 1).drop 1).drop 1)),(gL (((((((((((r9.drop 1).drop 3).drop 1).drop 1).drop 1).drop 1).drop 1).drop 1).drop 1).drop 1).drop 1)))
 else
  kr (empty,bQ,bY,dc,aT,aE,aH,aL,aP,aB,aK,br,bH,bP)
noncomputable def C7(C:af)(empty x:Int)(g:LV)(letter:List UInt8)(i t86 t87:Int)(t106:Bool)(bQ:Int)(bY:Bool)(dc:Int)(AK aE aH aL aP aB aK br bH bP:LV){β:Type}(kr:(Int×Int×Bool×Int×LV×LV×LV×LV×LV×LV×LV×LV×LV×LV)→Option β):Option β:=
 bif t106 then
  aA br i fun EX=>
  bif Nat.ble ((aB.length+([.agg [.str letter,.str EX.toStr]]:LV).length)*32) aR then
  kr (i,bQ,bY,dc,AK,aE,aH,aL,aP,aB++([.agg [.str letter,.str EX.toStr]]:LV),aK,br,bH,bP)
  else none
 else
  bif Nat.ble (g.length*8) aR then
  (C 178 [ab g,vI empty,vI x,.str letter,vI empty,vI bQ,.bool bY,vI dc,ah AK,ah aE,ab aH,ab aL,ah aP,gR aB,dL aK,cY br,ab bH,ab bP]).bind fun rX=>
  kr ((gI rX),(gI (rX.drop 1)),(gB ((rX.drop 1).drop 1)),(gI (((rX.drop 1).drop 1).drop 1)),(gL ((rX.drop 1).drop 3)),(gL ((((rX.drop 1).drop 3).drop 1).drop 1)),(gL (((((rX.drop 1).drop 3).drop 1).drop 1).drop 1)),(gL ((((((rX.drop 1).drop 3).drop 1).drop 1).drop 1).drop 1)),(gL (((((((rX.drop 1).drop 3).drop 1).drop 1).drop 1).drop 1).drop 1)),(gL ((((((((rX.drop 1).drop 3).drop 1).drop 1).drop 1).drop 1).drop 1).drop 1)),(gL (((rX.drop 1).drop 3).drop 1)),(gL (((((((((rX.drop 1).drop 3).drop 1).drop 1).drop 1).drop 1).drop 1).drop 1).drop 1)),(gL ((((((((((rX.drop 1).drop 3).drop 1).drop 1).drop 1).drop 1).drop 1).drop 1).drop 1).drop 1)),(gL (((((((((((rX.drop 1).drop 3).drop 1).drop 1).drop 1).drop 1).drop 1).drop 1).drop 1).drop 1).drop 1)))
  else none
noncomputable def LD(C:af)(empty t86 t87 bQ:Int)(bY:Bool)(dc:Int)(AK aE aH aL aP aB aK br bH bP:LV){β:Type}(kn:(Int×Int×Bool×Int×LV×LV×LV×LV×LV×LV×LV×LV×LV×LV)→Option β)(kr:(Int×Bool×Int×Bool×Int×LV×LV×LV×LV×LV×LV×LV×LV×LV×LV)→Option β):Option β:=
 bif decide (t87<t86)then
  aA AK t87 fun EW=>
  bif (decide (0≤(wrap .i32 (wrap .i64 (97+t87)))))&&(decide ((wrap .i32 (wrap .i64 (97+t87)))<128))then
  (C 180 [ab EW.toList]).bind fun r25=>
  bif Nat.ble ((gS r25).length) maxLen&&true then
   C7 C empty t87 EW.toList [UInt8.ofNat ((wrap .i32 (wrap .i64 (97+t87)):Int).toNat)] ((kz (.str (gS r25)) aK (vI 0)).toInt) t86 t87 (gq (.str (gS r25)) aK) bQ bY dc AK aE aH aL aP aB aK br bH bP (un fun Sd=>un fun aaC=>un fun(aaD:Bool)=>un fun aaE=>un fun(aBr:LV)=>un fun(OW:LV)=>un fun(zT:LV)=>un fun(BC:LV)=>un fun(IL:LV)=>un fun(Lt:LV)=>un fun(Lu:LV)=>un fun(Lv:LV)=>un fun(Lw:LV) (Gi:LV)=>
    bif Nat.ble ((Gi.length+([vI Sd]:LV).length)*8) aR then
    kn (wrap .i64 (t87+1),aaC,aaD,aaE,aBr,OW,zT,BC,IL,Lt,Lu,Lv,Lw,Gi++([vI Sd]:LV))
    else none)
  else none
  else none
 else
  kr (t87,decide (t87<t86),bQ,bY,dc,AK,aE,aH,aL,aP,aB,aK,br,bH,bP)
noncomputable def LF(C:af)(empty t86:Int):=un fun t87=>un fun bQ=>un fun bY=>un fun dc=>un fun AK=>un fun aE=>un fun aH=>un fun aL=>un fun aP=>un fun aB=>un fun aK=>un fun br=>un fun bH bP=>LD C empty t86 t87 bQ bY dc AK aE aH aL aP aB aK br bH bP (fun y=>some (Sum.inl y)) (fun r=>some (Sum.inr r))
noncomputable def Sg(C:af):cp:=bz 97 Zp [Q0,Q0,Q0,Q1,Q0,Q0,Q0,Q1,Q0,Q0,Q0,Q0,Q0,Q0,Q0,Q0,Q0] [[0],[1,2,3,0,0,5,6,7,0,9,10,11,12,13,14,15,16,17]] (@LB C) (zY 1167 Zq [[0,0,0,0,0,0,0,0,0,0,0,0,0,0]] (@LC C) (zY 1711 Zr [[1,0,6,7,0,0,0,0,0,0,0,0,0,0,0,0,0]] (@C7 C) (bz 257 Zs [Q0,Q0,Q1,Q1,Q1,Q1,Q1,Q1,Q1,Q1,Q1,Q1,Q1,Q1,Q1,Q1] [[1,2,0,0,0,0,0,0,0,0,0,0,0,0,0,0,0]] (@LD C) bh)))
theorem aBs(C:af):bn C (Sg C) 142 (Lp [1,1,1,1,0,1,0,0] 142):=bA Zp [Q0,Q0,Q0,Q1,Q0,Q0,Q0,Q1,Q0,Q0,Q0,Q0,Q0,Q0,Q0,Q0,Q0] [[0],[1,2,3,0,0,5,6,7,0,9,10,11,12,13,14,15,16,17]] (@LB C) (ba an)
theorem aBt(C:af):bn C (Sg C) 142 (Cd 72 [1,1,1,1,1,1,0,1,0] [1,1,1,1,1,1,0,1,1] 142):=zZ Zq [[0,0,0,0,0,0,0,0,0,0,0,0,0,0]] (@LC C) (ba an) (ba an)
theorem aBu(C:af):bn C (Sg C) 142 (Cd 106 [1,1,1,1,1,1,1,0,1,0,0,1,1,0,0,1,1,1,0,1,0] [1,1,1,1,1,1,1,0,1,0,0,1,1,0,0,1,1,1,0,1,1] 142):=zZ Zr [[1,0,6,7,0,0,0,0,0,0,0,0,0,0,0,0,0]] (@C7 C) (ba an) (ba an)
theorem aBv(C:af):bn C (Sg C) 142 (Lp [1,1,1,1,1,1,1,0,1,0,0] 142):=bA Zs [Q0,Q0,Q1,Q1,Q1,Q1,Q1,Q1,Q1,Q1,Q1,Q1,Q1,Q1,Q1,Q1] [[1,2,0,0,0,0,0,0,0,0,0,0,0,0,0,0,0]] (@LD C) (ba (bp (aBu C) an))
noncomputable def akS(C:af)(nC:LV)(qp:Bool):Option LV:=
 bif (nC.length:Int)==0 then
  some [V.bool true,vI 1]
 else
  bif decide ((nC.length:Int)>6)then
  some [V.bool true,vI 1]
  else
  (nC[0]?).bind fun x1=>
  (Loop (Sf C qp nC (nC.length:Int) (x1.toList.length:Int) qp 0 ([]:LV) ([]:LV) ([]:LV) ([]:LV) ([]:LV) ([]:LV) ([]:LV) ([]:LV) ([]:LV)) (0,([]:LV))).bind (ed (fun mr=>
   some [V.bool true,vI mr]) (un fun mu=>un fun(jD:Bool) (LG:LV)=>
   LC C (-1) qp (x1.toList.length:Int) qp 0 LG ([]:LV) ([]:LV) ([]:LV) ([]:LV) ([]:LV) ([]:LV) ([]:LV) ([]:LV) ([]:LV) (un fun aBw=>un fun aBx=>un fun(Z9:Bool)=>un fun aaa=>un fun(pz:LV)=>un fun(sA:LV)=>un fun(yh:LV)=>un fun(sD:LV)=>un fun(uR:LV)=>un fun(p9:LV)=>un fun(rE:LV)=>un fun(C3:LV)=>un fun(yi:LV) (tC:LV)=>
    (Loop (LF C aBw (pz.length:Int)) (0,aBx,Z9,aaa,pz,sA,yh,sD,uR,p9,rE,C3,yi,tC)).bind (un fun aHu=>un fun(aaF:Bool)=>un fun aBy=>un fun(aBz:Bool)=>un fun aBA=>un fun(aBB:LV)=>un fun(AJ:LV)=>un fun(Ly:LV)=>un fun(aaI:LV)=>un fun(BL:LV)=>un fun(aaJ:LV)=>un fun(aaK:LV)=>un fun(aaL:LV)=>un fun(aaM:LV) (aaN:LV)=>
     some [V.bool false,vI aBy,.bool aBz,vI aBA,ah aBB,ah AJ,ab Ly,ab aaI,ah BL,gR aaJ,dL aaK,cY aaL,ab aaM,ab aaN]))))
theorem aBC{nC:LV}{qp:Bool}{r:Option LV}(h:akS CC nC qp=r):CC 142 [ah nC,.bool qp]=r:=bj (bp (aBs CC) (bp (aBt CC) (bp (aBv CC) an))) h
noncomputable def Sh(C:af)(mG:Int)(mH:Bool)(akT:Int)(aE aH aL aP aB aK:LV)(bQ:Int)(bY:Bool)(dc:Int)(br bH bP fU ko iE gi gj gE gU:LV){β:Type}(kn:(Int×Bool×Int×LV×LV×LV×LV×LV×LV×LV×LV×LV×LV)→Option β)(kr:((Int×Int×Bool×Int×LV×LV×LV×LV×LV×LV) ⊕ (Bool×Int×Bool×Int×LV×LV×LV×LV×LV×LV×LV×LV×LV×LV))→Option β):Option β:=
 (C 143 [vI bQ,.bool bY,vI dc,ah br,ah bH,ab bP,ab fU,ah ko,gR iE,dL gi,cY gj,ab gE,ab gU]).bind fun r2=>
 bif !(gB r2)then
  (C 144 [vI (gI (r2.drop 1)),.bool (gB ((r2.drop 1).drop 1)),vI (gI (((r2.drop 1).drop 1).drop 1)),ah (gL (((r2.drop 1).drop 3).drop 1)),ah (gL ((((r2.drop 1).drop 3).drop 1).drop 1)),ab (gL (((((r2.drop 1).drop 3).drop 1).drop 1).drop 1)),ab (gL ((((((r2.drop 1).drop 3).drop 1).drop 1).drop 1).drop 1)),ah (gL (((((((r2.drop 1).drop 3).drop 1).drop 1).drop 1).drop 1).drop 1)),gR (gL ((((((((r2.drop 1).drop 3).drop 1).drop 1).drop 1).drop 1).drop 1).drop 1)),dL (gL ((r2.drop 1).drop 3)),cY (gL (((((((((r2.drop 1).drop 3).drop 1).drop 1).drop 1).drop 1).drop 1).drop 1).drop 1)),ab (gL ((((((((((r2.drop 1).drop 3).drop 1).drop 1).drop 1).drop 1).drop 1).drop 1).drop 1).drop 1)),ab (gL (((((((((((r2.drop 1).drop 3).drop 1).drop 1).drop 1).drop 1).drop 1).drop 1).drop 1).drop 1).drop 1))]).bind fun r3=>
  bif ((gI r3):Int) != 0 then
  kr (.inl ((gI r3),0,false,0,([]:LV),([]:LV),([]:LV),([]:LV),([]:LV),([]:LV)))
  else
  kn ((gI (r3.drop 1)),(gB ((r3.drop 1).drop 1)),(gI (((r3.drop 1).drop 1).drop 1)),(gL (((r3.drop 1).drop 3).drop 1)),(gL ((((r3.drop 1).drop 3).drop 1).drop 1)),(gL (((((r3.drop 1).drop 3).drop 1).drop 1).drop 1)),(gL ((((((r3.drop 1).drop 3).drop 1).drop 1).drop 1).drop 1)),(gL (((((((r3.drop 1).drop 3).drop 1).drop 1).drop 1).drop 1).drop 1)),(gL ((((((((r3.drop 1).drop 3).drop 1).drop 1).drop 1).drop 1).drop 1).drop 1)),(gL ((r3.drop 1).drop 3)),(gL (((((((((r3.drop 1).drop 3).drop 1).drop 1).drop 1).drop 1).drop 1).drop 1).drop 1)),(gL ((((((((((r3.drop 1).drop 3).drop 1).drop 1).drop 1).drop 1).drop 1).drop 1).drop 1).drop 1)),(gL (((((((((((r3.drop 1).drop 3).drop 1).drop 1).drop 1).drop 1).drop 1).drop 1).drop 1).drop 1).drop 1)))
 else
  kr (.inr (!(gB r2),(gI (r2.drop 1)),(gB ((r2.drop 1).drop 1)),(gI (((r2.drop 1).drop 1).drop 1)),(gL (((r2.drop 1).drop 3).drop 1)),(gL ((((r2.drop 1).drop 3).drop 1).drop 1)),(gL (((((r2.drop 1).drop 3).drop 1).drop 1).drop 1)),(gL ((((((r2.drop 1).drop 3).drop 1).drop 1).drop 1).drop 1)),(gL (((((((r2.drop 1).drop 3).drop 1).drop 1).drop 1).drop 1).drop 1)),(gL ((((((((r2.drop 1).drop 3).drop 1).drop 1).drop 1).drop 1).drop 1).drop 1)),(gL ((r2.drop 1).drop 3)),(gL (((((((((r2.drop 1).drop 3).drop 1).drop 1).drop 1).drop 1).drop 1).drop 1).drop 1)),(gL ((((((((((r2.drop 1).drop 3).drop 1).drop 1).drop 1).drop 1).drop 1).drop 1).drop 1).drop 1)),(gL (((((((((((r2.drop 1).drop 3).drop 1).drop 1).drop 1).drop 1).drop 1).drop 1).drop 1).drop 1).drop 1))))
noncomputable def aaP(C:af)(mG:Int)(mH:Bool)(akT:Int)(aE aH aL aP aB aK:LV):=un fun bQ=>un fun bY=>un fun dc=>un fun br=>un fun bH=>un fun bP=>un fun fU=>un fun ko=>un fun iE=>un fun gi=>un fun gj=>un fun gE gU=>Sh C mG mH akT aE aH aL aP aB aK bQ bY dc br bH bP fU ko iE gi gj gE gU (fun y=>some (Sum.inl y)) (fun r=>some (Sum.inr r))
noncomputable def aBD(C:af):cp:=bz 65 Zk [Q0,Q0,Q0,Q1,Q1,Q1,Q0,Q0,Q0,Q0,Q0,Q0,Q1,Q1,Q1,Q1,Q1,Q1,Q1,Q1,Q1,Q1] [[0,0,0,0,0,0,0,0,0,0],[0,1,2,3,0,0,0,7,8,9,10,11,12,0,0,0,0,0,0,0,0,0,0]] (@Sh C) bh
theorem aBE(C:af):bn C (aBD C) 113 (Lp [1,1,1,0,0,0] 113):=bA Zk [Q0,Q0,Q0,Q1,Q1,Q1,Q0,Q0,Q0,Q0,Q0,Q0,Q1,Q1,Q1,Q1,Q1,Q1,Q1,Q1,Q1,Q1] [[0,0,0,0,0,0,0,0,0,0],[0,1,2,3,0,0,0,7,8,9,10,11,12,0,0,0,0,0,0,0,0,0,0]] (@Sh C) (ba an)
noncomputable def aaQ(C:af)(nC:LV)(qp:Bool):Option LV:=
 (C 142 [ah nC,.bool qp]).bind fun r1=>
 bif (gB r1)then
  bif ((gI (r1.drop 1)):Int) != 0 then
  some [vI 0,.bool false,vI 0,vI (gI (r1.drop 1)),ah ([]:LV),ah ([]:LV),ab ([]:LV),ab ([]:LV),ah ([]:LV),gR ([]:LV)]
  else none
 else
  (Loop (aaP C 0 false 0 ([]:LV) ([]:LV) ([]:LV) ([]:LV) ([]:LV) ([]:LV)) ((gI (r1.drop 1)),(gB ((r1.drop 1).drop 1)),(gI (((r1.drop 1).drop 1).drop 1)),(gL ((r1.drop 1).drop 3)),(gL (((r1.drop 1).drop 3).drop 1)),(gL ((((r1.drop 1).drop 3).drop 1).drop 1)),(gL (((((r1.drop 1).drop 3).drop 1).drop 1).drop 1)),(gL ((((((r1.drop 1).drop 3).drop 1).drop 1).drop 1).drop 1)),(gL (((((((r1.drop 1).drop 3).drop 1).drop 1).drop 1).drop 1).drop 1)),(gL ((((((((r1.drop 1).drop 3).drop 1).drop 1).drop 1).drop 1).drop 1).drop 1)),(gL (((((((((r1.drop 1).drop 3).drop 1).drop 1).drop 1).drop 1).drop 1).drop 1).drop 1)),(gL ((((((((((r1.drop 1).drop 3).drop 1).drop 1).drop 1).drop 1).drop 1).drop 1).drop 1).drop 1)),(gL (((((((((((r1.drop 1).drop 3).drop 1).drop 1).drop 1).drop 1).drop 1).drop 1).drop 1).drop 1).drop 1)))).bind (ed (un fun mr=>un fun aBF=>un fun(aBG:Bool)=>un fun Z8=>un fun(zX:LV)=>un fun(BP:LV)=>un fun(pq:LV)=>un fun(yg:LV)=>un fun(Ja:LV) (Gf:LV)=>
   some [vI aBF,.bool aBG,vI Z8,vI mr,ah zX,ah BP,ab pq,ab yg,ah Ja,gR Gf]) (un fun(wb:Bool)=>un fun K4=>un fun(K5:Bool)=>un fun aBH=>un fun(uR:LV)=>un fun(p9:LV)=>un fun(rE:LV)=>un fun(C3:LV)=>un fun(yi:LV)=>un fun(tC:LV)=>un fun(ym:LV)=>un fun(Sa:LV)=>un fun(Sb:LV) (akU:LV)=>
   some [vI K4,.bool K5,vI aBH,vI 0,ah uR,ah p9,ab rE,ab C3,ah yi,gR tC]))
theorem akV{nC:LV}{qp:Bool}{r:Option LV}(h:aaQ CC nC qp=r):CC 113 [ah nC,.bool qp]=r:=bj (bp (aBE CC) an) h
section
variable {L n D:Nat}{g:Nat→List Nat}{S:List (List Nat)}{P K:List Int}{R:List (List Nat)}{W:List (List UInt8)}{B:List Int}{s:List Nat}{U:LV}
def e7(L:Nat)(g:Nat→List Nat)(T:List (List Nat))(f:List Nat):List Nat:=(List.range L).map fun x=>iO T (bC g f x)
theorem aBI{T:List (List Nat)}{f:List Nat}:tV (e7 L g T f)=ab (tab L fun j=>if j<L then nV (iO T (bC g f j))else vI 0):=by
 unfold tV e7 nS;rw[AQ];exact congrArg _ (dW (n:=L) (g:=nV ∘ fun x=>iO T (bC g f x)) fun j hj=>by grind)
abbrev PrR:=(Int×Int×Bool×Int×LV×LV×LV×LV×LV×LV×LV×LV×LV×LV) ⊕ (Int×Bool×Int×Bool×Int×LV×LV×LV×LV×LV×LV×LV×LV×LV×LV×LV)
theorem aBJ(h:lj L n g S P K R W B s)(hs:s.length=L)(hR:R.length=D)(hn:1≤n)(pH:n≤32)(hg:∀x,x<L→Tr n (g x))(hL:L≤6){f:List Nat}(hD:S[D]? =some f)(hU:U.length≤6+D*6):
  ∃r,CC 144 (AI n D (gV L g) S P K R U W B s)=some r∧((∃l,r=vI 3::l∧C4 n)∨
   ∃P' K' U' W' B',r=vI 0::[vI (n:Int),.bool true,vI ((D+1:Nat):Int),dL (mT (b9 (bC g) S f L)),ah (gV L g),ah (sV (b9 (bC g) S f L)),ab (iL P'),ab (iL K'),
    ah (sV (R++[e7 L g (b9 (bC g) S f L) f])),gR U',cY (wL W'),ab (iL B'),ab (nS s)]∧
    lj L n g (b9 (bC g) S f L) P' K' R W' B' s∧U'.length≤6+(D+1)*6):=by
 have LH:=(cw.1 hD).1;have hlen:=h.len;have key:∃r,Loop (Gj CC (D:Int) (L:Int)) (yX n D L g (b9 (bC g) S f L) f 0 S P K R U W B s)=some r∧((∃t,r= .inl (3,t)∧C4 n)∨
   ∃P' K' U' W' B',r= .inr ((L:Int),false,(yX n D L g (b9 (bC g) S f L) f L (b9 (bC g) S f L) P' K' R U' W' B' s).2)∧lj L n g (b9 (bC g) S f L) P' K' R W' B' s∧U'.length≤6+(D+1)*6):=by
  refine zM (fun x y=> ∃P' K' U' W' B',y=yX n D L g (b9 (bC g) S f L) f x (b9 (bC g) S f x) P' K' R U' W' B' s∧lj L n g (b9 (bC g) S f x) P' K' R W' B' s∧U'.length≤6+D*6+x)
   (fun r:PrR=>(∃t,r= .inl (3,t)∧C4 n)∨∃P' K' U' W' B',r= .inr ((L:Int),false,(yX n D L g (b9 (bC g) S f L) f L (b9 (bC g) S f L) P' K' R U' W' B' s).2)∧lj L n g (b9 (bC g) S f L) P' K' R W' B' s∧U'.length≤6+(D+1)*6)
   L (fun x hx y hy=> ?_) (fun y hy=> ?_) L 0 _ (dP _) ⟨P,K,U,W,B,rfl,h,hU⟩
  ·obtain⟨P1,K1,U1,W1,B1,rfl,hI,hU1⟩:=hy;have tS:=RX (next:=bC g) S f x;have rV:(b9 (bC g) S f x)[D]? =some f:=by
    obtain⟨Z,e⟩:=tS;grind
   rcases aBp (U2:=b9 (bC g) S f L) hI hs hR hn pH hg hL rV hx (BG (next:=bC g) S f (show x+1≤L by omega)) (by omega) (U:=U1)with⟨P2,K2,U2,W2,B2,e,h2,h3⟩|⟨t,e,hm⟩
   ·exact .inl ⟨_,e,P2,K2,U2,W2,B2,rfl,h2,by omega⟩
   grind
  ·obtain⟨P1,K1,U1,W1,B1,rfl,hI,hU1⟩:=hy;refine⟨_,?_,.inr ⟨P1,K1,U1,W1,B1,rfl,hI,by omega⟩⟩;unfold yX;simp only[Gj,Ls,un];grind
 obtain⟨r,e1,e2⟩:=key;have e0:List.replicate (((L:Nat):Int).toNat) (vI 0)=tab L fun j=>if j<0 then nV (iO (b9 (bC g) S f L) (bC g f j))else vI 0:=by
  rw[Int.toNat_natCast,p5];grind
 have fin:∀z,Se CC (n:Int) true (D:Int) (gV L g) (sV S) (iL P) (iL K) (sV R) U (mT S) (wL W) (iL B) (nS s)=z→CC 144 (AI n D (gV L g) S P K R U W B s)=z:=fun z h=>aBm h;rcases e2 with⟨t,rfl,hm⟩|⟨P1,K1,U1,W1,B1,rfl,hI,hU1⟩
 ·refine⟨_,fin _ ?_,.inl ⟨[vI t.1,.bool t.2.1,vI t.2.2.1,dL t.2.2.2.1,ah t.2.2.2.2.1,ah t.2.2.2.2.2.1,ab t.2.2.2.2.2.2.1,ab t.2.2.2.2.2.2.2.1,ah t.2.2.2.2.2.2.2.2.1,gR t.2.2.2.2.2.2.2.2.2.1,cY t.2.2.2.2.2.2.2.2.2.2.1,ab t.2.2.2.2.2.2.2.2.2.2.2.1,ab t.2.2.2.2.2.2.2.2.2.2.2.2],rfl,hm⟩⟩;unfold Se;rw[show(gV L g).length=L from en,e0];exact bT (gP (by omega) (by omega)) (bs e1 rfl)
 ·refine⟨_,fin _ ?_,.inr ⟨P1,K1,U1,W1,B1,rfl,hI,hU1⟩⟩;unfold Se;rw[show(gV L g).length=L from en,e0];refine bT (gP (by omega) (by omega)) (bs e1 (bT (show Nat.ble (((sV R).length+1)*24) aR=true from cap (by simp;omega) (by omega)) ?_));have hw:((D+1:Nat):Int)=wrap .i64 ((D:Int)+1):=(bu (by omega)).symm;have:sV (R++[e7 L g (b9 (bC g) S f L) f])=sV R++[tV (e7 L g (b9 (bC g) S f L) f)]:=by simp[sV]
  rw[hw,this,aBI];rfl
end
section
variable {L n:Nat}{g:Nat→List Nat}(hn:1≤n)(pH:n≤32)(hg:∀x,x<L→Tr n (g x))(h1:1≤L)(hL:L≤6)
include hg in
theorem akW{x:Nat}(hx:x<L):bC g (List.range n) x=g x:=by
 have h:=hg x hx;refine uj (by simp[bC,comp,h.1]) fun i h1 h2=> ?_;simp[bC,comp,h2]
include hn pH hg h1 hL
theorem aBK:∃P K,∃U:LV,∃W B s,CC 142 [ah (gV L g),.bool true]=some (.bool false::AI n 0 (gV L g) (b9 (bC g) [List.range n] (List.range n) L) P K [] U W B s)∧lj L n g (b9 (bC g) [List.range n] (List.range n) L) P K [] W B s∧s.length=L∧U.length≤6:=by
 have hG:(gV L g).length=L:=en;have l1:∀{a b c d:LV} {e f g1 h1 i1:LV},Loop (Sf CC true (gV L g) (L:Int) (n:Int) true 0 a b c d e f g1 h1 i1) (0,([]:LV))=some (.inr ((L:Int),false,gV L g)):=by
  intro a b c d e f g1 h1 i1;refine eZ L (fun i=>((i:Int),tab i fun x=>tV (g x))) _ (fun i hi=> ?_) ?_
  ·simp only[Sf,LB,un];have ht:=hg i hi;refine bT (bt hi) (bs (pd hi) ?_);rw[sZ];have e1:(nS (g i)).length=n:=by rw[dE,ht.1]
   refine bF (by grind) (bs (aas hn pH ht) (bF rfl (bT (cap (a:=(nS (g i)).length) (b:=0) (by omega) (by omega)) (bT (cap (by simp;omega) (by omega)) ?_))));rw[bu (by omega),BJ];rfl
  ·simp only[Sf,LB,un];refine bF (cL (aW _)) ?_;rw[cL (aW _)];rfl
 have hI0:lj L n g [List.range n] [-1] [-1] [] [[]] [-1] []:=by
  refine⟨fun f hf=> ?_,by simp,by simp,rfl,rfl,rfl,rfl,fun r hr=>(by cases hr),⟨by simp,fun y hy=>(by cases hy)⟩,fun i hi=> ?_,fun i hi=> ?_,fun i h0 hi=>(by grind),rfl⟩
  ·rw[jV.1 hf];exact Lo
  all_goals grind
 have key:∃r,Loop (LF CC 0 (L:Int)) (0,(n:Int),true,0,gV L g,sV [List.range n],iL [-1],iL [-1],sV [],[],mT [List.range n],wL [[]],iL [-1],nS [])=some r∧
   ∃P K,∃U:LV,∃W B s,r=((L:Int),false,(n:Int),true,0,gV L g,sV (b9 (bC g) [List.range n] (List.range n) L),iL P,iL K,sV [],U,mT (b9 (bC g) [List.range n] (List.range n) L),wL W,iL B,nS s)∧lj L n g (b9 (bC g) [List.range n] (List.range n) L) P K [] W B s∧s.length=L∧U.length≤6:=by
  refine zM (fun x y=> ∃P K,∃U:LV,∃W B s,y=((x:Int),(n:Int),true,0,gV L g,sV (b9 (bC g) [List.range n] (List.range n) x),iL P,iL K,sV [],U,mT (b9 (bC g) [List.range n] (List.range n) x),wL W,iL B,nS s)∧lj L n g (b9 (bC g) [List.range n] (List.range n) x) P K [] W B s∧s.length=x∧U.length≤x)
   (fun r=> ∃P K,∃U:LV,∃W B s,r=((L:Int),false,(n:Int),true,0,gV L g,sV (b9 (bC g) [List.range n] (List.range n) L),iL P,iL K,sV [],U,mT (b9 (bC g) [List.range n] (List.range n) L),wL W,iL B,nS s)∧lj L n g (b9 (bC g) [List.range n] (List.range n) L) P K [] W B s∧s.length=L∧U.length≤6)
   L (fun x hx y hy=> ?_) (fun y hy=> ?_) L 0 _ (dP _) ⟨_,_,_,_,_,_,rfl,hI0,rfl,aW _⟩
  ·obtain⟨P,K,U,W,B,s,rfl,hI,hs,hU⟩:=hy;have rW:=hg x hx;have hf0:bC g (List.range n) x=g x:=akW hg hx;have aBL:b9 (bC g) [List.range n] (List.range n) (x+1)=cN (b9 (bC g) [List.range n] (List.range n) x) (g x):=by rw[←hf0];rfl
   rw[aBL];generalize hTx:b9 (bC g) [List.range n] (List.range n) x=T at*
   have hlen:=hI.len;have gg:=hI.pos;have Ah:=aax pH hI.tr rW;have hX:CC 180 [ab (tV (g x)).toList]=some [kT (g x)]:=by
    rw[sZ];exact aat pH rW
   have uQ:(Nat.ble ((gS [kT (g x)]).length) maxLen&&true)=true:=by
    refine mW.2 ⟨AV ?_,rfl⟩;rw[show(gS [kT (g x)])=oR (g x)from rfl,show(oR (g x)).length=n by simp[oR,rW.1]];unfold maxLen;omega
   have Vb:∀y,nS s++[nV y]=nS (s++[y]):=fun y=>by simp[nS]
   simp only[LF,LD,un,aA];by_cases hk:g x∈T
   ·have C6:cN T (g x)=T:=by rw[cN,aF hk]
    have hm:gq (kT (g x)) (mT T)=true:=akL Ah hk;rw[C6];have Af:=vu hk;refine .inl ⟨_,bT (bt hx) ((bJ (nj hx)).trans (bT (LA (by omega)) (bs hX (bT uQ ?_)))),P,K,U++[.agg [.str [UInt8.ofNat ((wrap .i32 (wrap .i64 (97+(x:Int))):Int).toNat)],.str (W.getD (iO T (g x)) [])]],W,B,s++[iO T (g x)],rfl,⟨hI.tr,hI.nd,hI.len,hI.lP,hI.lK,hI.lW,hI.lB,hI.row,⟨by simp;omega,fun y hy=> ?_⟩,hI.b,hI.w,hI.p,hI.id⟩,by simp[hs],by simp;omega⟩
    ·refine(cg2 (f:=fun i b=>C7 CC 0 (x:Int) _ _ i (L:Int) (x:Int) b (n:Int) true 0 (gV L g) (sV T) (iL P) (iL K) (sV []) U (mT T) (wL W) (iL B) (nS s) _) (akN Ah hk) hm).trans ?_;unfold C7;refine bT rfl ((bJ (AG (by rw[hI.lW];exact Af))).trans (bT (cap (by simp;omega) (by omega)) (bT (show Nat.ble (((nS s).length+1)*8) aR=true from cap (by rw[dE];omega) (by omega)) ?_)));rw[bu (by omega),←Vb];rfl
    ·rcases ik.1 hy with hy|hy
     ·exact hI.s.2 y hy
     grind
   ·have C6:cN T (g x)=T++[g x]:=by rw[cN,aD hk]
    have hm:gq (kT (g x)) (mT T)=false:=akM Ah hk;rw[C6];have hT:T.length<2000:=by
     have:=Vk (next:=bC g) [List.range n] (List.range n) x;grind
    have ae:T.getD 0 []=List.range n:=by
     have:=hI.id;cases T with
     |nil=>cases this
     |cons a T=>grind
    refine .inl ⟨_,bT (bt hx) ((bJ (nj hx)).trans (bT (LA (by omega)) (bs hX (bT uQ ?_)))),P++[((0:Nat):Int)],K++[(x:Int)],U,W++[[UInt8.ofNat ((wrap .i32 (wrap .i64 (97+(x:Int))):Int).toNat)]],B++[0],s++[T.length],rfl,?_,by simp[hs],by omega⟩
    ·refine(congrArg (fun b=>C7 CC 0 (x:Int) _ _ _ (L:Int) (x:Int) b (n:Int) true 0 (gV L g) (sV T) (iL P) (iL K) (sV []) U (mT T) (wL W) (iL B) (nS s) _) hm).trans ?_;unfold C7;rw[sZ];refine bF rfl (bT (cap (a:=(nS (g x)).length) (b:=0) (by rw[dE,rW.1];omega) (by omega)) (bs (aay (p:=0) (b:=0) (k:=(x:Int)) pH hI.tr rW hk hlen (by rw[hI.lP];exact hlen) (by rw[hI.lK];exact hlen) (by rw[hI.lW];exact hlen) (by rw[hI.lB];exact hlen)) (bT (show Nat.ble (((nS s).length+1)*8) aR=true from cap (by rw[dE];omega) (by omega)) ?_)));rw[bu (by omega),←Vb];rfl
    ·have h2:=hI.grow rW hk hT (p:=0) (x:=x) (w:=[UInt8.ofNat ((wrap .i32 (wrap .i64 (97+(x:Int))):Int).toNat)]) (b:=0) gg hx (show 1≤_ from gg) (.inr ⟨Int.le_refl _,by omega⟩) (by rw[ae];exact hf0.symm);refine⟨h2.tr,h2.nd,h2.len,h2.lP,h2.lK,h2.lW,h2.lB,h2.row,⟨by simp;omega,fun y hy=> ?_⟩,h2.b,h2.w,h2.p,h2.id⟩;rcases ik.1 hy with hy|hy
     ·exact h2.s.2 y hy
     grind
  ·obtain⟨P,K,U,W,B,s,rfl,hI,hs,hU⟩:=hy;refine⟨_,?_,P,K,U,W,B,s,rfl,hI,hs,by omega⟩;simp only[LF,LD,un];grind
 obtain⟨r,e1,P,K,U,W,B,s,rfl,hI,hs,hU⟩:=key;refine⟨P,K,U,W,B,s,aBC ?_,hI,hs,hU⟩;unfold akS;rw[hG];refine bF (by simp;omega) (bF (dj (by omega)) (bs (nj (by omega)) ?_));rw[sZ,dE,(hg 0 (by omega)).1];refine bs l1 ?_;show LC CC (-1) true (n:Int) true 0 (gV L g) [] [] [] [] [] [] [] [] [] _=_;unfold LC;refine bT rfl (bs (aAR hn pH) (bs (aay (S:=[]) (P:=[]) (K:=[]) (R:=[]) (U:=[]) (W:=[]) (B:=[]) (s:=[]) (D:=0) (G:=gV L g) pH (fun f hf=>by cases hf) Lo (by simp) (by simp) (by simp) (by simp) (by simp) (by simp)) ?_));show(Loop (LF CC 0 ((gV L g).length:Int)) _).bind _=_;rw[hG];exact bs e1 rfl
structure nD(L n D:Nat)(g:Nat→List Nat)(S:List (List Nat))(P K:List Int)(R:List (List Nat))(W:List (List UInt8))(B:List Int)(s:List Nat):Prop where
 I:lj L n g S P K R W B s
 sl:s.length=L
 dl:D≤S.length
 cl:∀f∈S.take D,∀x,x<L→bC g f x∈S
 rr:R=(S.take D).map (e7 L g S)
abbrev BdX:=Int×Bool×Int×LV×LV×LV×LV×LV×LV×LV×LV×LV×LV
abbrev BdR:=(Int×Int×Bool×Int×LV×LV×LV×LV×LV×LV) ⊕ (Bool×Int×Bool×Int×LV×LV×LV×LV×LV×LV×LV×LV×LV×LV)
def Si(n D L:Nat)(g:Nat→List Nat)(S:List (List Nat))(P K:List Int)(R:List (List Nat))(U:LV)(W:List (List UInt8))(B:List Int)(s:List Nat):BdX:=
 ((n:Int),true,(D:Int),gV L g,sV S,iL P,iL K,sV R,U,mT S,wL W,iL B,nS s)
theorem aBM:∃r,CC 113 [ah (gV L g),.bool true]=some r∧((r=[vI 0,.bool false,vI 0,vI 3,ah [],ah [],ab [],ab [],ah [],gR []]∧C4 n)∨
  ∃S P K R W B s,∃U:LV,r=[vI (n:Int),.bool true,vI (S.length:Int),vI 0,ah (gV L g),ah (sV S),ab (iL P),ab (iL K),ah (sV R),gR U]∧nD L n S.length g S P K R W B s):=by
 obtain⟨P,K,U,W,B,s,e1,hI,hs,hU⟩:=aBK hn pH hg h1 hL;have key:∃r,Loop (aaP CC 0 false 0 [] [] [] [] [] []) (Si n 0 L g (b9 (bC g) [List.range n] (List.range n) L) P K [] U W B s)=some r∧((r= .inl (3,0,false,0,[],[],[],[],[],[])∧C4 n)∨
   ∃S P K R W B s,∃U:LV,r= .inr (false,(n:Int),true,(S.length:Int),gV L g,sV S,iL P,iL K,sV R,U,mT S,wL W,iL B,nS s)∧nD L n S.length g S P K R W B s):=by
  refine Oc (fun x:BdX=> ∃D S P K R W B s,∃U:LV,x=Si n D L g S P K R U W B s∧nD L n D g S P K R W B s∧U.length≤6+D*6) (fun x=>3000-x.2.2.1.toNat)
   (fun r:BdR=>(r= .inl (3,0,false,0,[],[],[],[],[],[])∧C4 n)∨∃S P K R W B s,∃U:LV,r= .inr (false,(n:Int),true,(S.length:Int),gV L g,sV S,iL P,iL K,sV R,U,mT S,wL W,iL B,nS s)∧nD L n S.length g S P K R W B s)
   (fun x hx=> ?_) _ ⟨0,_,P,K,[],W,B,s,U,rfl,⟨hI,hs,nH _,fun f hf=>(by cases hf),rfl⟩,hU⟩
  obtain⟨D,S,P,K,R,W,B,s,U,rfl,hE,hU⟩:=hx;have hlen:=hE.I.len;have hD:=hE.dl;have hR:R.length=D:=by rw[hE.rr];simp[hD]
  unfold Si;simp only[aaP,Sh,un];by_cases hf:D=S.length
  ·subst hf;refine .inr ⟨_,bs aaA (bF (by simp) rfl),.inr ⟨S,P,K,R,W,B,s,U,?_,hE⟩⟩;simp
  ·have LH:D<S.length:=by omega
   obtain⟨r,e2,h2⟩:=aBJ hE.I hE.sl hR hn pH hg hL (bX LH) hU;rcases h2 with⟨l,rfl,hm⟩|⟨P',K',U',W',B',rfl,ia,hU'⟩
   ·exact .inr ⟨_,bs aaA (bT (by simp[hf];omega) (bs e2 (bT rfl rfl))),.inl ⟨rfl,hm⟩⟩
   ·have tS:=RX (next:=bC g) S S[D] L;have Ek:(b9 (bC g) S S[D] L).take (D+1)=S.take D++[S[D]]:=by
     obtain⟨Z,e⟩:=tS;rw[←e,List.take_append_of_le_length LH,AP LH]
    have xZ:∀x,x<L→bC g S[D] x∈b9 (bC g) S S[D] L:=fun x hx=>akd hx;refine .inl ⟨Si n (D+1) L g (b9 (bC g) S S[D] L) P' K' (R++[e7 L g (b9 (bC g) S S[D] L) S[D]]) U' W' B' s,bs aaA (bT (by simp;omega) (bs e2 (bF rfl rfl))),⟨D+1,_,P',K',_,W',B',s,U',rfl,⟨⟨ia.tr,ia.nd,ia.len,ia.lP,ia.lK,ia.lW,ia.lB,fun r hr=> ?_,ia.s,ia.b,ia.w,ia.p,ia.id⟩,hE.sl,pJ LH tS.length_le,fun f hf x hx=> ?_,?_⟩,hU'⟩,?_⟩
    ·rcases ik.1 hr with hr|hr
     ·exact ia.row r hr
     ·rw[jV.1 hr];refine⟨by simp[e7],fun y hy=> ?_⟩;obtain⟨x,hx,rfl⟩:=gm.1 hy;exact vu (xZ x (gn.1 hx))
    ·rw[Ek]at hf;rcases ik.1 hf with hf|hf
     ·exact tS.subset (hE.cl f hf x hx)
     grind
    ·rw[Ek,qB,hE.rr];refine congrArg (· ++[_]) (qA fun f hf=>qA fun x hx=> ?_);exact(akK tS (hE.cl f hf x (gn.1 hx))).symm
    ·show 3000-(((D+1:Nat):Int)).toNat<3000-((D:Int)).toNat
     omega
 obtain⟨r,e2,h2⟩:=key;rcases h2 with⟨rfl,hm⟩|⟨S,P,K,R,W,B,s,U,rfl,hE⟩
 ·refine⟨_,akV ?_,.inl ⟨rfl,hm⟩⟩;unfold aaQ;exact bs e1 (bF rfl (bs e2 rfl))
 ·refine⟨_,akV ?_,.inr ⟨S,P,K,R,W,B,s,U,rfl,hE⟩⟩;unfold aaQ;exact bs e1 (bF rfl (bs e2 rfl))
end
end Go.AM
set_option maxRecDepth 100000
namespace Go.AM
open Go.IntKind (wrap)
section
variable {β:Type}[DecidableEq β]
def cb(g:Nat→β):Nat→List β
 |0=>[]
 |n+1=>cN (cb g n) (g n)
theorem aaR(g:Nat→β):∀n,(cb g n).Nodup
 |0=>List.nodup_nil
 |n+1=>aae (aaR g n)
theorem qq{g:Nat→β}{v:β}:∀{n},v∈cb g n↔∃q,q<n∧g q=v
 |0=>⟨fun h=>(by cases h),fun⟨q,h,_⟩=>(by omega)⟩
 |n+1=>by
  have ih:=qq (g:=g) (v:=v) (n:=n);rw[cb];unfold cN;grind
theorem aBN{g:Nat→β}{m n:Nat}(h:m≤n):cb g m <+: cb g n:=by
 induction n with
 |zero=>grind
 |succ n ih=>
  rcases jG m (n+1)with c|c
  ·exact(ih (by omega)).trans (Gc _ _)
  grind
theorem LI(g:Nat→β):∀n,(cb g n).length≤n
 |0=>aW _
 |n+1=>by
  have:=LI g n;rw[cb,Gd];grind
def gF(g:Nat→β)(n q:Nat):Nat:=(cb g n).idxOf (g q)
theorem aaS{g:Nat→β}{n q:Nat}(h:q<n):gF g n q<(cb g n).length:=GX (qq.2 ⟨q,h,rfl⟩)
theorem akX{g:Nat→β}{n p q:Nat}(hp:p<n)(hq:q<n):gF g n p=gF g n q↔g p=g q:=by
 constructor
 ·intro h;have h1:=List.getElem_idxOf (aaS (g:=g) hp);have h2:=List.getElem_idxOf (aaS (g:=g) hq);rw[←h1,←h2];exact getElem_congr_idx h
 ·intro h;unfold gF;rw[h]
theorem aaT{g:Nat→β}{m n q:Nat}(h:q<m)(hm:m≤n):gF g n q=gF g m q:=BF (aBN hm) (qq.2 ⟨q,h,rfl⟩)
theorem akY{g:Nat→β}{q:Nat}(h:g q∈cb g q):cb g (q+1)=cb g q:=by rw[cb];unfold cN;grind
theorem akZ{g:Nat→β}{q:Nat}(h:g q∉cb g q):cb g (q+1)=cb g q++[g q]:=by rw[cb];unfold cN;grind
theorem aBO{g:Nat→β}{n q:Nat}(hq:q<n)(h:g q∈cb g q):gF g n q=(cb g q).idxOf (g q):=by
 rw[aaT (show q<q+1 by omega) (by omega)];unfold gF;rw[akY h]
theorem aBP{g:Nat→β}{n q:Nat}(hq:q<n)(h:g q∉cb g q):gF g n q=(cb g q).length:=by
 rw[aaT (show q<q+1 by omega) (by omega)];unfold gF;rw[akZ h,List.idxOf_append,aD h];simp
def C8(p:Nat→Nat)(n:Nat):Prop:= ∀m,m≤n→cb p m=List.range (cb p m).length
theorem ak0(g:Nat→β)(n:Nat):∀m,m≤n→cb (gF g n) m=List.range (cb g m).length:=by
 intro m
 induction m with
 |zero=>intro _;rfl
 |succ m ih=>
  intro hm;have ih:=ih (by omega);have e1:gF g n m=gF g (m+1) m:=aaT (by omega) hm;have e2:gF g (m+1) m=if g m∈cb g m then(cb g m).idxOf (g m)else(cb g m).length:=by
   unfold gF;rw[cb];unfold cN;grind
  rw[cb,ih,cb,Gd];unfold cN;by_cases h:g m∈cb g m
  ·grind
  ·rw[aD h]at e2;rw[aD h,aD (by grind),e1,e2,zc]
theorem aBQ(g:Nat→β)(n:Nat):C8 (gF g n) n:=fun m hm=>by
 rw[ak0 g n m hm,lk]
theorem ak1{γ:Type}[DecidableEq γ]{f:Nat→β}{c:Nat→γ}{n:Nat}(hr:∀q q',q<n→q'<n→f q=f q'→c q=c q')(hl:(cb f n).length≤(cb c n).length):
  ∀q q',q<n→q'<n→c q=c q'→f q=f q':=by
 intro q q' hq dS hc;refine Decidable.byContradiction fun hf=> ?_;have rep:∀v∈cb f n,∃q,q<n∧f q=v:=fun v hv=>qq.1 hv;have:∃R:β→Nat,∀v∈cb f n,R v<n∧f (R v)=v:=by
  classical
  refine⟨fun v=>if h:v∈cb f n then Classical.choose (rep v h)else 0,fun v hv=> ?_⟩;grind
 obtain⟨R,hR⟩:=this;have mJ:cb c n ⊆ ((cb f n).filter fun v=>decide (v≠f q')).map fun v=>c (R v):=by
  intro u hu;obtain⟨s,hs,rfl⟩:=qq.1 hu;by_cases h:f s=f q'
  ·refine gm.2 ⟨f q,AR.2 ⟨qq.2 ⟨q,hq,rfl⟩,cB hf⟩,?_⟩;have h1:=hR (f q) (qq.2 ⟨q,hq,rfl⟩);grind
  ·refine gm.2 ⟨f s,AR.2 ⟨qq.2 ⟨s,hs,rfl⟩,cB h⟩,?_⟩;have h1:=hR (f s) (qq.2 ⟨s,hs,rfl⟩);grind
 have h1:=za (aaR c n) mJ;rw[cT]at h1;have h2:((cb f n).filter fun v=>decide (v≠f q')).length<(cb f n).length:=by
  have hm:f q'∈cb f n:=qq.2 ⟨q',dS,rfl⟩;simp_all
 omega
theorem aBR{γ:Type}[DecidableEq γ]{f:Nat→β}{c:Nat→γ}{n:Nat}(hr:∀q q',q<n→q'<n→f q=f q'→c q=c q'):(cb c n).length≤(cb f n).length:=by
 rcases jG (cb f n).length (cb c n).length with h|h
 ·have:=ak1 hr (by omega);have rep:∀v∈cb f n,∃q,q<n∧f q=v:=fun v hv=>qq.1 hv;have:∃R:β→Nat,∀v∈cb f n,R v<n∧f (R v)=v:=by
   classical
   refine⟨fun v=>if h:v∈cb f n then Classical.choose (rep v h)else 0,fun v hv=> ?_⟩;grind
  obtain⟨R,hR⟩:=this;have mJ:cb c n ⊆ (cb f n).map fun v=>c (R v):=by
   intro u hu;obtain⟨s,hs,rfl⟩:=qq.1 hu;have h1:=hR (f s) (qq.2 ⟨s,hs,rfl⟩);exact gm.2 ⟨f s,qq.2 ⟨s,hs,rfl⟩,hr _ _ h1.1 hs h1.2⟩
  have h1:=za (aaR c n) mJ;grind
 ·exact h
end
namespace Da
structure Part(a:Da)(c:Nat→Nat):Prop where
 coarse:∀q q',q<a.n→q'<a.n→a.uc q a q'→c q=c q'
 fin:∀q q',q<a.n→q'<a.n→c q=c q'→a.fin q=a.fin q'
def sig(a:Da)(c:Nat→Nat)(q:Nat):List Nat:=c q::(List.range a.L).map fun x=>c (a.nx q x)
theorem LJ{a:Da}{c:Nat→Nat}{q q':Nat}:a.sig c q=a.sig c q'↔c q=c q'∧∀x,x<a.L→c (a.nx q x)=c (a.nx q' x):=by
 unfold sig;simp_all
def aaU(a:Da)(c f:Nat→Nat):Prop:= ∀q q',q<a.n→q'<a.n→(f q=f q'↔a.sig c q=a.sig c q')
theorem aaU.part{a:Da}{c f:Nat→Nat}(h:a.aaU c f)(ha:a.Ok)(hc:a.Part c):a.Part f where
 coarse q q' hq dS he:=(h q q' hq dS).2 (LJ.2 ⟨hc.coarse q q' hq dS he,fun x hx=>hc.coarse _ _ (ha.lH hq hx) (ha.lH dS hx) (he.nx hx)⟩)
 fin q q' hq dS he:=hc.fin q q' hq dS (LJ.1 ((h q q' hq dS).1 he)).1
def Sj(a:Da)(p:Nat→Nat):Prop:=(∀q q',q<a.n→q'<a.n→(p q=p q'↔a.uc q a q'))∧C8 p a.n
theorem Part.aBS{a:Da}{c:Nat→Nat}(hc:a.Part c)(ha:a.Ok)(hs:∀q q',q<a.n→q'<a.n→c q=c q'→a.sig c q=a.sig c q'):∀q q',q<a.n→q'<a.n→(c q=c q'↔a.uc q a q'):=by
 intro q q' hq dS;refine⟨fun h w=> ?_,hc.coarse q q' hq dS⟩
 induction w generalizing q q' with
 |nil=>intro _;rw[xf,xf];exact hc.fin q q' hq dS h
 |cons x w ih=>
  intro hw;rw[RW,RW];exact ih _ _ (ha.lH hq hw.head) (ha.lH dS hw.head) ((LJ.1 (hs q q' hq dS h)).2 x hw.head) hw.tail
def iF(p:Nat→Nat):Nat→List Nat
 |0=>[]
 |n+1=>if p n∈cb p n then iF p n else iF p n++[n]
theorem Sk{p:Nat→Nat}:∀n,(iF p n).map p=cb p n
 |0=>rfl
 |n+1=>by
  rw[iF,cb];unfold cN;split
  ·exact Sk n
  ·rw[qB,Sk n];rfl
theorem LL{p:Nat→Nat}{n:Nat}:(iF p n).length=(cb p n).length:=by rw[←Sk,cT]
theorem C9{p:Nat→Nat}:∀{n q},q∈iF p n→q<n
 |0,q,h=>by cases h
 |n+1,q,h=>by
  rw[iF]at h;split at h
  ·have:=C9 h;omega
  ·rcases ik.1 h with h|h
   ·have:=C9 h;omega
   grind
theorem Gl{p:Nat→Nat}{n:Nat}(ho:C8 p n){c:Nat}(hc:c<(iF p n).length):p (iF p n)[c]=c:=by
 have h1:=ho n (aW _);have h2:((iF p n).map p)[c]? =some c:=by rw[Sk,h1,Dw (by rw[LL]at hc;exact hc)]
 grind
theorem LM{p:Nat→Nat}{n q:Nat}(ho:C8 p n)(hq:q<n):p q<(iF p n).length:=by
 have h1:p q∈cb p n:=qq.2 ⟨q,hq,rfl⟩;rw[ho n (aW _),gn]at h1;rw[LL];exact h1
def quo(a:Da)(p:Nat→Nat):Da where
 L:=a.L
 st:=p a.st
 F:=(iF p a.n).map a.fin
 N:=(iF p a.n).map fun q=>tab a.L fun x=>p (a.nx q x)
theorem AL{a:Da}{p:Nat→Nat}:(a.quo p).n=(iF p a.n).length:=by simp[quo,n]
theorem ak2{a:Da}{p:Nat→Nat}{c:Nat}(hc:c<(iF p a.n).length):(a.quo p).fin c=a.fin (iF p a.n)[c]:=by
 show((iF p a.n).map a.fin).getD c false=_;grind
theorem ak3{a:Da}{p:Nat→Nat}{c x:Nat}(hc:c<(iF p a.n).length)(hx:x<a.L):(a.quo p).nx c x=p (a.nx (iF p a.n)[c] x):=by
 show(((iF p a.n).map fun q=>tab a.L fun x=>p (a.nx q x)).getD c []).getD x 0=_;rw[ep (l:=(iF p a.n).map fun q=>tab a.L fun x=>p (a.nx q x)) (by grind),List.getElem_map,CX hx]
section
variable {a:Da}{p:Nat→Nat}(ha:a.Ok)(hp:a.Sj p)
include ha hp
theorem ak4:(a.quo p).Ok where
 l1:=ha.l1
 l6:=ha.l6
 nN:=by rw[AL];simp[quo]
 row r hr:=by
  rw[AL];obtain⟨q,hq,rfl⟩:=gm.1 (show r∈(iF p a.n).map _ from hr);refine⟨by simp[quo],fun s hs=> ?_⟩;obtain⟨x,hx,rfl⟩:=zR.1 hs;exact LM hp.2 (ha.lH (C9 hq) hx)
 s:=by rw[AL];exact LM hp.2 ha.s
 eb:=by
  rw[AL,LL];have:=LI p a.n;have:=ha.eb;omega
theorem Sl:∀(w:List Nat) {q:Nat},q<a.n→WL a.L w→(a.quo p).acc (p q) w=a.acc q w
 | [],q,hq,_=>by
  have hc:=LM hp.2 hq;rw[xf,xf,ak2 hc];have h1:=(hp.1 _ _ (C9 (dw hc)) hq).1 (Gl hp.2 hc);have:=h1 [] WL.nil;rwa [xf,xf]at this
 |x::w,q,hq,hw=>by
  have hc:=LM hp.2 hq;have hr:=C9 (dw hc);have h1:=(hp.1 _ _ hr hq).1 (Gl hp.2 hc);have h2:=(hp.1 _ _ (ha.lH hr hw.head) (ha.lH hq hw.head)).2 (h1.nx hw.head);rw[RW,RW,ak3 hc hw.head,h2];exact Sl w (ha.lH hq hw.head) hw.tail
theorem aBT:∀c d,c<(a.quo p).n→d<(a.quo p).n→(a.quo p).uc c (a.quo p) d→c=d:=by
 intro c d hc hd he;rw[AL]at hc hd;have r1:=C9 (dw hc);have r2:=C9 (dw hd);rw[←Gl hp.2 hc,←Gl hp.2 hd];refine(hp.1 _ _ r1 r2).2 fun w hw=> ?_;rw[←Sl ha hp w r1 hw,←Sl ha hp w r2 hw,Gl hp.2 hc,Gl hp.2 hd];exact he w hw
theorem aBU:(a.quo p).trim.Canon a.L (a.acc a.st):=by
 have h:=(ak4 ha hp).azY (aBT ha hp);exact⟨h.ok,h.hL,h.st,h.num,h.red,fun w hw=>(h.tN w hw).trans (Sl ha hp w ha.s hw)⟩
end
end Da
end Go.AM
set_option maxRecDepth 100000
namespace Go.AM
open Go.IntKind (wrap)
open Go.Proofs
noncomputable def LN(C:af)(t24:LV)(t25 bq bB:Int)(fl fo:LV)(count t26:Int)(dV:LV){β:Type}(kn:(Int×Int×LV)→Option β)(kr:(Int×Int×Bool×LV)→Option β):Option β:=
 bif decide (t26<t25)then
  (idx t24 t26).bind fun x2=>
  (fl[0]?).bind fun x3=>
  bif !(x2.toBool==x3.toBool)then
  aA dV t26 fun x4=>
  kn (2,wrap .i64 (t26+1),bc dV t26 (vI 1))
  else
  kn (count,wrap .i64 (t26+1),dV)
 else
  kr (count,t26,decide (t26<t25),dV)
noncomputable def Sm(C:af)(t24:LV)(t25 bq bB:Int)(fl fo:LV):=un fun count=>un fun t26 dV=>LN C t24 t25 bq bB fl fo count t26 dV (fun y=>some (Sum.inl y)) (fun r=>some (Sum.inr r))
noncomputable def LO(C:af)(count q:Int)(t46:LV)(t47 t48:Int)(t58:LV)(t59 bq bB:Int)(fl fo dV numbers vy:LV)(t60 Sn So Sp Sq Sr Ss Su:Int){β:Type}(kn:(Int×Int×Int×Int×Int×Int×Int×Int)→Option β)(kr:(Int×Bool×Int×Int×Int×Int×Int×Int×Int)→Option β):Option β:=
 bif decide (t60<t59)then
  (idx t58 t60).bind fun np=>
  bif (decide (0≤np.toInt))&&(decide (np.toInt<(dV.length:Int)))then
  (dV[(np.toInt:Int).toNat]?).bind fun ka=>
  bif (decide (0≤(wrap .i64 (1+t60))))&&(decide ((wrap .i64 (1+t60))<7))then
   bif Nat.blt (0+(((wrap .i64 (1+t60):Int).toNat)*1)) 7 then
   kn (wrap .i64 (t60+1),bif Nat.beq (0+(((wrap .i64 (1+t60):Int).toNat)*1)) 0 then ka.toInt else Sn,bif Nat.beq (0+(((wrap .i64 (1+t60):Int).toNat)*1)) 1 then ka.toInt else So,bif Nat.beq (0+(((wrap .i64 (1+t60):Int).toNat)*1)) 2 then ka.toInt else Sp,bif Nat.beq (0+(((wrap .i64 (1+t60):Int).toNat)*1)) 3 then ka.toInt else Sq,bif Nat.beq (0+(((wrap .i64 (1+t60):Int).toNat)*1)) 4 then ka.toInt else Sr,bif Nat.beq (0+(((wrap .i64 (1+t60):Int).toNat)*1)) 5 then ka.toInt else Ss,bif Nat.beq (0+(((wrap .i64 (1+t60):Int).toNat)*1)) 6 then ka.toInt else Su)
   else none
  else none
  else none
 else
  kr (t60,decide (t60<t59),Sn,So,Sp,Sq,Sr,Ss,Su)
noncomputable def Sv(C:af)(count q:Int)(t46:LV)(t47 t48:Int)(t58:LV)(t59 bq bB:Int)(fl fo dV numbers vy:LV):=un fun t60=>un fun Sn=>un fun So=>un fun Sp=>un fun Sq=>un fun Sr=>un fun Ss Su=>LO C count q t46 t47 t48 t58 t59 bq bB fl fo dV numbers vy t60 Sn So Sp Sq Sr Ss Su (fun y=>some (Sum.inl y)) (fun r=>some (Sum.inr r))
noncomputable def LP(C:af)(count:Int)(t46:LV)(t47 bq bB:Int)(fl fo dV:LV)(t48:Int)(numbers vy:LV){β:Type}(kn:(Int×LV×LV)→Option β)(kr:(Int×Bool×LV×LV)→Option β):Option β:=
 bif decide (t48<t47)then
  (idx t46 t48).bind fun x9=>
  aA dV t48 fun mA=>
  (Loop (Sv C count t48 t46 t47 t48 x9.toList (x9.toList.length:Int) bq bB fl fo dV numbers vy) (0,mA.toInt,0,0,0,0,0,0)).bind (un fun yb=>un fun(wb:Bool)=>un fun LQ=>un fun LR=>un fun LU=>un fun LW=>un fun LX=>un fun(LY:Int) (LZ:Int)=>
   bif (ft .i64 LQ&&(ft .i64 LR&&(ft .i64 LU&&(ft .i64 LW&&(ft .i64 LX&&(ft .i64 LY&&(ft .i64 LZ&&true)))))))&&true then
   bif !(gq (.agg [vI LQ,vI LR,vI LU,vI LW,vI LX,vI LY,vI LZ]) numbers)then
    bif (ft .i64 LQ&&(ft .i64 LR&&(ft .i64 LU&&(ft .i64 LW&&(ft .i64 LX&&(ft .i64 LY&&(ft .i64 LZ&&true)))))))&&true then
    aA vy t48 fun EV=>
    kn (wrap .i64 (t48+1),jl (.agg [vI LQ,vI LR,vI LU,vI LW,vI LX,vI LY,vI LZ]) (vI (numbers.length:Int)) numbers,bc vy t48 (vI (numbers.length:Int)))
    else none
   else
    aA vy t48 fun PJ=>
    kn (wrap .i64 (t48+1),numbers,bc vy t48 (vI ((kz (.agg [vI LQ,vI LR,vI LU,vI LW,vI LX,vI LY,vI LZ]) numbers (vI 0)).toInt)))
   else none)
 else
  kr (t48,decide (t48<t47),numbers,vy)
noncomputable def Sw(C:af)(count:Int)(t46:LV)(t47 bq bB:Int)(fl fo dV:LV):=un fun t48=>un fun numbers vy=>LP C count t46 t47 bq bB fl fo dV t48 numbers vy (fun y=>some (Sum.inl y)) (fun r=>some (Sum.inr r))
noncomputable def L0(C:af)(bq bB:Int)(fl fo:LV)(count:Int)(dV:LV){β:Type}(kn:(Int×LV)→Option β)(kr:LV→Option β):Option β:=
 bif (decide (0≤(dV.length:Int)))&&((decide ((dV.length:Int)≤(dV.length:Int)))&&(Nat.ble (((dV.length:Int).toNat)*8) aR))then
  (Loop (Sw C count fo (fo.length:Int) bq bB fl fo dV) (0,([]:LV),List.replicate ((dV.length:Int).toNat) (vI 0))).bind (un fun aHv=>un fun(ap4:Bool)=>un fun(ak5:LV) (ak6:LV)=>
   bif (ak5.length:Int)==count then
   kr ak6
   else
   kn ((ak5.length:Int),ak6))
 else none
noncomputable def L3(C:af)(bq bB:Int)(fl fo:LV):=un fun count dV=>L0 C bq bB fl fo count dV (fun y=>some (Sum.inl y)) (fun r=>some (Sum.inr r))
noncomputable def Sy(C:af):cp:=bz 81 Y5 [Q1,Q0,Q0,Q1,Q0,Q0,Q0,Q0,Q1] [[0,2,3,0,0,5,6,7,8,0]] (@LN C) (bz 273 Y6 [Q0,Q0,Q0,Q0,Q0,Q0,Q0,Q1,Q0,Q0,Q0,Q0,Q0,Q0,Q0,Q1,Q1,Q1,Q1,Q1,Q1,Q1] [[1,2,3,4,5,6,7,0,0,9,10,11,12,13,14,15,0,0,0,0,0,0,0]] (@LO C) (bz 209 Y7 [Q0,Q0,Q0,Q1,Q0,Q0,Q0,Q0,Q0,Q1,Q1] [[1,2,3,0,0,5,6,7,8,9,0,0]] (@LP C) (bz 161 Y8 [Q1,Q0,Q0,Q0,Q0,Q1] [[0]] (@L0 C) bh)))
theorem aBV(C:af):bn C (Sy C) 66 (Lp [1,1,1,0,1,0,0] 66):=bA Y5 [Q1,Q0,Q0,Q1,Q0,Q0,Q0,Q0,Q1] [[0,2,3,0,0,5,6,7,8,0]] (@LN C) (ba an)
theorem aBW(C:af):bn C (Sy C) 66 (Lp [1,1,1,1,0,0,0,1,1,0,1,0,0,1,1,0,0,1,1,0,1,0,0] 66):=bA Y6 [Q0,Q0,Q0,Q0,Q0,Q0,Q0,Q1,Q0,Q0,Q0,Q0,Q0,Q0,Q0,Q1,Q1,Q1,Q1,Q1,Q1,Q1] [[1,2,3,4,5,6,7,0,0,9,10,11,12,13,14,15,0,0,0,0,0,0,0]] (@LO C) (ba an)
theorem aBX(C:af):bn C (Sy C) 66 (Lp [1,1,1,1,0,0,0,1,1,0,1,0,0] 66):=bA Y7 [Q0,Q0,Q0,Q1,Q0,Q0,Q0,Q0,Q0,Q1,Q1] [[1,2,3,0,0,5,6,7,8,9,0,0]] (@LP C) (ba (bp (aBW C) an))
theorem aBY(C:af):bn C (Sy C) 66 (Lp [1,1,1,1,0,0] 66):=bA Y8 [Q1,Q0,Q0,Q0,Q0,Q1] [[0]] (@L0 C) (ba (bp (aBX C) an))
noncomputable def ak7(C:af)(cD cE:Int)(cd cH:LV):Option LV:=
 (C 26 [vI cD,vI cE,av cd,ah cH]).bind fun r1=>
 bif ((gI r1):Int) != 0 then
  some [ab ([]:LV)]
 else
  bif (decide (0≤(cd.length:Int)))&&((decide ((cd.length:Int)≤(cd.length:Int)))&&(Nat.ble (((cd.length:Int).toNat)*8) aR))then
  (Loop (Sm C cd (cd.length:Int) cD cE cd cH) (1,0,List.replicate ((cd.length:Int).toNat) (vI 0))).bind (un fun aBZ=>un fun jD=>un fun(ng:Bool) (aB0:LV)=>
   (Loop (L3 C cD cE cd cH) (aBZ,aB0)).bind (fun(aB1:LV)=>
    some [ab aB1]))
  else none
theorem aB2{cD cE:Int}{cd cH:LV}{r:Option LV}(h:ak7 CC cD cE cd cH=r):CC 66 [vI cD,vI cE,av cd,ah cH]=r:=bj (bp (aBV CC) (bp (aBY CC) an)) h
def fp(a:Da)(c:Nat→Nat)(q t j:Nat):Nat:=if j=0 then c q else if j≤t then c (a.nx q (j-1))else 0
def fa(a:Da)(c:Nat→Nat)(q:Nat):List Nat:=tab 7 (fp a c q a.L)
def L4(s:List Nat):V:= .agg (s.map nV)
theorem ak8:∀s t:List Nat,qK (s.map nV) (t.map nV)=decide (s=t)
 | [],[]=>rfl
 | [],b::t=>rfl
 |a::s,[]=>rfl
 |a::s,b::t=>by
  simp only[mc,qK];rw[ak8 s t,Dz];simp only[nV,xu];grind
theorem aaV(s t:List Nat):jk (L4 s) (L4 t)=decide (s=t):=ak8 s t
theorem aaW{a:Da}(h:a.Ok){c:Nat→Nat}{q q':Nat}:fa a c q=fa a c q'↔a.sig c q=a.sig c q':=by
 rw[Da.LJ];have h6:=h.l6;constructor
 ·intro e;have g:=fun j (hj:j<7)=>congrArg (fun l:List Nat=>l.getD j 0) e;unfold fa at g;refine⟨?_,fun x hx=> ?_⟩
  ·have:=g 0 (by omega);rw[CX (by omega),CX (by omega)]at this;exact this
  ·have:=g (x+1) (by omega);rw[CX (by omega),CX (by omega)]at this;unfold fp at this;grind
 ·rintro⟨h1,h2⟩;refine dW fun j _=> ?_;unfold fp;grind
theorem Db{a:Da}{c:Nat→Nat}{q t:Nat}(j:Nat):(bif Nat.beq (0+(t+1)*1) j then((c (a.nx q t):Nat):Int)else((fp a c q t j:Nat):Int))=((fp a c q (t+1) j:Nat):Int):=by
 by_cases hj:t+1=j
 ·rw[show Nat.beq (0+(t+1)*1) j=true from by simp_all,cond_true,←hj];unfold fp;grind
 ·rw[show Nat.beq (0+(t+1)*1) j=false from by rw[←Bool.not_eq_true,aN];omega,cond_false];unfold fp;grind
def cV(n:Nat)(c:Nat→Nat):List V:=tab n fun q=>nV (c q)
section
variable {a:Da}(h:a.Ok){c:Nat→Nat}
include h
theorem aB3{q:Nat}(hq:q<a.n){k1 k2 k3 k4 k5 k6:Int}{l1 l2 l3 l4 l5:List V}:
  Loop (Sv CC k1 k2 l1 k3 k4 (tab a.L fun x=>iV (a.nx q x)) ((tab a.L fun x=>iV (a.nx q x)).length:Int) k5 k6 l2 l3 (cV a.n c) l4 l5) (0,(c q:Int),0,0,0,0,0,0)=
   some ((a.L:Int),false,(fp a c q a.L 0:Int),(fp a c q a.L 1:Int),(fp a c q a.L 2:Int),(fp a c q a.L 3:Int),(fp a c q a.L 4:Int),(fp a c q a.L 5:Int),(fp a c q a.L 6:Int)):=by
 have h6:=h.l6;rw[en];refine(eZ a.L (fun t=>((t:Int),(fp a c q t 0:Int),(fp a c q t 1:Int),(fp a c q t 2:Int),(fp a c q t 3:Int),(fp a c q t 4:Int),(fp a c q t 5:Int),(fp a c q t 6:Int))) _ (fun t ht=> ?_) ?_)
 ·simp only[Sv,LO,un];refine bT (bt ht) ?_;refine bs (R3 ht) ?_;refine(nY (i:=a.nx q t) (h.lH hq ht)).trans ?_;have w:wrap .i64 (1+(t:Int))=((t+1:Nat):Int):=by rw[lF];omega
  rw[w,bu (by omega),Int.toNat_natCast];refine bT (mW.2 ⟨cB (by omega),cB (by omega)⟩) ?_;refine bT (show Nat.ble (0+(t+1)*1+1) 7=true by rw[gG];omega) ?_;show some (Sum.inl _)=some (Sum.inl _);refine congrArg (fun x=>some (Sum.inl x)) ?_;exact dm rfl (dm (Db 0) (dm (Db 1) (dm (Db 2) (dm (Db 3) (dm (Db 4) (dm (Db 5) (Db 6)))))))
 ·simp only[Sv,LO,un];grind
theorem aB4(hc:∀q,q<a.n→c q≤1000){q:Nat}(hq:q<a.n)(j:Nat):fp a c q a.L j≤1000:=by
 unfold fp;split
 ·grind
 ·split
  ·exact hc _ (h.lH hq (by omega))
  ·omega
theorem aB5(hc:∀q,q<a.n→c q≤1000){k1 k2 k3:Int}{l2:List V}:
  Loop (Sw CC k1 a.dX (a.dX.length:Int) k2 k3 l2 a.dX (cV a.n c)) (0,([]:List V),List.replicate ((((cV a.n c).length:Int):Int).toNat) (vI 0))=
   some ((a.n:Int),false,fV L4 0 (cb (fa a c) a.n),cV a.n (gF (fa a c) a.n)):=by
 have hm:=h.eb;have hl:(cV a.n c).length=a.n:=by simp[cV]
 rw[hl,Int.toNat_natCast,p5,Da.aAb];refine(eZ a.n (fun i=>((i:Int),fV L4 0 (cb (fa a c) i),(tab a.n fun q=>if q<i then nV (gF (fa a c) a.n q)else nV 0))) _ (fun q hq=> ?_) ?_)
 ·have hle:=LI (fa a c) q;simp only[Sw,LP,un,aA,bc];refine bT (bt hq) ?_;refine bs (Da.aaj hq) ?_;refine(nY (i:=q) hq).trans ?_;simp only[R0];refine bs (aB3 h hq) ?_;have k0:=aB4 h hc hq;have kk:∀j,ft .i64 ((fp a c q a.L j:Nat):Int)=true:=fun j=>aak (by grind);have ak9:((ft .i64 ((fp a c q a.L 0:Nat):Int)&&(ft .i64 ((fp a c q a.L 1:Nat):Int)&&(ft .i64 ((fp a c q a.L 2:Nat):Int)&&(ft .i64 ((fp a c q a.L 3:Nat):Int)&&(ft .i64 ((fp a c q a.L 4:Nat):Int)&&(ft .i64 ((fp a c q a.L 5:Nat):Int)&&(ft .i64 ((fp a c q a.L 6:Nat):Int)&&true)))))))&&true)=true:=by
   grind
  refine bT ak9 ?_;have ek:V.agg [vI (fp a c q a.L 0:Int),vI (fp a c q a.L 1:Int),vI (fp a c q a.L 2:Int),vI (fp a c q a.L 3:Int),vI (fp a c q a.L 4:Int),vI (fp a c q a.L 5:Int),vI (fp a c q a.L 6:Int)]=L4 (fa a c q):=rfl;simp only[un,ek];have e1:=OX aaV (fa a c q) (cb (fa a c) q) 0;have fin:∀v,v=nV (gF (fa a c) a.n q)→(tab a.n fun j=>if j<q then nV (gF (fa a c) a.n j)else nV 0).set q v=tab a.n fun j=>if j<q+1 then nV (gF (fa a c) a.n j)else nV 0:=by
   rintro v rfl;rw[mw];grind
  rw[bu (by omega)];by_cases hx:fa a c q∈cb (fa a c) q
  ·refine bF (by grind) ?_;refine(nY hq).trans ?_;have e2:=OY aaV (fa a c q) (vI 0) (cb (fa a c) q) 0 hx;rw[dP,←aBO hq hx]at e2;rw[e2,V.toInt_int,Int.toNat_natCast,show(vI (gF (fa a c) a.n q:Int))=nV (gF (fa a c) a.n q)from rfl,fin _ rfl,akY hx]
  ·refine bT (by grind) ?_;refine bT ak9 ?_;refine(nY hq).trans ?_;have e2:=OZ aaV (fa a c q) (cb (fa a c) q) 0 hx;rw[dP]at e2;rw[Lc,e2,Int.toNat_natCast,←aBP hq hx,show(vI (gF (fa a c) a.n q:Int))=nV (gF (fa a c) a.n q)from rfl,fin _ rfl,akZ hx]
 ·simp only[Sw,LP,un,aA,bc];refine bF (cL (aW _)) ?_;rw[cL (aW _)];have:(tab a.n fun q=>if q<a.n then nV (gF (fa a c) a.n q)else nV 0)=cV a.n (gF (fa a c) a.n):=dW fun q hq=>aF hq;rw[this]
def qs(a:Da):Nat→Nat
 |0=>1
 |i+1=>if a.fin i=a.fin 0 then qs a i else 2
def jv(a:Da)(q:Nat):Nat:=if a.fin q=a.fin 0 then 0 else 1
theorem aB6:(cb (jv a) a.n).length=qs a a.n:=by
 have key:∀m,(cb (jv a) (m+1)=[0]∧qs a (m+1)=1)∨(cb (jv a) (m+1)=[0,1]∧qs a (m+1)=2):=by
  intro m
  induction m with
  |zero=>left;simp[cb,cN,jv,qs]
  |succ m ih=>
   rw[cb,qs];unfold jv cN;by_cases hf:a.fin (m+1)=a.fin 0
   ·rw[aF hf,aF hf];rcases ih with⟨i1,i2⟩|⟨i1,i2⟩
    ·left;refine⟨?_,i2⟩;unfold jv at i1;grind
    ·right;refine⟨?_,i2⟩;unfold jv at i1;grind
   ·rw[aD hf,aD hf];rcases ih with⟨i1,i2⟩|⟨i1,i2⟩
    ·right;refine⟨?_,rfl⟩;unfold jv at i1;grind
    ·right;refine⟨?_,rfl⟩;unfold jv at i1;grind
 have hs:=h.s;obtain⟨m,hm⟩:∃m,a.n=m+1:=⟨a.n-1,by omega⟩
 grind
theorem aB7{k2 k3:Int}{l2:List V}:Loop (Sm CC a.dN (a.dN.length:Int) k2 k3 a.dN l2) (1,0,List.replicate ((((a.dN.length:Nat):Int)).toNat) (vI 0))=some ((qs a a.n:Int),(a.n:Int),false,cV a.n (jv a)):=by
 have hm:=h.eb;have hs:=h.s;rw[Da.Et,Int.toNat_natCast,p5];refine(eZ a.n (fun i=>((qs a i:Int),(i:Int),(tab a.n fun q=>if q<i then nV (jv a q)else nV 0))) _ (fun q hq=> ?_) ?_)
 ·simp only[Sm,LN,un,aA,bc];refine bT (bt hq) ?_;refine bs (Da.aai hq) ?_;refine bs (a:= .bool (a.fin 0)) (by unfold Da.dN;exact nj (by omega)) ?_;rw[bu (by omega)];have fin:(tab a.n fun j=>if j<q then nV (jv a j)else nV 0).set q (nV (jv a q))=tab a.n fun j=>if j<q+1 then nV (jv a j)else nV 0:=by
   rw[mw];grind
  simp only[V.Iz];by_cases hf:a.fin q=a.fin 0
  ·refine bF (by grind) ?_;have e:qs a (q+1)=qs a q:=by rw[qs,aF hf]
   have e2:(tab a.n fun j=>if j<q then nV (jv a j)else nV 0)=tab a.n fun j=>if j<q+1 then nV (jv a j)else nV 0:=dW fun j _=>by
    by_cases hj:j=q
    ·rw[fZ,dG,hj];unfold jv;grind
    grind
   rw[e,e2]
  ·refine bT (by grind) ?_;refine(nY hq).trans ?_;have e:qs a (q+1)=2:=by rw[qs,aD hf]
   have e3:jv a q=1:=by unfold jv;grind
   rw[e3]at fin;rw[e,Int.toNat_natCast,show(vI 1)=nV 1 from rfl,fin];rfl
 ·simp only[Sm,LN,un,aA,bc];refine bF (cL (aW _)) ?_;rw[cL (aW _)];have:(tab a.n fun q=>if q<a.n then nV (jv a q)else nV 0)=cV a.n (jv a):=dW fun q hq=>aF hq;rw[this]
theorem aB8{k2 k3:Int}{l2:List V}:∃p,Loop (L3 CC k2 k3 l2 a.dX) ((qs a a.n:Int),cV a.n (jv a))=some (cV a.n p)∧a.Sj p∧∀q,q<a.n→p q≤1000:=by
 have hm:=h.eb;have:=Oc (step:=L3 CC k2 k3 l2 a.dX)
  (fun x=> ∃c,x=(((cb c a.n).length:Int),cV a.n c)∧a.Part c∧∀q,q<a.n→c q≤1000)
  (fun x=>a.n-x.1.toNat)
  (fun r=> ∃p,r=cV a.n p∧a.Sj p∧∀q,q<a.n→p q≤1000) (fun x hx=> ?_) ((qs a a.n:Int),cV a.n (jv a)) ⟨jv a,by rw[aB6 h],⟨?_,?_⟩,?_⟩
 ·grind
 ·obtain⟨c,rfl,hp,hc⟩:=hx;have hl:(cV a.n c).length=a.n:=by simp[cV]
  have adX:a.aaU c (gF (fa a c) a.n):=fun q q' hq dS=>(akX hq dS).trans (aaW h)
  have hle:=LI (fa a c) a.n;have hb:∀q,q<a.n→gF (fa a c) a.n q≤1000:=fun q hq=>by have:=aaS (g:=fa a c) hq;omega
  have hrf:∀q q',q<a.n→q'<a.n→fa a c q=fa a c q'→c q=c q':=fun q q' hq dS e=>(Da.LJ.1 ((aaW h).1 e)).1;have aHw:=aBR hrf;have cr:=aB5 h hc (k1:=((cb c a.n).length:Int)) (k2:=k2) (k3:=k3) (l2:=l2);by_cases he:(cb (fa a c) a.n).length=(cb c a.n).length
  ·right;refine⟨_,?_,gF (fa a c) a.n,rfl,⟨fun q q' hq dS=> ?_,aBQ _ _⟩,hb⟩
   ·simp only[L3,L0,un];refine bT (by rw[hl];exact gP (by omega) (by omega)) ?_;refine bs cr ?_;refine bT (by rw[Lc];simp[he]) ?_;rfl
   ·have cv:=ak1 hrf (by omega);rw[akX hq dS,←hp.aBS h (fun s s' hs rF e=>(aaW h).1 (cv s s' hs rF e)) q q' hq dS];grind
  ·left;have e2:(cb (gF (fa a c) a.n) a.n).length=(cb (fa a c) a.n).length:=by rw[ak0 _ _ _ (aW _),lk]
   refine⟨(((cb (fa a c) a.n).length:Int),cV a.n (gF (fa a c) a.n)),?_,⟨gF (fa a c) a.n,by rw[e2],adX.part h hp,hb⟩,?_⟩
   ·simp only[L3,L0,un];refine bT (by rw[hl];exact gP (by omega) (by omega)) ?_;refine bs cr ?_;refine bF (by rw[Lc];grind) ?_;rw[Lc]
   omega
 ·intro q q' hq dS he;have:=he [] WL.nil;rw[Da.xf,Da.xf]at this;unfold jv;rw[this]
 ·intro q q' hq dS he;unfold jv at he;split at he<;>split at he
  ·grind
  ·omega
  ·omega
  ·rename_i h1 h2;revert h1 h2;cases a.fin q<;>cases a.fin q'<;>cases a.fin 0<;>simp
 ·intro q _;unfold jv;grind
theorem aB9:∃p,CC 66 (eu a)=some [ab (cV a.n p)]∧a.Sj p∧∀q,q<a.n→p q≤1000:=by
 have hm:=h.eb;obtain⟨p,h1,h2,h3⟩:=aB8 h (k2:=(a.L:Int)) (k3:=(a.st:Int)) (l2:=a.dN);refine⟨p,aB2 ?_,h2,h3⟩;unfold ak7;refine bs (su h) ?_;refine bF rfl ?_;refine bT (by rw[Da.Et];exact gP (by omega) (by omega)) ?_;refine bs (aB7 h) ?_;refine bs h1 ?_;rfl
end
noncomputable def L5(C:af)(q t29 t30:Int)(t47:LV)(t48 bq bB:Int)(fl fo:LV)(eF eG Gm Gn:Int)(places dV:LV)(Gp Gq:Int)(aK br bH bP fU ko:LV)(t49:Int)(rows:LV){β:Type}(kn:(Int×LV)→Option β)(kr:(Int×Bool×LV)→Option β):Option β:=
 bif decide (t49<t48)then
  (idx t47 t49).bind fun x5=>
  bif (decide (0≤x5.toInt))&&(decide (x5.toInt<(dV.length:Int)))then
  (dV[(x5.toInt:Int).toNat]?).bind fun x6=>
  aA rows t49 fun x7=>
  kn (wrap .i64 (t49+1),bc rows t49 (vI x6.toInt))
  else none
 else
  kr (t49,decide (t49<t48),rows)
noncomputable def Sz(C:af)(q t29 t30:Int)(t47:LV)(t48 bq bB:Int)(fl fo:LV)(eF eG Gm Gn:Int)(places dV:LV)(Gp Gq:Int)(aK br bH bP fU ko:LV):=un fun t49 rows=>L5 C q t29 t30 t47 t48 bq bB fl fo eF eG Gm Gn places dV Gp Gq aK br bH bP fU ko t49 rows (fun y=>some (Sum.inl y)) (fun r=>some (Sum.inr r))
noncomputable def L7(C:af)(t29 bq bB:Int)(fl fo:LV)(eF eG Gm Gn:Int)(places dV:LV)(Gp Gq:Int)(aB aK br bH:LV)(t30:Int)(bP fU:LV){β:Type}(kn:(Int×LV×LV)→Option β)(kr:(Int×Bool×LV×LV)→Option β):Option β:=
 bif decide (t30<t29)then
  aA dV t30 fun x3=>
  bif decide ((x3.toInt:Int)<(bP.length:Int))then
  kn (wrap .i64 (t30+1),bP,fU)
  else
  bif (decide (0≤bq))&&((decide (bq≤bq))&&(Nat.ble ((bq.toNat)*8) aR))then
   aA bH t30 fun x4=>
   (Loop (Sz C t30 t29 t30 x4.toList (x4.toList.length:Int) bq bB fl fo eF eG Gm Gn places dV Gp Gq aB aK br bH bP fU) (0,List.replicate (bq.toNat) (vI 0))).bind (un fun v8=>un fun(uS:Bool) (ala:LV)=>
    aA br t30 fun np=>
    bif Nat.ble ((bP.length+([.bool np.toBool]:LV).length)*1) aR then
    bif Nat.ble ((fU.length+([ab ala]:LV).length)*24) aR then
     kn (wrap .i64 (t30+1),bP++([.bool np.toBool]:LV),fU++([ab ala]:LV))
    else none
    else none)
  else none
 else
  kr (t30,decide (t30<t29),bP,fU)
noncomputable def SA(C:af)(t29 bq bB:Int)(fl fo:LV)(eF eG Gm Gn:Int)(places dV:LV)(Gp Gq:Int)(aB aK br bH:LV):=un fun t30=>un fun bP fU=>L7 C t29 bq bB fl fo eF eG Gm Gn places dV Gp Gq aB aK br bH t30 bP fU (fun y=>some (Sum.inl y)) (fun r=>some (Sum.inr r))
noncomputable def L8(C:af)(t88 eF eG:Int)(dV:LV)(fX fY:Int)(numbers aaX aB aK br bH:LV)(t89:Int)(xg:LV){β:Type}(kn:(Int×LV)→Option β)(kr:(Int×Bool×LV)→Option β):Option β:=
 bif decide (t89<t88)then
  aA aaX t89 fun uY=>
  aA xg t89 fun EP=>
  bif decide ((uY.toInt:Int)≥0)then
  bif (decide (0≤uY.toInt))&&(decide (uY.toInt<(dV.length:Int)))then
   (dV[(uY.toInt:Int).toNat]?).bind fun z7=>
   bif (decide (0≤z7.toInt))&&(decide (z7.toInt<(numbers.length:Int)))then
   (numbers[(z7.toInt:Int).toNat]?).bind fun PI=>
   aA (bc xg t89 (vI (-1))) t89 fun Wj=>
   kn (wrap .i64 (t89+1),bc (bc xg t89 (vI (-1))) t89 (vI PI.toInt))
   else none
  else none
  else
  kn (wrap .i64 (t89+1),bc xg t89 (vI (-1)))
 else
  kr (t89,decide (t89<t88),xg)
noncomputable def SB(C:af)(t88 eF eG:Int)(dV:LV)(fX fY:Int)(numbers aaX aB aK br bH:LV):=un fun t89 xg=>L8 C t88 eF eG dV fX fY numbers aaX aB aK br bH t89 xg (fun y=>some (Sum.inl y)) (fun r=>some (Sum.inr r))
noncomputable def aaY(C:af):cp:=bz 161 YZ [Q0,Q0,Q0,Q0,Q0,Q1,Q0,Q0,Q0,Q0,Q0,Q0,Q0,Q0,Q0,Q0,Q0,Q0,Q1,Q0,Q0,Q0,Q0,Q0,Q0] [[1,2,3,4,5,0,0,7,8,9,10,11,12,13,14,15,16,17,18,0,20,21,22,23,24,25]] (@L5 C) (bz 81 Y0 [Q0,Q1,Q0,Q0,Q0,Q0,Q0,Q0,Q0,Q0,Q0,Q0,Q0,Q0,Q0,Q0,Q0,Q0,Q1,Q1] [[1,0,0,3,4,5,6,7,8,9,10,11,12,13,14,15,16,17,18,0,0]] (@L7 C) (bz 321 Y1 [Q0,Q1,Q0,Q0,Q0,Q0,Q0,Q0,Q1,Q0,Q0,Q0,Q0,Q0] [[1,0,0,3,4,5,6,7,8,0,10,11,12,13,14]] (@L8 C) bh))
theorem aCa(C:af):bn C (aaY C) 37 (Lp [1,1,1,1,0,1,0,0,1,1,0,0,1,1,1,0,1,0,0] 37):=bA YZ [Q0,Q0,Q0,Q0,Q0,Q1,Q0,Q0,Q0,Q0,Q0,Q0,Q0,Q0,Q0,Q0,Q0,Q0,Q1,Q0,Q0,Q0,Q0,Q0,Q0] [[1,2,3,4,5,0,0,7,8,9,10,11,12,13,14,15,16,17,18,0,20,21,22,23,24,25]] (@L5 C) (ba an)
theorem aCb(C:af):bn C (aaY C) 37 (Lp [1,1,1,1,0,1,0,0] 37):=bA Y0 [Q0,Q1,Q0,Q0,Q0,Q0,Q0,Q0,Q0,Q0,Q0,Q0,Q0,Q0,Q0,Q0,Q0,Q0,Q1,Q1] [[1,0,0,3,4,5,6,7,8,9,10,11,12,13,14,15,16,17,18,0,0]] (@L7 C) (ba (bp (aCa C) an))
theorem aCc(C:af):bn C (aaY C) 37 (Lp [1,1,1,1,1,1,1,0,1,0,0] 37):=bA Y1 [Q0,Q1,Q0,Q0,Q0,Q0,Q0,Q0,Q1,Q0,Q0,Q0,Q0,Q0] [[1,0,0,3,4,5,6,7,8,0,10,11,12,13,14]] (@L8 C) (ba an)
noncomputable def alb(C:af)(cD cE:Int)(cd cH:LV):Option LV:=
 (C 65 [vI cD,vI cE,av cd,ah cH]).bind fun r1=>
 (C 66 [vI (gI r1),vI (gI (r1.drop 1)),av (gL (r1.drop 2)),ah (gL ((r1.drop 2).drop 1))]).bind fun r2=>
 (Loop (SA C ((gL r2).length:Int) cD cE cd cH 0 0 (gI r1) (gI (r1.drop 1)) (gL (((r1.drop 2).drop 1).drop 1)) (gL r2) cD 0 ([]:LV) ([]:LV) (gL (r1.drop 2)) (gL ((r1.drop 2).drop 1))) (0,([]:LV),([]:LV))).bind (un fun EF=>un fun(yb:Bool)=>un fun(pz:LV) (sA:LV)=>
  (C 65 [vI cD,vI 0,av pz,ah sA]).bind fun yY=>
  bif (decide (0≤((gL (((r1.drop 2).drop 1).drop 1)).length:Int)))&&((decide (((gL (((r1.drop 2).drop 1).drop 1)).length:Int)≤((gL (((r1.drop 2).drop 1).drop 1)).length:Int)))&&(Nat.ble (((((gL (((r1.drop 2).drop 1).drop 1)).length:Int):Int).toNat)*8) aR))then
   (Loop (SB C ((gL (((r1.drop 2).drop 1).drop 1)).length:Int) 0 0 (gL r2) (gI yY) (gI (yY.drop 1)) (gL (((yY.drop 2).drop 1).drop 1)) (gL (((r1.drop 2).drop 1).drop 1)) ([]:LV) ([]:LV) (gL (yY.drop 2)) (gL ((yY.drop 2).drop 1))) (0,List.replicate ((((gL (((r1.drop 2).drop 1).drop 1)).length:Int):Int).toNat) (vI 0))).bind (un fun aCd=>un fun(aHx:Bool) (aCe:LV)=>
    some [vI (gI yY),vI (gI (yY.drop 1)),av (gL (yY.drop 2)),ah (gL ((yY.drop 2).drop 1)),ab aCe])
  else none)
theorem aCf{cD cE:Int}{cd cH:LV}{r:Option LV}(h:alb CC cD cE cd cH=r):CC 37 [vI cD,vI cE,av cd,ah cH]=r:=bj (bp (aCb CC) (bp (aCc CC) an)) h
noncomputable def alc(C:af)(cD cE:Int)(cd cH:LV):Option LV:=
 (C 26 [vI cD,vI cE,av cd,ah cH]).bind fun r1=>
 bif ((gI r1):Int) != 0 then
  some [vI 0,vI 0,av ([]:LV),ah ([]:LV)]
 else
  (C 37 [vI cD,vI cE,av cd,ah cH]).bind fun r2=>
  some [vI (gI r2),vI (gI (r2.drop 1)),av (gL (r2.drop 2)),ah (gL ((r2.drop 2).drop 1))]
theorem aCg{cD cE:Int}{cd cH:LV}{r:Option LV}(h:alc CC cD cE cd cH=r):CC 18 [vI cD,vI cE,av cd,ah cH]=r:=bj (L:=bh) an h
theorem aCh{p:Nat→Nat}{n:Nat}(h:C8 p n)(hn:0<n):p 0=0:=by
 simpa[cb,cN]using h 1 (by omega)
theorem ald{p:Nat→Nat}{n i:Nat}(h:C8 p n)(hi:i<n):p i∈cb p i↔p i<(Da.iF p i).length:=by
 rw[Da.LL];constructor
 ·intro hm;rw[h i (by omega)]at hm;grind
 ·intro hm;rw[h i (by omega)];grind
theorem aCi(p:Nat→Nat)(n:Nat):(Da.iF p n).length≤n:=by rw[Da.LL];exact LI p n
def qF(a:Da)(p:Nat→Nat)(i:Nat):List V:=(Da.iF p i).map fun r=>V.bool (a.fin r)
def qN(a:Da)(p:Nat→Nat)(i:Nat):List V:=(Da.iF p i).map fun r=>mC a.L fun x=>p (a.nx r x)
theorem aCj{a:Da}{p:Nat→Nat}:(a.quo p).dN=qF a p a.n∧(a.quo p).dX=qN a p a.n:=by
 constructor
 ·unfold Da.dN qF;rw[CY _ 0,Da.AL];exact dW fun i hi=>by rw[Da.ak2 hi,ep hi]
 ·unfold Da.dX qN;rw[CY _ 0,Da.AL];refine dW fun i hi=> ?_;unfold mC;exact congrArg _ (dW fun x hx=>by rw[Da.ak3 hi hx,ep hi])
section
variable {a:Da}(h:a.Ok){p:Nat→Nat}
include h
theorem aCk{q:Nat}(hq:q<a.n){k1 k2 k3 k4 k5 k6 k7 k8 k9 k10 k11:Int}{l1 l2 l3 l4 l5 l6 l7 l8 l9:List V}:
  Loop (Sz CC k1 k2 k3 (tab a.L fun x=>iV (a.nx q x)) ((tab a.L fun x=>iV (a.nx q x)).length:Int) k4 k5 l1 l2 k6 k7 k8 k9 l3 (cV a.n p) k10 k11 l4 l5 l6 l7 l8 l9) (0,List.replicate (((a.L:Nat):Int).toNat) (vI 0))=
   some ((a.L:Int),false,(tab a.L fun x=>nV (p (a.nx q x)))):=by
 have h6:=h.l6;rw[en,Int.toNat_natCast,p5];refine(eZ a.L (fun t=>((t:Int),(tab a.L fun x=>if x<t then nV (p (a.nx q x))else nV 0))) _ (fun t ht=> ?_) ?_)
 ·simp only[Sz,L5,un,aA,bc];refine bT (bt ht) ?_;refine bs (R3 ht) ?_;refine(nY (i:=a.nx q t) (h.lH hq ht)).trans ?_;refine(nY ht).trans ?_;rw[bu (by omega),Int.toNat_natCast,mw];refine congrArg (fun x=>some (Sum.inl (((t+1:Nat):Int),x))) (dW fun j _=> ?_);by_cases hj:j=t
  ·rw[aF hj,dG,hj];rfl
  grind
 ·simp only[Sz,L5,un,aA,bc];refine bF (cL (aW _)) ?_;rw[cL (aW _)];refine congrArg (fun x=>some (Sum.inr ((a.L:Int),false,x))) (dW fun j hj=>aF hj)
theorem aCl(ho:C8 p a.n){k3 k4 k5 k6 k7 k8 k9:Int}{l1 l2 l3 l4 l5:List V}:
  Loop (SA CC ((cV a.n p).length:Int) (a.L:Int) k3 l1 l2 k4 k5 k6 k7 l3 (cV a.n p) k8 k9 l4 l5 a.dN a.dX) (0,([]:List V),([]:List V))=
   some ((a.n:Int),false,qF a p a.n,qN a p a.n):=by
 have h6:=h.l6;have hm:=h.eb;rw[show(cV a.n p).length=a.n by simp[cV]];refine(eZ a.n (fun i=>((i:Int),qF a p i,qN a p i)) _ (fun q hq=> ?_) ?_)
 ·have hle:=aCi p q;have hF:(qF a p q).length=(Da.iF p q).length:=by simp[qF]
  have hN:(qN a p q).length=(Da.iF p q).length:=by simp[qN]
  simp only[SA,L7,un,aA];refine bT (bt hq) ?_;refine(nY (i:=q) hq).trans ?_;rw[bu (by omega)];simp only[nV,V.toInt_int];by_cases hx:p q∈cb p q
  ·refine bT (cB (by rw[hF];have:=(ald ho hq).1 hx;omega)) ?_;unfold qF qN;rw[Da.iF,aF hx]
  ·refine bF (dj (by rw[hF];intro h2;exact hx ((ald ho hq).2 (by omega)))) ?_;refine bT (gP (by omega) (by omega)) ?_;refine(nY (i:=q) hq).trans ?_;simp only[R0];refine bs (aCk h hq) ?_;refine(nY (i:=q) hq).trans ?_;refine bT (cap (by grind) (by omega)) ?_;refine bT (cap (by grind) (by omega)) ?_;unfold qF qN;rw[Da.iF,aD hx,qB,qB];rfl
 ·simp only[SA,L7,un,aA];grind
end
def yZ(U U':List Nat)(p:Nat→Nat)(q:Nat):V:=if q∈U then iV ((if p (U.idxOf q)∈U' then nV (U'.idxOf (p (U.idxOf q)))else vI (-1)).toInt)else vI (-1)
theorem aCm{n m k:Nat}{U U':List Nat}{p:Nat→Nat}(hn:n≤512)(hU:U.length≤m)(hp:∀q,q<m→p q<k){k1 k2 k3 k4:Int}{l1 l2 l3 l4:List V}:
  ∃X,Loop (SB CC ((qo U n).length:Int) k1 k2 (cV m p) k3 k4 (qo U' k) (qo U n) l1 l2 l3 l4) (0,List.replicate ((((qo U n).length:Int):Int).toNat) (vI 0))=some ((n:Int),false,X):=by
 rw[show(qo U n).length=n by simp[qo],Int.toNat_natCast,p5];refine⟨tab n fun q=>if q<n then yZ U U' p q else vI 0,eZ n (fun i=>((i:Int),(tab n fun q=>if q<i then yZ U U' p q else vI 0))) _ (fun q hq=> ?_) ?_⟩
 ·simp only[SB,L8,un,aA,bc];refine bT (bt hq) ?_;refine(nY (i:=q) hq).trans ?_;refine(nY (i:=q) hq).trans ?_;rw[bu (by omega)];have fin:∀v,v=yZ U U' p q→((tab n fun j=>if j<q then yZ U U' p j else vI 0).set q v)=tab n fun j=>if j<q+1 then yZ U U' p j else vI 0:=by
   rintro v rfl;rw[mw];grind
  by_cases hx:q∈U
  ·have es:yZ U U' p q=iV ((if p (U.idxOf q)∈U' then nV (U'.idxOf (p (U.idxOf q)))else vI (-1)).toInt):=by unfold yZ;grind
   have hi:=GX hx;rw[aF hx];refine bT (cB (by simp only[nV,V.toInt_int];omega)) ?_;simp only[nV,V.toInt_int];refine(nY (i:=U.idxOf q) (by omega)).trans ?_;simp only[nV,V.toInt_int];refine(nY (i:=p (U.idxOf q)) (hp _ (by omega))).trans ?_;simp_all
  ·rw[aD hx];refine bF (dj (by simp)) ?_;rw[Int.toNat_natCast,←fin _ (show vI (-1)=yZ U U' p q by unfold yZ;grind)]
 ·simp only[SB,L8,un,aA,bc];grind
theorem Canon.congr{m:Da}{L:Nat}{K K':List Nat→Bool}(h:m.Canon L K)(e:∀w,WL L w→K w=K' w):m.Canon L K':=⟨h.ok,h.hL,h.st,h.num,h.red,fun w hw=>(h.tN w hw).trans (e w hw)⟩
theorem aCn{a:Da}(h:a.Ok):∃m X,CC 37 (eu a)=some (eu m++[ab X])∧m.Canon a.L (a.acc a.st):=by
 have ht:=h.akh;have hm:=h.eb;have hle:=h.yU a.n;have e3:a.trim.n=(ar a.L a.nx a.st a.n).length:=tD;obtain⟨p,c1,c2,c3⟩:=aB9 ht;have hq:=Da.ak4 ht c2;obtain⟨q1,q2⟩:=aCj (a:=a.trim) (p:=p);have aCo:=Da.aBU ht c2;have cv:(a.trim.quo p).st=0:=aCh c2.2 ht.s;have rW:=akA hq;obtain⟨X,hX⟩:=aCm (n:=a.n) (m:=a.trim.n) (k:=(a.trim.quo p).n) (U:=ar a.L a.nx a.st a.n) (U':=ar (a.trim.quo p).L (a.trim.quo p).nx (a.trim.quo p).st (a.trim.quo p).n) (p:=p) hm (by omega) (fun q hq=>by rw[Da.AL];exact Da.LM c2.2 hq) (k1:=0) (k2:=0) (k3:=((a.trim.quo p).trim.L:Int)) (k4:=((a.trim.quo p).trim.st:Int)) (l1:=[]) (l2:=[]) (l3:=(a.trim.quo p).trim.dN) (l4:=(a.trim.quo p).trim.dX);refine⟨(a.trim.quo p).trim,X,aCf ?_,Canon.congr aCo fun w hw=>h.aki hw⟩;unfold alb;refine bs (akA h) ?_;refine bs c1 ?_;refine bs (aCl ht c2.2) ?_;simp only[un];rw[←q1,←q2];have aCp:CC 65 [vI (a.L:Int),vI 0,av (a.trim.quo p).dN,ah (a.trim.quo p).dX]=some (eu (a.trim.quo p).trim++[ab (qo (ar (a.trim.quo p).L (a.trim.quo p).nx (a.trim.quo p).st (a.trim.quo p).n) (a.trim.quo p).n)]):=by
  rw[←rW];unfold eu uO;rw[cv];rfl
 refine bs aCp ?_;have e0:(qo (ar a.L a.nx a.st a.n) a.n).length=a.n:=by simp[qo]
 refine bT (show((decide (0≤((qo (ar a.L a.nx a.st a.n) a.n).length:Int)))&&((decide (((qo (ar a.L a.nx a.st a.n) a.n).length:Int)≤((qo (ar a.L a.nx a.st a.n) a.n).length:Int)))&&(Nat.ble (((((qo (ar a.L a.nx a.st a.n) a.n).length:Nat):Int).toNat)*8) aR)))=true from gP (by omega) (by omega)) ?_;refine bs hX ?_;rfl
theorem ale{a:Da}(h:a.Ok):∃m,CC 18 (eu a)=some (eu m)∧m.Canon a.L (a.acc a.st):=by
 obtain⟨m,X,h1,h2⟩:=aCn h;refine⟨m,aCg ?_,h2⟩;unfold alc;refine bs (su h) ?_;refine bF rfl ?_;refine bs h1 ?_;rfl
open Classical in
noncomputable def minD(a:Da):Da:=if h:∃m:Da,m.Canon a.L (a.acc a.st)then Classical.choose h else a
theorem vX{a:Da}(h:a.Ok):(minD a).Canon a.L (a.acc a.st):=by
 obtain⟨m,_,h2⟩:=ale h;have:∃m:Da,m.Canon a.L (a.acc a.st):=⟨m,h2⟩
 unfold minD;grind
theorem Wi{a m:Da}(h:a.Ok)(hm:m.Canon a.L (a.acc a.st)):m=minD a:=hm.eq (vX h)
theorem Bx{a:Da}(h:a.Ok):CC 18 (eu a)=some (eu (minD a)):=by
 obtain⟨m,h1,h2⟩:=ale h;rw[h1,Wi h h2]
noncomputable def L9(C:af)(n a t33 t34 t37 ss fX fY:Int)(fq fb:LV)(t38:Int)(aE:LV){β:Type}(kn:(Int×LV)→Option β)(kr:(Int×Bool×LV)→Option β):Option β:=
 bif decide (t38<t37)then
  aA aE a fun x1=>
  (idx fb t38).bind fun x2=>
  (idx x2.toList a).bind fun x3=>
  (aE[a.toNat]?).bind fun x4=>
  bif Nat.ble ((x4.toList.length+([vI (wrap .i64 (ss+x3.toInt))]:LV).length)*8) aR then
  El aE a <|
  bif (Nat.beq (a.toNat) (a.toNat))&&true then
   kn (wrap .i64 (t38+1),bc aE a (ab (x4.toList++([vI (wrap .i64 (ss+x3.toInt))]:LV))))
  else none
  else none
 else
  kr (t38,decide (t38<t37),aE)
noncomputable def SC(C:af)(n a t33 t34 t37 ss fX fY:Int)(fq fb:LV):=un fun t38 aE=>L9 C n a t33 t34 t37 ss fX fY fq fb t38 aE (fun y=>some (Sum.inl y)) (fun r=>some (Sum.inr r))
noncomputable def Ma(C:af)(n t33 ss fX fY:Int)(fq fb:LV)(t34:Int)(aE:LV){β:Type}(kn:(Int×LV)→Option β)(kr:(Int×Bool×LV)→Option β):Option β:=
 bif decide (t34<t33)then
  (Loop (SC C n t34 t33 t34 n ss fX fY fq fb) (0,aE)).bind (un fun mu=>un fun(jD:Bool) (LG:LV)=>
   kn (wrap .i64 (t34+1),LG))
 else
  kr (t34,decide (t34<t33),aE)
noncomputable def SD(C:af)(n t33 ss fX fY:Int)(fq fb:LV):=un fun t34 aE=>Ma C n t33 ss fX fY fq fb t34 aE (fun y=>some (Sum.inl y)) (fun r=>some (Sum.inr r))
noncomputable def alf(C:af):cp:=bz 161 Y9 [Q0,Q0,Q0,Q0,Q0,Q1,Q0,Q0,Q0,Q0,Q0,Q1] [[1,2,3,4,5,0,0,7,8,9,10,11,0]] (@L9 C) (bz 113 Za [Q0,Q0,Q1,Q0,Q0,Q0,Q0,Q0,Q1] [[1,2,0,0,4,5,6,7,8,0]] (@Ma C) bh)
theorem aCq(C:af):bn C (alf C) 73 (Lp [1,1,1,1,0,1,0,0,1,1,0,0,1,1,0,0] 73):=bA Y9 [Q0,Q0,Q0,Q0,Q0,Q1,Q0,Q0,Q0,Q0,Q0,Q1] [[1,2,3,4,5,0,0,7,8,9,10,11,0]] (@L9 C) (ba an)
theorem aCr(C:af):bn C (alf C) 73 (Lp [1,1,1,1,0,1,0,0] 73):=bA Za [Q0,Q0,Q1,Q0,Q0,Q0,Q0,Q0,Q1] [[1,2,0,0,4,5,6,7,8,0]] (@Ma C) (ba (bp (aCq C) an))
noncomputable def UN(C:af)(xj Gr:Int)(y6 SF:LV)(ss:Int):Option LV:=
 bif decide (((wrap .i64 (ss+(y6.length:Int))):Int)>32)then
  some [vI 3,vI ss,ah ([]:LV),sx ([]:LV)]
 else
  bif (decide (0≤xj))&&((decide (xj≤xj))&&(Nat.ble ((xj.toNat)*24) aR))then
  (Loop (SD C (y6.length:Int) ((List.replicate (xj.toNat) (ab ([]:LV))).length:Int) ss xj Gr y6 SF) (0,List.replicate (xj.toNat) (ab ([]:LV)))).bind (un fun v8=>un fun(uS:Bool) (pq:LV)=>
   bif Nat.ble (([.agg [vI (wrap .i64 (ss+Gr)),av y6,vI ss]]:LV).length*40) aR then
    some [vI 0,vI (wrap .i64 (ss+(y6.length:Int))),ah pq,sx ([.agg [vI (wrap .i64 (ss+Gr)),av y6,vI ss]]:LV)]
   else none)
  else none
theorem ac4{xj Gr:Int}{y6 SF:LV}{ss:Int}{r:Option LV}(h:UN CC xj Gr y6 SF ss=r):CC 73 [vI xj,vI Gr,av y6,ah SF,vI ss]=r:=bj (bp (aCr CC) an) h
noncomputable def alg(C:af)(SG:Int)(SH:LV)(SJ:Int)(f:LV):Option LV:=
 (idx f SG).bind fun x1=>
 (idx SH (wrap .i64 (x1.toInt-SJ))).bind fun x2=>
 some [.bool x2.toBool]
theorem aCs{SG:Int}{SH:LV}{SJ:Int}{f:LV}{r:Option LV}(h:alg CC SG SH SJ f=r):CC 116 [vI SG,av SH,vI SJ,ab f]=r:=bj (L:=bh) an h
section
variable {a:LV}{i:Nat}{l l':LV}
theorem aCt:Tryz.prog.underlying 22=some (.slice 3):=by kernel_rfl
theorem alh:bW Tryz.prog 22=false:=by kernel_rfl
theorem ali:parts Tryz.prog 22 (ab l)=[ab l]:=by
 unfold parts;rw[alh];simp only[cond_false,iq,aCt,V.eo]
theorem sH(h:a[i]? =some (ab l)):ez Tryz.prog 22 a [(i,0)]=some (ab l):=by
 simp only[ez,h,Option.bind_some,ali];rfl
theorem Jl(h:a[i]? =some (ab l)):setRow Tryz.prog l' 22 a [(i,0)]=a.set i (ab l'):=by
 simp only[setRow,h,ali];simp only[List.getElem?_cons_zero,List.set_cons_zero,dy,alh,cond_false,V.sy,gI,gL,gB,gS]
theorem aCu:Tryz.prog.underlying 23=some (.slice 4):=by kernel_rfl
theorem alj:bW Tryz.prog 23=false:=by kernel_rfl
theorem alk:parts Tryz.prog 23 (av l)=[av l]:=by
 unfold parts;rw[alj];simp only[cond_false,iq,aCu,V.eo]
theorem alm(h:a[i]? =some (av l)):ez Tryz.prog 23 a [(i,0)]=some (av l):=by
 simp only[ez,h,Option.bind_some,alk];rfl
theorem aCv(h:a[i]? =some (av l)):setRow Tryz.prog l' 23 a [(i,0)]=a.set i (av l'):=by
 simp only[setRow,h,alk];simp only[List.getElem?_cons_zero,List.set_cons_zero,dy,alj,cond_false,V.sy,gI,gL,gB,gS]
end
def Da.gT(m:Da)(x:Nat):List Nat:=(List.range m.n).map fun q=>m.nx q x
theorem Da.Ok.gT{m:Da}(h:m.Ok){x:Nat}(hx:x<m.L):Tr m.n (m.gT x):=by
 refine⟨by simp[Da.gT],fun y hy=> ?_⟩;obtain⟨q,hq,rfl⟩:=gm.1 hy;exact h.lH (gn.1 hq) hx
theorem aCw{m:Da}{x:Nat}:nS (m.gT x)=tab m.n fun q=>nV (m.nx q x):=by
 unfold Da.gT nS;rw[AQ];rfl
def vz(m:Da):LV:=[.agg [vI (m.st:Int),av m.dN,vI 0]]
section
variable {m:Da}(h:m.Ok)(nn:m.n≤32)
include h nn
theorem aCx{a:Nat}(ha:a<m.L){k1 k2:Int}:Loop (SC CC (m.n:Int) (a:Int) k1 k2 (m.n:Int) 0 (m.L:Int) (m.st:Int) m.dN m.dX) (0,tab m.L fun j=>if j<a then tV (m.gT j)else ab [])=some ((m.n:Int),false,tab m.L fun j=>if j<a+1 then tV (m.gT j)else ab []):=by
 have Vx:=h.l6;have cv:∀{q:Nat} {l:LV},(tab m.L fun j=>if j<a then tV (m.gT j)else if j=a then ab l else ab [])[a]? =some (ab l):=fun {q l}=>by rw[nj ha,fZ,dG]
 refine(eZ m.n (fun q=>((q:Int),(tab m.L fun j=>if j<a then tV (m.gT j)else if j=a then ab (tab q fun p=>nV (m.nx p a))else ab []))) _ (fun q hq=> ?_) ?_) |> fun e=>by
  rw[show(tab m.L fun j=>if j<a then tV (m.gT j)else ab [])=tab m.L fun j=>if j<a then tV (m.gT j)else if j=a then ab (tab 0 fun p=>nV (m.nx p a))else ab []from dW fun j _=>by
   by_cases c:j<a
   ·grind
   ·rw[aD c,aD c];split<;>rfl]
  exact e
 ·simp only[SC,L9,un,aA,El,bc];have e1:=cv (q:=q) (l:=tab q fun p=>nV (m.nx p a));have e2:a<(tab m.L fun j=>if j<a then tV (m.gT j)else if j=a then ab (tab q fun p=>nV (m.nx p a))else ab []).length:=by grind
  have JE:=h.lH hq ha;refine bT (bt hq) ((bJ e1).trans (bs (Da.aaj hq) ?_));rw[R0];refine bs (R3 ha) (bs (by rw[Int.toNat_natCast];exact e1) (bT (cap (by simp;omega) (by omega)) (bT (ra e2) (bT (by simp) ?_))));rw[bu (by omega),show wrap .i64 (0+(iV (m.nx q a)).toInt)=((m.nx q a:Nat):Int)from by show wrap .i64 (0+((m.nx q a:Nat):Int))=_;rw[lF]<;>omega,Int.toNat_natCast,mw];refine congrArg (fun t=>some (Sum.inl (((q+1:Nat):Int),t))) (dW fun j _=> ?_);by_cases c:j=a
  ·subst c;rw[dG,fZ,dG,V.eo,BJ];rfl
  grind
 ·simp only[SC,L9,un];refine bF (cL (aW _)) ?_;rw[cL (aW _)];refine congrArg (fun t=>some (Sum.inr ((m.n:Int),false,t))) (dW fun j _=> ?_);by_cases c:j=a
  ·subst c;rw[fZ,dG,dG];unfold tV;rw[aCw]
  grind
theorem aln:CC 73 (uO m [vI 0])=some [vI 0,vI (m.n:Int),ah (gV m.L m.gT),sx (vz m)]:=by
 have Vx:=h.l6;have hs:=h.s;refine ac4 ?_;unfold UN;rw[Da.Et,show wrap .i64 (0+(m.n:Int))=(m.n:Int)from by rw[lF]<;>omega];refine bF (dj (by omega)) (bT (gP (by omega) (by omega)) ?_);rw[Int.toNat_natCast,xo];have l2:Loop (SD CC (m.n:Int) (m.L:Int) 0 (m.L:Int) (m.st:Int) m.dN m.dX) (0,List.replicate m.L (ab ([]:LV)))=some ((m.L:Int),false,gV m.L m.gT):=by
  rw[p5];refine(eZ m.L (fun a=>((a:Int),(tab m.L fun j=>if j<a then tV (m.gT j)else ab []))) _ (fun a ha=> ?_) ?_)
  ·simp only[SD,Ma,un];refine bT (bt ha) (bs (aCx h nn ha) ?_);rw[bu (by omega)];rfl
  ·simp only[SD,Ma,un];refine bF (cL (aW _)) ?_;rw[cL (aW _)];exact congrArg (fun t=>some (Sum.inr ((m.L:Int),false,t))) (dW fun j hj=>aF hj)
 rw[show wrap .i64 (0+(m.st:Int))=(m.st:Int)from by rw[lF]<;>omega];exact bs l2 rfl
theorem aCy{f:List Nat}(hf:Tr m.n f):CC 116 [vI (m.st:Int),av m.dN,vI 0,ab (nS f)]=some [.bool (m.fin (f.getD m.st 0))]:=by
 have hs:=h.s;have rF:m.st<f.length:=by rw[hf.1];exact hs
 have h2:=hf.at rF;refine aCs ?_;unfold alg;refine bs (iT rF) ?_;rw[show wrap .i64 ((nV f[m.st]).toInt-0)=((f[m.st]:Nat):Int)from by show wrap .i64 (((f[m.st]:Nat):Int)-0)=_;rw[lF]<;>omega,ep rF];exact bs (Da.aai h2) rfl
end
noncomputable def Mb(C:af)(t t13:LV)(t14 t15:Int)(t24:LV)(t25 t26:Int){β:Type}(kn:Int→Option β)(kr:((Int) ⊕ (Int×Bool))→Option β):Option β:=
 bif decide (t26<t25)then
  (idx t24 t26).bind fun x2=>
  bif decide ((x2.toInt:Int)<0)then
  kr (.inl 4)
  else
  bif decide ((x2.toInt:Int)≥(t.length:Int))then
   kr (.inl 4)
  else
   kn (wrap .i64 (t26+1))
 else
  kr (.inr (t26,decide (t26<t25)))
noncomputable def aaZ(C:af)(t t13:LV)(t14 t15:Int)(t24:LV)(t25:Int):=fun t26=>Mb C t t13 t14 t15 t24 t25 t26 (fun y=>some (Sum.inl y)) (fun r=>some (Sum.inr r))
noncomputable def Mc(C:af)(t t13:LV)(t14 t15:Int){β:Type}(kn:Int→Option β)(kr:((Int) ⊕ (Int×Bool))→Option β):Option β:=
 bif decide (t15<t14)then
  (idx t13 t15).bind fun x1=>
  bif (x1.toList.length:Int) != (t.length:Int)then
  kr (.inl 4)
  else
  (Loop (aaZ C t t13 t14 t15 x1.toList (x1.toList.length:Int)) 0).bind (ed (fun iU=>
   kr (.inl iU)) (un fun(mr:Int) (mu:Bool)=>
   kn (wrap .i64 (t15+1))))
 else
  kr (.inr (t15,decide (t15<t14)))
noncomputable def aa0(C:af)(t t13:LV)(t14:Int):=fun t15=>Mc C t t13 t14 t15 (fun y=>some (Sum.inl y)) (fun r=>some (Sum.inr r))
noncomputable def alo(C:af):cp:=bz 177 ZS [Q0,Q0,Q0,Q0,Q0,Q0,Q1] [[0],[1,2,3,4,5,6,0,0]] (@Mb C) (bz 97 ZT [Q0,Q0,Q0,Q1] [[0],[1,2,3,0,0]] (@Mc C) bh)
theorem aCz(C:af):bn C (alo C) 191 (Lp [1,1,1,0,1,0,0,1,1,0,0,1,1,1,0,0] 191):=bA ZS [Q0,Q0,Q0,Q0,Q0,Q0,Q1] [[0],[1,2,3,4,5,6,0,0]] (@Mb C) (ba an)
theorem aCA(C:af):bn C (alo C) 191 (Lp [1,1,1,0,1,0,0] 191):=bA ZT [Q0,Q0,Q0,Q1] [[0],[1,2,3,0,0]] (@Mc C) (ba (bp (aCz C) an))
noncomputable def alp(C:af)(t:LV):Option LV:=
 bif decide ((t.length:Int)>400)then
  some [vI 3]
 else
  bif (t.length:Int)==0 then
  some [vI 4]
  else
  (Loop (aa0 C t t (t.length:Int)) 0).bind (ed (fun jD=>
   some [vI jD]) (un fun(ng:Int) (v8:Bool)=>
   some [vI 0]))
theorem aCB{t:LV}{r:Option LV}(h:alp CC t=r):CC 191 [ah t]=r:=bj (bp (aCA CC) an) h
noncomputable def Md(C:af)(t:LV)(g:Int)(row left t16:LV)(t17 t18:Int)(t29:LV)(t30 t31:Int)(t45:LV)(t46:Int)(oS:LV)(t47:Int){β:Type}(kn:Int→Option β)(kr:((Bool) ⊕ (Int×Bool))→Option β):Option β:=
 bif decide (t47<t46)then
  (idx t45 t47).bind fun x8=>
  (idx left t47).bind fun x9=>
  (idx row x8.toInt).bind fun mA=>
  bif (x9.toInt:Int) != mA.toInt then
  kr (.inl false)
  else
  kn (wrap .i64 (t47+1))
 else
  kr (.inr (t47,decide (t47<t46)))
noncomputable def aa1(C:af)(t:LV)(g:Int)(row left t16:LV)(t17 t18:Int)(t29:LV)(t30 t31:Int)(t45:LV)(t46:Int)(oS:LV):=fun t47=>Md C t g row left t16 t17 t18 t29 t30 t31 t45 t46 oS t47 (fun y=>some (Sum.inl y)) (fun r=>some (Sum.inr r))
noncomputable def Me(C:af)(t:LV)(g:Int)(t16:LV)(t17 t18:Int)(t29:LV)(t30:Int)(oS:LV)(t31:Int){β:Type}(kn:Int→Option β)(kr:((Bool) ⊕ (Int×Bool))→Option β):Option β:=
 bif decide (t31<t30)then
  (idx t29 t31).bind fun x4=>
  (idx x4.toList g).bind fun x5=>
  (idx t x5.toInt).bind fun x6=>
  (idx t g).bind fun x7=>
  (Loop (aa1 C t g x4.toList x6.toList t16 t17 t18 t29 t30 t31 x7.toList (x7.toList.length:Int) oS) 0).bind (ed (fun(BN:Bool)=>
   kr (.inl BN)) (un fun(EF:Int) (yb:Bool)=>
   kn (wrap .i64 (t31+1))))
 else
  kr (.inr (t31,decide (t31<t30)))
noncomputable def SK(C:af)(t:LV)(g:Int)(t16:LV)(t17 t18:Int)(t29:LV)(t30:Int)(oS:LV):=fun t31=>Me C t g t16 t17 t18 t29 t30 oS t31 (fun y=>some (Sum.inl y)) (fun r=>some (Sum.inr r))
noncomputable def Mf(C:af)(t t16:LV)(t17 t18:Int)(oS:LV){β:Type}(kn:(Int×LV)→Option β)(kr:((Bool) ⊕ (Int×Bool×LV))→Option β):Option β:=
 bif decide (t18<t17)then
  (idx t16 t18).bind fun x1=>
  bif (decide (0≤x1.toInt))&&(decide (x1.toInt<(oS.length:Int)))then
  (oS[(x1.toInt:Int).toNat]?).bind fun x2=>
  bif x2.toBool then
   kn (wrap .i64 (t18+1),oS)
  else
   bif (decide (0≤x1.toInt))&&(decide (x1.toInt<(oS.length:Int)))then
   (oS[(x1.toInt:Int).toNat]?).bind fun x3=>
   (Loop (SK C t x1.toInt t16 t17 t18 t (t.length:Int) (bc oS (x1.toInt) (.bool true))) 0).bind (ed (fun(wb:Bool)=>
    kr (.inl wb)) (un fun(Pp:Int) (BU:Bool)=>
    kn (wrap .i64 (t18+1),bc oS (x1.toInt) (.bool true))))
   else none
  else none
 else
  kr (.inr (t18,decide (t18<t17),oS))
noncomputable def SL(C:af)(t t16:LV)(t17:Int):=un fun t18 oS=>Mf C t t16 t17 t18 oS (fun y=>some (Sum.inl y)) (fun r=>some (Sum.inr r))
noncomputable def aa2(C:af):cp:=bz 193 ZU [Q0,Q0,Q0,Q0,Q0,Q0,Q0,Q0,Q0,Q0,Q0,Q0,Q1,Q0] [[0],[1,2,3,4,5,6,7,8,9,10,11,12,0,0,14]] (@Md C) (bz 129 ZV [Q0,Q0,Q0,Q0,Q0,Q0,Q0,Q1,Q0] [[0],[1,2,3,4,5,6,7,0,0,9]] (@Me C) (bz 49 ZW [Q0,Q0,Q0,Q1,Q1] [[0],[1,2,3,0,0,0]] (@Mf C) bh))
theorem aCC(C:af):bn C (aa2 C) 192 (Lp [1,1,0,1,0,0,1,1,0,0,1,1,1,1,0,0,1,1,0,0,1,1,1,0,0] 192):=bA ZU [Q0,Q0,Q0,Q0,Q0,Q0,Q0,Q0,Q0,Q0,Q0,Q0,Q1,Q0] [[0],[1,2,3,4,5,6,7,8,9,10,11,12,0,0,14]] (@Md C) (ba an)
theorem aCD(C:af):bn C (aa2 C) 192 (Lp [1,1,0,1,0,0,1,1,0,0,1,1,1,1,0,0] 192):=bA ZV [Q0,Q0,Q0,Q0,Q0,Q0,Q0,Q1,Q0] [[0],[1,2,3,4,5,6,7,0,0,9]] (@Me C) (ba (bp (aCC C) an))
theorem aCE(C:af):bn C (aa2 C) 192 (Lp [1,1,0,1,0,0] 192):=bA ZW [Q0,Q0,Q0,Q1,Q1] [[0],[1,2,3,0,0,0]] (@Mf C) (ba (bp (aCD C) an))
noncomputable def alq(C:af)(t nC:LV):Option LV:=
 bif (decide (0≤(t.length:Int)))&&((decide ((t.length:Int)≤(t.length:Int)))&&(Nat.ble (((t.length:Int).toNat)*1) aR))then
  (Loop (SL C t nC (nC.length:Int)) (0,List.replicate ((t.length:Int).toNat) (V.bool false))).bind (ed (fun(SM:Bool)=>
   some [.bool SM]) (un fun aa3=>un fun(aa4:Bool) (aHy:LV)=>
   some [.bool true]))
 else none
theorem aCF{t nC:LV}{r:Option LV}(h:alq CC t nC=r):CC 192 [ah t,ab nC]=r:=bj (bp (aCE CC) an) h
noncomputable def alr(C:af)(x:Int)(aE aH:LV):Option LV:=
 aA aE x fun x1=>
 bif !x1.toBool then
  aA aE x fun x2=>
  bif Nat.ble ((aH.length+([vI x]:LV).length)*8) aR then
  some [av (bc aE x (.bool true)),ab (aH++([vI x]:LV))]
  else none
 else
  some [av aE,ab aH]
theorem aCG{x:Int}{aE aH:LV}{r:Option LV}(h:alr CC x aE aH=r):CC 213 [vI x,av aE,ab aH]=r:=bj (L:=bh) an h
noncomputable def Mg(C:af)(t:LV)(lU x t17 t18:Int)(t45:LV)(t46:Int)(rY:LV)(t47:Int)(aH aL:LV){β:Type}(kn:(Int×LV×LV)→Option β)(kr:(Int×Bool×LV×LV)→Option β):Option β:=
 bif decide (t47<t46)then
  (idx t45 t47).bind fun x4=>
  (idx t x).bind fun x5=>
  (idx x5.toList x4.toInt).bind fun x6=>
  (C 213 [vI x6.toInt,av aH,ab aL]).bind fun r7=>
  (idx t x4.toInt).bind fun x8=>
  (idx x8.toList x).bind fun x9=>
  (C 213 [vI x9.toInt,av (gL r7),ab (gL (r7.drop 1))]).bind fun fO=>
  kn (wrap .i64 (t47+1),(gL fO),(gL (fO.drop 1)))
 else
  kr (t47,decide (t47<t46),aH,aL)
noncomputable def Mh(C:af)(t:LV)(lU x t17 t18:Int)(t45:LV)(t46:Int)(rY:LV):=un fun t47=>un fun aH aL=>Mg C t lU x t17 t18 t45 t46 rY t47 aH aL (fun y=>some (Sum.inl y)) (fun r=>some (Sum.inr r))
noncomputable def SN(C:af)(t:LV)(t17 t18:Int)(rY:LV)(lU:Int)(aH aL:LV){β:Type}(kn:(Int×LV×LV)→Option β)(kr:(Int×Bool×LV×LV)→Option β):Option β:=
 bif decide (lU<(aL.length:Int))then
  aA aL lU fun x3=>
  bif (decide (0≤(wrap .i64 (lU+1))))&&(decide ((wrap .i64 (lU+1))≤(aL.length:Int)))then
  (Loop (Mh C t lU x3.toInt t17 t18 ((aL.drop 0).take (((wrap .i64 (lU+1):Int).toNat)-0)) (((wrap .i64 (lU+1):Int).toNat)-0:Int) rY) (0,aH,aL)).bind (un fun BN=>un fun(EF:Bool)=>un fun(Gf:LV) (pz:LV)=>
   kn (wrap .i64 (lU+1),Gf,pz))
  else none
 else
  kr (lU,decide (lU<(aL.length:Int)),aH,aL)
noncomputable def SO(C:af)(t:LV)(t17 t18:Int)(rY:LV):=un fun lU=>un fun aH aL=>SN C t t17 t18 rY lU aH aL (fun y=>some (Sum.inl y)) (fun r=>some (Sum.inr r))
noncomputable def Mi(C:af)(t:LV)(t17 lU t18:Int)(rY aH aL:LV){β:Type}(kn:(Int×Int×LV×LV×LV)→Option β)(kr:(Int×Int×Bool×LV×LV×LV)→Option β):Option β:=
 bif decide (t18<t17)then
  aA aH t18 fun x1=>
  bif x1.toBool then
  kn (lU,wrap .i64 (t18+1),rY,aH,aL)
  else
  bif Nat.ble ((rY.length+([vI t18]:LV).length)*8) aR then
   (C 213 [vI t18,av aH,ab aL]).bind fun r2=>
   (Loop (SO C t t17 t18 (rY++([vI t18]:LV))) (lU,(gL r2),(gL (r2.drop 1)))).bind (un fun aCH=>un fun(BU:Bool)=>un fun(sD:LV) (uR:LV)=>
    kn (aCH,wrap .i64 (t18+1),rY++([vI t18]:LV),sD,uR))
  else none
 else
  kr (lU,t18,decide (t18<t17),rY,aH,aL)
noncomputable def SP(C:af)(t:LV)(t17:Int):=un fun lU=>un fun t18=>un fun rY=>un fun aH aL=>Mi C t t17 lU t18 rY aH aL (fun y=>some (Sum.inl y)) (fun r=>some (Sum.inr r))
noncomputable def aa5(C:af):cp:=bz 241 ZX [Q0,Q0,Q0,Q0,Q0,Q0,Q0,Q1,Q0,Q1,Q1] [[1,2,3,4,5,6,7,0,0,9,0,0]] (@Mg C) (bz 177 ZY [Q0,Q1,Q0,Q0,Q0,Q1,Q1] [[1,0,3,4,0,5,0,0]] (@SN C) (bz 97 ZZ [Q0,Q1,Q0,Q1,Q1,Q1,Q1] [[1,0,3,0,0,0,0,0]] (@Mi C) bh))
theorem aCI(C:af):bn C (aa5 C) 193 (Lp [1,1,1,1,1,0,1,0,0,1,1,0,0,1,1,1,1,0,0,1,0,0,1,1,0,0] 193):=bA ZX [Q0,Q0,Q0,Q0,Q0,Q0,Q0,Q1,Q0,Q1,Q1] [[1,2,3,4,5,6,7,0,0,9,0,0]] (@Mg C) (ba an)
theorem aCJ(C:af):bn C (aa5 C) 193 (Lp [1,1,1,1,1,0,1,0,0,1,1,0,0,1,1,1,1,0,0] 193):=bA ZY [Q0,Q1,Q0,Q0,Q0,Q1,Q1] [[1,0,3,4,0,5,0,0]] (@SN C) (ba (bp (aCI C) an))
theorem aCK(C:af):bn C (aa5 C) 193 (Lp [1,1,1,1,1,0,1,0,0] 193):=bA ZZ [Q0,Q1,Q0,Q1,Q1,Q1,Q1] [[1,0,3,0,0,0,0,0]] (@Mi C) (ba (bp (aCJ C) an))
noncomputable def als(C:af)(t:LV):Option LV:=
 bif (decide (0≤(t.length:Int)))&&((decide ((t.length:Int)≤(t.length:Int)))&&(Nat.ble (((t.length:Int).toNat)*1) aR))then
  (Loop (SP C t (t.length:Int)) (0,0,([]:LV),List.replicate ((t.length:Int).toNat) (V.bool false),([]:LV))).bind (un fun aHz=>un fun aq8=>un fun(aCL:Bool)=>un fun(aCM:LV)=>un fun(tC:LV) (ym:LV)=>
   some [ab aCM])
 else none
theorem aCN{t:LV}{r:Option LV}(h:als CC t=r):CC 193 [ah t]=r:=bj (bp (aCK CC) an) h
noncomputable def alu(C:af)(t:LV):Option LV:=
 (C 191 [ah t]).bind fun r1=>
 bif ((gI r1):Int) != 0 then
  some [vI (gI r1)]
 else
  (C 193 [ah t]).bind fun r2=>
  (C 192 [ah t,ab (gL r2)]).bind fun r3=>
  bif !(gB r3)then
  some [vI 5]
  else
  some [vI 0]
theorem aCO{t:LV}{r:Option LV}(h:alu CC t=r):CC 154 [ah t]=r:=bj (L:=bh) an h
noncomputable def alv(C:af)(t:LV):Option LV:=
 (C 154 [ah t]).bind fun r1=>
 some [.bool (((gI r1):Int)==0)]
theorem aCP{t:LV}{r:Option LV}(h:alv CC t=r):CC 194 [ah t]=r:=bj (L:=bh) an h
theorem qY{n i:Nat}{g:Nat→V}(hi:i<n):idx (ab (tab n g)).toList (i:Int)=some (g i):=by rw[V.eo];exact pd hi
def tG(K:Nat)(mul:Nat→Nat→Nat):LV:=tab K fun i=>ab (tab K fun j=>nV (mul i j))
structure Tb(K:Nat)(mul:Nat→Nat→Nat):Prop where
 k1:1≤K
 k4:K≤400
 lt:∀i j,i<K→j<K→mul i j<K
def kq(K:Nat)(M:List Nat):LV:=tab K fun i=> .bool (decide (i∈M))
structure oz(K:Nat)(M:List Nat):Prop where
 nd:M.Nodup
 lt:∀x∈M,x<K
theorem oz.le{K:Nat}{M:List Nat}(h:oz K M):M.length≤K:=by
 have:=za (l₂:=List.range K) h.nd fun x hx=>gn.2 (h.lt x hx);grind
theorem oz.add{K:Nat}{M:List Nat}(h:oz K M){x:Nat}(hx:x<K):oz K (cN M x):=⟨aae h.nd,fun y hy=>by
 unfold cN at hy;split at hy
 ·exact h.lt y hy
 ·rcases ik.1 hy with hy|hy
  ·exact h.lt y hy
  grind⟩
theorem aa6{M:List Nat}{x y:Nat}:y∈cN M x↔y∈M∨y=x:=by
 unfold cN;grind
theorem aCQ{K:Nat}{M:List Nat}{x:Nat}(h:x∉M):(kq K M).set x (.bool true)=kq K (cN M x):=by
 unfold kq;rw[mw];refine dW fun j _=> ?_;by_cases c:j=x
 ·rw[aF c,cB (aa6.2 (.inr c))]
 ·rw[aD c];by_cases c2:j∈M
  ·rw[cB c2,cB (aa6.2 (.inl c2))]
  ·rw[dj c2,dj fun h=>(aa6.1 h).elim c2 c]
section
variable {K:Nat}{mul:Nat→Nat→Nat}(h:Tb K mul)
theorem tz:(tG K mul).length=K:=en
theorem ou{i:Nat}(hi:i<K):idx (tG K mul) (i:Int)=some (ab (tab K fun j=>nV (mul i j))):=pd hi
include h
theorem aCR:CC 191 [ah (tG K mul)]=some [vI 0]:=by
 have h1:=h.k1;have h4:=h.k4;refine aCB ?_;unfold alp;rw[tz];refine bF (dj (by omega)) (bF (by simp;omega) (bs (eZ K (fun i=>(i:Int)) (.inr ((K:Int),false)) (fun i hi=> ?_) ?_) rfl))
 ·simp only[aa0,Mc];refine bT (bt hi) (bs (ou hi) ?_);rw[V.eo,en,tz];refine bF (by simp) (bs (eZ K (fun j=>(j:Int)) (.inr ((K:Int),false)) (fun j hj=> ?_) ?_) ?_)
  ·simp only[aaZ,Mb];rw[tz];refine bT (bt hj) (bs (pd hj) (bF zJ (bF (Gh (h.lt i j hi hj)) ?_)));rw[bu (by omega)]
  ·simp only[aaZ,Mb];grind
  ·rw[bu (by omega)];rfl
 ·simp only[aa0,Mc];grind
omit h in
theorem Mj{M:List Nat}{x:Nat}(hx:x<K):(kq K M)[x]? =some (.bool (decide (x∈M))):=nj hx
omit h in
theorem aa7{M:List Nat}(hM:oz K M)(h4:K≤400){x:Nat}(hx:x<K):CC 213 [vI (x:Int),av (kq K M),ab (nS M)]=some [av (kq K (cN M x)),ab (nS (cN M x))]:=by
 have hl:=hM.le;refine aCG ?_;unfold alr;by_cases c:x∈M
 ·refine(bJ (Mj hx)).trans (bF (by simp[c]) ?_)
  rw[show cN M x=M by rw[cN,aF c]]
 ·refine(bJ (Mj hx)).trans (bT (by simp[c]) ((bJ (Mj hx)).trans (bT (cap (by rw[dE];simp;omega) (by omega)) ?_)))
  rw[show bc (kq K M) (x:Int) (.bool true)=kq K (cN M x)from aCQ c,show cN M x=M++[x] by rw[cN,aD c]];simp[nS,nV]
theorem aCS:∃G:List Nat,CC 193 [ah (tG K mul)]=some [ab (nS G)]∧(∀g∈G,g<K)∧G.length≤K:=by
 have h1:=h.k1;have h4:=h.k4;have l1:∀{M0:List Nat} {k x:Nat} {a b c:Int} {d:LV},oz K M0→k<M0.length→x<K→∃M,oz K M∧M0 <+: M∧Loop (Mh CC (tG K mul) a (x:Int) b c (((nS M0).drop 0).take ((((k+1:Nat):Int)).toNat-0)) ((((((k+1:Nat):Int)).toNat)-0:Int)) d) (0,kq K M0,nS M0)=some (((k+1:Nat):Int),false,kq K M,nS M):=by
  intro M0 k x a b c d Mk hk hx;have hle:=Mk.le;rw[Int.toNat_natCast,Nat.sub_zero,y9,Int.sub_zero,show(nS M0).take (k+1)=nS (M0.take (k+1)) by simp[nS,List.map_take]];have key:=nh (step:=Mh CC (tG K mul) a (x:Int) b c (nS (M0.take (k+1))) ((k+1:Nat):Int) d) (fun i y=> ∃M,y=((i:Int),kq K M,nS M)∧oz K M∧M0 <+: M) (fun r=> ∃M,r=(((k+1:Nat):Int),false,kq K M,nS M)∧oz K M∧M0 <+: M) (k+1) 0 (0,kq K M0,nS M0) (fun i _ hi y hy=> ?_) (fun y hy=> ?_) ⟨M0,rfl,Mk,GO _⟩
  ·grind
  ·obtain⟨M,rfl,hM,hp⟩:=hy;have bS:i<(M0.take (k+1)).length:=by grind
   have Cj:(M0.take (k+1))[i]<K:=Mk.lt _ (MR (dw bS));have a1:=h.lt _ _ hx Cj;have a2:=h.lt _ _ Cj hx;simp only[Mh,Mg,un];refine⟨_,bT (bt (by omega)) (bs (iT bS) (bs (ou hx) (bs (qY Cj) (bs (aa7 hM h4 a1) (bs (ou Cj) (bs (qY hx) (bs (aa7 (hM.add a1) h4 a2) rfl))))))),_,?_,(hM.add a1).add a2,hp.trans ((Gc _ _).trans (Gc _ _))⟩;rw[bu (by omega)];rfl
  ·obtain⟨M,rfl,hM,hp⟩:=hy;simp only[Mh,Mg,un];grind
 have l2:∀{M0:List Nat} {k:Nat} {a b:Int} {d:LV},oz K M0→k≤M0.length→∃k' M,oz K M∧k'≤M.length∧M0 <+: M∧Loop (SO CC (tG K mul) a b d) ((k:Int),kq K M0,nS M0)=some ((k':Int),false,kq K M,nS M):=by
  intro M0 k a b d Mk hk;have key:=Oc (step:=SO CC (tG K mul) a b d) (fun y=> ∃(k:Nat) (M:List Nat),y=((k:Int),kq K M,nS M)∧oz K M∧k≤M.length∧M0 <+: M) (fun y=>1000-y.1.toNat) (fun r=> ∃(k:Nat) (M:List Nat),r=((k:Int),false,kq K M,nS M)∧oz K M∧k≤M.length∧M0 <+: M) (fun y hy=> ?_) ((k:Int),kq K M0,nS M0) ⟨k,M0,rfl,Mk,hk,GO _⟩
  ·grind
  ·obtain⟨k,M,rfl,hM,hk,hp⟩:=hy;have hle:=hM.le;simp only[SO,SN,un,aA];rw[dE];by_cases c:k<M.length
   ·obtain⟨M',hM',hp',e⟩:=l1 (a:=(k:Int)) (b:=a) (c:=b) (d:=d) hM c (hM.lt _ (dw c));refine .inl ⟨((k+1:Nat),kq K M',nS M'),bT (bt c) ?_,⟨k+1,M',rfl,hM',by grind,hp.trans hp'⟩,by omega⟩;refine((congrArg (fun n:Nat=>bif decide (0≤(k:Int))&&decide ((k:Int)<(n:Int))then _ else none) dE.symm)).trans ((bJ (z0 c)).trans ?_)
    rw[bu (by omega)];exact bT (mW.2 ⟨cB (by omega),cB (by omega)⟩) (bs e rfl)
   ·refine .inr ⟨_,bF (cL (by omega)) rfl,k,M,?_,hM,hk,hp⟩;grind
 have key:=nh (step:=SP CC (tG K mul) (K:Int)) (fun i y=> ∃(k:Nat) (G M:List Nat),y=((k:Int),(i:Int),nS G,kq K M,nS M)∧oz K M∧k≤M.length∧(∀g∈G,g<K)∧G.length≤i) (fun r=> ∃(k:Nat) (G M:List Nat),r=((k:Int),(K:Int),false,nS G,kq K M,nS M)∧(∀g∈G,g<K)∧G.length≤K) K 0 (0,0,[],kq K [],[]) (fun i _ hi y hy=> ?_) (fun y hy=> ?_) ⟨0,[],[],rfl,⟨by simp,fun x hx=>(by cases hx)⟩,aW _,fun g hg=>(by cases hg),aW _⟩
 ·obtain⟨r,e,k,G,M,rfl,hG,SQ⟩:=key;refine⟨G,aCN ?_,hG,SQ⟩;unfold als;rw[tz];refine bT (gP (by omega) (by omega)) ?_;rw[Int.toNat_natCast,p5,show(tab K fun _=>V.bool false)=kq K []from dW fun j _=>by simp];exact bs e rfl
 ·obtain⟨k,G,M,rfl,hM,hk,hG,SQ⟩:=hy;have BI:i<K:=by omega
  simp only[SP,Mi,un,aA];by_cases c:i∈M
  ·refine⟨_,bT (bt BI) ((bJ (Mj BI)).trans (bT (by simp[c]) rfl)),k,G,M,?_,hM,hk,hG,by omega⟩;rw[bu (by omega)]
  ·obtain⟨k',M',hM',dK,_,e⟩:=l2 (k:=k) (a:=(K:Int)) (b:=(i:Int)) (d:=nS (G++[i])) (hM.add BI) (by have:=(Gc M i).length_le;omega);have N4:nS G++[vI (i:Int)]=nS (G++[i]):=by simp[nS,nV]
   refine⟨((k':Int),((i+1:Nat):Int),nS (G++[i]),kq K M',nS M'),bT (bt BI) ((bJ (Mj BI)).trans (bF (by simp[c]) (bT (cap (by rw[dE];simp;omega) (by omega)) (bs (aa7 hM h4 BI) ?_)))),k',G++[i],M',rfl,hM',dK,fun g hg=> ?_,by simp;omega⟩
   ·rw[N4];refine bs e ?_;rw[bu (by omega)];rfl
   grind
 ·obtain⟨k,G,M,rfl,hM,hk,hG,SQ⟩:=hy;rw[dP]at*
  simp only[SP,Mi,un,aA];refine⟨_,bF (cL (aW _)) rfl,k,G,M,?_,hG,SQ⟩;grind
section
variable (ha:∀i j k,i<K→j<K→k<K→mul (mul i j) k=mul i (mul j k))
include ha
theorem aCT{G:List Nat}(hG:∀g∈G,g<K)(hl:G.length≤K):CC 192 [ah (tG K mul),ab (nS G)]=some [.bool true]:=by
 have h4:=h.k4;have l2:∀{g:Nat} {a b:Int} {c d:LV},g<K→Loop (SK CC (tG K mul) (g:Int) c a b (tG K mul) (K:Int) d) 0=some (.inr ((K:Int),false)):=by
  intro g a b c d hg;refine eZ K (fun x=>(x:Int)) _ (fun x hx=> ?_) ?_
  ·have h1:=h.lt _ _ hx hg;simp only[SK,Me];refine bT (bt hx) (bs (ou hx) (bs (qY hg) (bs (ou h1) (bs (ou hg) ?_))));rw[V.eo,V.eo,V.eo,en];refine bs (eZ K (fun y=>(y:Int)) (.inr ((K:Int),false)) (fun y hy=> ?_) ?_) ?_
   ·simp only[aa1,Md];refine bT (bt hy) (bs (pd hy) (bs (pd hy) (bs (pd (h.lt _ _ hg hy)) (bF ?_ ?_))))
    ·grind
    ·rw[bu (by omega)]
   ·simp only[aa1,Md];grind
   ·rw[bu (by omega)];rfl
  ·simp only[SK,Me];grind
 refine aCF ?_;unfold alq;rw[tz,dE];refine bT (gP (by omega) (by omega)) ?_;rw[Int.toNat_natCast];have key:=nh (step:=SL CC (tG K mul) (nS G) (G.length:Int)) (fun i y=> ∃b:LV,y=((i:Int),b)∧b.length=K∧∀v∈b,∃c,v= .bool c) (fun r=> ∃b:LV,r= .inr ((G.length:Int),false,b)) G.length 0 (0,List.replicate K (V.bool false)) (fun i _ hi y hy=> ?_) (fun y hy=> ?_) ⟨_,rfl,by simp,fun v hv=>⟨false,(List.mem_replicate.1 hv).2⟩⟩
 ·obtain⟨r,e,b,rfl⟩:=key;exact bs e rfl
 ·obtain⟨b,rfl,hb,hv⟩:=hy;have bS:i<G.length:=by omega
  have hg:=hG _ (dw bS);have hgb:G[i]<b.length:=by omega
  obtain⟨c,hc⟩:=hv _ (dw hgb);simp only[SL,Mf,un];have e0:b[((nV G[i]).toInt).toNat]? =some (.bool c):=by
   show b[G[i]]? =_;grind
  have e1:((decide (0≤(nV G[i]).toInt))&&(decide ((nV G[i]).toInt<(b.length:Int))))=true:=ra hgb;cases c with
  |true=>
   refine⟨_,bT (bt bS) (bs (iT bS) (bT e1 (bs e0 (bT rfl rfl)))),b,?_,hb,hv⟩;rw[bu (by omega)]
  |false=>
   refine⟨(((i+1:Nat):Int),b.set G[i] (.bool true)),bT (bt bS) (bs (iT bS) (bT e1 (bs e0 (bF rfl (bT e1 (bs e0 ?_)))))),_,rfl,by simp[hb],fun v qT=> ?_⟩
   ·rw[tz];refine bs (l2 hg) ?_;rw[bu (by omega)];rfl
   grind
 ·obtain⟨b,rfl,hb,hv⟩:=hy;simp only[SL,Mf,un];simp_all
theorem UD:CC 154 [ah (tG K mul)]=some [vI 0]:=by
 obtain⟨G,e,hG,hl⟩:=aCS h;refine aCO ?_;unfold alu;exact bs (aCR h) (bF rfl (bs e (bs (aCT h ha hG hl) (bF rfl rfl))))
theorem aCU:CC 194 [ah (tG K mul)]=some [.bool true]:=by
 refine aCP ?_;unfold alv;exact bs (UD h ha) rfl
end
end
noncomputable def HN(C:af)(table:LV)(x n e:Int){β:Type}(kn:Int→Option β)(kr:(Int×Bool)→Option β):Option β:=
 (idx table e).bind fun x1=>
 (idx x1.toList e).bind fun x2=>
 bif (x2.toInt:Int) != e then
  (idx table e).bind fun x3=>
  (idx x3.toList x).bind fun x4=>
  kn x4.toInt
 else
  kr (e,(x2.toInt:Int) != e)
noncomputable def Eb(C:af)(table:LV)(x n:Int):=fun e=>HN C table x n e (fun y=>some (Sum.inl y)) (fun r=>some (Sum.inr r))
noncomputable def aa8(C:af)(table:LV)(e g y:Int){β:Type}(kn:Int→Option β)(kr:(Int×Bool)→Option β):Option β:=
 (idx table y).bind fun x9=>
 (idx x9.toList g).bind fun mA=>
 bif (mA.toInt:Int) != e then
  (idx table y).bind fun np=>
  (idx np.toList g).bind fun ka=>
  kn ka.toInt
 else
  kr (y,(mA.toInt:Int) != e)
noncomputable def aCV(C:af)(table:LV)(e g:Int):=fun y=>aa8 C table e g y (fun y=>some (Sum.inl y)) (fun r=>some (Sum.inr r))
noncomputable def HO(C:af)(table:LV)(x t54 y t55:Int){β:Type}(kn:(Int×Int)→Option β)(kr:(Int×Int×Bool)→Option β):Option β:=
 bif decide (t55<t54)then
  (idx table y).bind fun zV=>
  (idx zV.toList x).bind fun zW=>
  kn (zW.toInt,wrap .i64 (t55+1))
 else
  kr (y,t55,decide (t55<t54))
noncomputable def NZ(C:af)(table:LV)(x t54:Int):=un fun y t55=>HO C table x t54 y t55 (fun y=>some (Sum.inl y)) (fun r=>some (Sum.inr r))
noncomputable def aa9(C:af):cp:=bz 33 Z3 [Q0,Q0,Q0,Q1] [[1,2,3,0,0]] (@HN C) (bz 113 Z4 [Q0,Q0,Q1,Q0] [[1,2,0,4,0]] (@aa8 C) (bz 177 Z5 [Q0,Q0,Q1,Q0,Q1] [[1,2,0,4,0,0]] (@HO C) bh))
theorem aCW(C:af):bn C (aa9 C) 202 (Lp [1,1,0,0,0] 202):=bA Z3 [Q0,Q0,Q0,Q1] [[1,2,3,0,0]] (@HN C) (ba an)
theorem aCX(C:af):bn C (aa9 C) 202 (Lp [1,1,1,1,0,1,0,1,0,0,0] 202):=bA Z4 [Q0,Q0,Q1,Q0] [[1,2,0,4,0]] (@aa8 C) (ba an)
theorem aCY(C:af):bn C (aa9 C) 202 (Lp [1,1,1,1,1,0,1,0,0] 202):=bA Z5 [Q0,Q0,Q1,Q0,Q1] [[1,2,0,4,0,0]] (@HO C) (ba an)
noncomputable def acy(C:af)(table:LV)(x n:Int):Option LV:=
 (Loop (Eb C table x n) x).bind (un fun(y7:Int) (jD:Bool)=>
  bif decide (n<0)then
   (idx table y7).bind fun x7=>
   (idx x7.toList x).bind fun x8=>
   (Loop (aCV C table y7 x8.toInt) y7).bind (un fun(aCZ:Int) (wb:Bool)=>
    some [vI aCZ])
  else
   (Loop (NZ C table x n) (y7,0)).bind (un fun aC0=>un fun(aa3:Int) (aa4:Bool)=>
    some [vI aC0]))
theorem anI{table:LV}{x n:Int}{r:Option LV}(h:acy CC table x n=r):CC 202 [ah table,vI x,vI n]=r:=bj (bp (aCW CC) (bp (aCX CC) (bp (aCY CC) an))) h
def pw(mul:Nat→Nat→Nat)(x:Nat):Nat→Nat
 |0=>x
 |k+1=>mul (pw mul x k) x
theorem aC1{K:Nat}{f:Nat→Nat}(h:∀i,f i<K):∃i j,i<j∧f i=f j:=by
 refine Classical.byContradiction fun hn=> ?_;have bE:∀i j,i<j→f i≠f j:=fun i j Bp e=>hn ⟨i,j,Bp,e⟩;have hd:((List.range (K+1)).map f).Nodup:=by
  refine GG.2 (List.nodup_range.imp_of_mem fun {a b} _ _ sj e=> ?_);rcases Nat.lt_or_gt_of_ne sj with c|c
  ·exact bE a b c e
  ·exact bE b a c e.symm
 have:=za (l₂:=List.range K) hd fun x hx=>by
  obtain⟨i,_,rfl⟩:=gm.1 hx;exact gn.2 (h i)
 simp at this;omega
section
variable {K:Nat}{mul:Nat→Nat→Nat}(h:Tb K mul)(ha:∀i j k,i<K→j<K→k<K→mul (mul i j) k=mul i (mul j k)){x:Nat}(hx:x<K)
include h hx
theorem xR:∀k,pw mul x k<K
 |0=>hx
 |k+1=>h.lt _ _ (xR k) hx
include ha
theorem NW(m:Nat):∀n,mul (pw mul x m) (pw mul x n)=pw mul x (m+n+1)
 |0=>rfl
 |n+1=>by
  show mul (pw mul x m) (mul (pw mul x n) x)=mul (pw mul x (m+n+1)) x;rw[←ha _ _ _ (xR h hx m) (xR h hx n) hx,NW m n]
theorem anH:∃k,mul (pw mul x k) (pw mul x k)=pw mul x k:=by
 obtain⟨i,j,Bp,e⟩:=aC1 (xR h hx);have step:∀n,pw mul x (i+n)=pw mul x (j+n):=fun n=>by
  induction n with
  |zero=>exact e
  |succ n ih=>exact congrArg (fun y=>mul y x) ih
 have Uq:∀c m,i≤m→pw mul x (m+(j-i)*c)=pw mul x m:=fun c=>by
  induction c with
  |zero=>intro m _;rw[Nat.mul_zero,Nat.add_zero]
  |succ c ih=>
   intro m hm;have h1:=step (m-i);rw[show i+(m-i)=m by omega,show j+(m-i)=m+(j-i) by omega]at h1;rw[h1,←ih (m+(j-i)) (by omega),Nat.mul_succ,AO,Nat.add_comm (j-i)]
 have hp:0<(j-i)*(i+1):=Nat.mul_pos (by omega) (by omega);have sK:i+1≤(j-i)*(i+1):=Nat.le_mul_of_pos_left _ (by omega);refine⟨(j-i)*(i+1)-1,?_⟩;rw[NW h ha hx,show(j-i)*(i+1)-1+((j-i)*(i+1)-1)+1=((j-i)*(i+1)-1)+(j-i)*(i+1) by omega];exact Uq (i+1) _ (by omega)
end
noncomputable def HP(C:af)(table t18:LV)(t19 t20:Int)(t24:LV)(t25 t26 t48:Int)(fX:LV)(fY:Int)(fq fb ic ig ja jb jc jd iG iH iI:LV)(iS dD t49:Int)(lists:LV){β:Type}(kn:(Int×LV)→Option β)(kr:(Int×Bool×LV)→Option β):Option β:=
 bif decide (t49<t48)then
  (C 202 [ah table,vI t49,vI dD]).bind fun r3=>
  aA lists t49 fun x4=>
  kn (wrap .i64 (t49+1),bc lists t49 (vI (gI r3)))
 else
  kr (t49,decide (t49<t48),lists)
noncomputable def N3(C:af)(table t18:LV)(t19 t20:Int)(t24:LV)(t25 t26 t48:Int)(fX:LV)(fY:Int)(fq fb ic ig ja jb jc jd iG iH iI:LV)(iS dD:Int):=un fun t49 lists=>HP C table t18 t19 t20 t24 t25 t26 t48 fX fY fq fb ic ig ja jb jc jd iG iH iI iS dD t49 lists (fun y=>some (Sum.inl y)) (fun r=>some (Sum.inr r))
noncomputable def HR(C:af)(table t18:LV)(t19 t20:Int)(t24:LV)(t25:Int)(fX:LV)(fY t26:Int)(fq fb ic ig ja jb jc jd iG iH iI:LV){β:Type}(kn:(Int×LV×LV×LV×LV×LV×LV×LV×LV×LV×LV×LV)→Option β)(kr:(Int×Bool×LV×LV×LV×LV×LV×LV×LV×LV×LV×LV×LV)→Option β):Option β:=
 bif decide (t26<t25)then
  (idx t24 t26).bind fun x2=>
  bif (((x2.cell 0).toInt):Int) != 3 then
  kn (wrap .i64 (t26+1),fq,fb,ic,ig,ja,jb,jc,jd,iG,iH,iI)
  else
  bif (decide (0≤(wrap .i64 (((x2.cell 1).toInt)+1))))&&(decide ((wrap .i64 (((x2.cell 1).toInt)+1))<11))then
   bif (Nat.beq (2+(((wrap .i64 (((x2.cell 1).toInt)+1):Int).toNat)*1)) 2||(Nat.beq (2+(((wrap .i64 (((x2.cell 1).toInt)+1):Int).toNat)*1)) 3||(Nat.beq (2+(((wrap .i64 (((x2.cell 1).toInt)+1):Int).toNat)*1)) 4||(Nat.beq (2+(((wrap .i64 (((x2.cell 1).toInt)+1):Int).toNat)*1)) 5||(Nat.beq (2+(((wrap .i64 (((x2.cell 1).toInt)+1):Int).toNat)*1)) 6||(Nat.beq (2+(((wrap .i64 (((x2.cell 1).toInt)+1):Int).toNat)*1)) 7||(Nat.beq (2+(((wrap .i64 (((x2.cell 1).toInt)+1):Int).toNat)*1)) 8||(Nat.beq (2+(((wrap .i64 (((x2.cell 1).toInt)+1):Int).toNat)*1)) 9||(Nat.beq (2+(((wrap .i64 (((x2.cell 1).toInt)+1):Int).toNat)*1)) 10||(Nat.beq (2+(((wrap .i64 (((x2.cell 1).toInt)+1):Int).toNat)*1)) 11||(Nat.beq (2+(((wrap .i64 (((x2.cell 1).toInt)+1):Int).toNat)*1)) 12||false)))))))))))then
   bif !(Nat.beq (bif Nat.beq (2+(((wrap .i64 (((x2.cell 1).toInt)+1):Int).toNat)*1)) 2 then fq else(bif Nat.beq (2+(((wrap .i64 (((x2.cell 1).toInt)+1):Int).toNat)*1)) 3 then fb else(bif Nat.beq (2+(((wrap .i64 (((x2.cell 1).toInt)+1):Int).toNat)*1)) 4 then ic else(bif Nat.beq (2+(((wrap .i64 (((x2.cell 1).toInt)+1):Int).toNat)*1)) 5 then ig else(bif Nat.beq (2+(((wrap .i64 (((x2.cell 1).toInt)+1):Int).toNat)*1)) 6 then ja else(bif Nat.beq (2+(((wrap .i64 (((x2.cell 1).toInt)+1):Int).toNat)*1)) 7 then jb else(bif Nat.beq (2+(((wrap .i64 (((x2.cell 1).toInt)+1):Int).toNat)*1)) 8 then jc else(bif Nat.beq (2+(((wrap .i64 (((x2.cell 1).toInt)+1):Int).toNat)*1)) 9 then jd else(bif Nat.beq (2+(((wrap .i64 (((x2.cell 1).toInt)+1):Int).toNat)*1)) 10 then iG else(bif Nat.beq (2+(((wrap .i64 (((x2.cell 1).toInt)+1):Int).toNat)*1)) 11 then iH else(bif Nat.beq (2+(((wrap .i64 (((x2.cell 1).toInt)+1):Int).toNat)*1)) 12 then iI else([]:LV)))))))))))).length 0)then
    kn (wrap .i64 (t26+1),fq,fb,ic,ig,ja,jb,jc,jd,iG,iH,iI)
   else
    bif (decide (0≤(table.length:Int)))&&((decide ((table.length:Int)≤(table.length:Int)))&&(Nat.ble (((table.length:Int).toNat)*8) aR))then
    (Loop (N3 C table t18 t19 t20 t24 t25 t26 ((List.replicate ((table.length:Int).toNat) (vI 0)).length:Int) fX fY fq fb ic ig ja jb jc jd iG iH iI ((x2.cell 0).toInt) ((x2.cell 1).toInt)) (0,List.replicate ((table.length:Int).toNat) (vI 0))).bind (un fun mu=>un fun(jD:Bool) (ue:LV)=>
     bif (decide (0≤(wrap .i64 (((x2.cell 1).toInt)+1))))&&(decide ((wrap .i64 (((x2.cell 1).toInt)+1))<11))then
      bif (Nat.beq (2+(((wrap .i64 (((x2.cell 1).toInt)+1):Int).toNat)*1)) 2||(Nat.beq (2+(((wrap .i64 (((x2.cell 1).toInt)+1):Int).toNat)*1)) 3||(Nat.beq (2+(((wrap .i64 (((x2.cell 1).toInt)+1):Int).toNat)*1)) 4||(Nat.beq (2+(((wrap .i64 (((x2.cell 1).toInt)+1):Int).toNat)*1)) 5||(Nat.beq (2+(((wrap .i64 (((x2.cell 1).toInt)+1):Int).toNat)*1)) 6||(Nat.beq (2+(((wrap .i64 (((x2.cell 1).toInt)+1):Int).toNat)*1)) 7||(Nat.beq (2+(((wrap .i64 (((x2.cell 1).toInt)+1):Int).toNat)*1)) 8||(Nat.beq (2+(((wrap .i64 (((x2.cell 1).toInt)+1):Int).toNat)*1)) 9||(Nat.beq (2+(((wrap .i64 (((x2.cell 1).toInt)+1):Int).toNat)*1)) 10||(Nat.beq (2+(((wrap .i64 (((x2.cell 1).toInt)+1):Int).toNat)*1)) 11||(Nat.beq (2+(((wrap .i64 (((x2.cell 1).toInt)+1):Int).toNat)*1)) 12||false)))))))))))then
      bif Nat.blt 0 ue.length&&true then
       kn (wrap .i64 (t26+1),(bif Nat.beq (2+(((wrap .i64 (((x2.cell 1).toInt)+1):Int).toNat)*1)) 2 then ue else fq),(bif Nat.beq (2+(((wrap .i64 (((x2.cell 1).toInt)+1):Int).toNat)*1)) 3 then ue else fb),(bif Nat.beq (2+(((wrap .i64 (((x2.cell 1).toInt)+1):Int).toNat)*1)) 4 then ue else ic),(bif Nat.beq (2+(((wrap .i64 (((x2.cell 1).toInt)+1):Int).toNat)*1)) 5 then ue else ig),(bif Nat.beq (2+(((wrap .i64 (((x2.cell 1).toInt)+1):Int).toNat)*1)) 6 then ue else ja),(bif Nat.beq (2+(((wrap .i64 (((x2.cell 1).toInt)+1):Int).toNat)*1)) 7 then ue else jb),(bif Nat.beq (2+(((wrap .i64 (((x2.cell 1).toInt)+1):Int).toNat)*1)) 8 then ue else jc),(bif Nat.beq (2+(((wrap .i64 (((x2.cell 1).toInt)+1):Int).toNat)*1)) 9 then ue else jd),(bif Nat.beq (2+(((wrap .i64 (((x2.cell 1).toInt)+1):Int).toNat)*1)) 10 then ue else iG),(bif Nat.beq (2+(((wrap .i64 (((x2.cell 1).toInt)+1):Int).toNat)*1)) 11 then ue else iH),(bif Nat.beq (2+(((wrap .i64 (((x2.cell 1).toInt)+1):Int).toNat)*1)) 12 then ue else iI))
      else none
      else none
     else none)
    else none
   else none
  else none
 else
  kr (t26,decide (t26<t25),fq,fb,ic,ig,ja,jb,jc,jd,iG,iH,iI)
noncomputable def HQ(C:af)(table t18:LV)(t19 t20:Int)(t24:LV)(t25:Int)(fX:LV)(fY:Int):=un fun t26=>un fun fq=>un fun fb=>un fun ic=>un fun ig=>un fun ja=>un fun jb=>un fun jc=>un fun jd=>un fun iG=>un fun iH iI=>HR C table t18 t19 t20 t24 t25 fX fY t26 fq fb ic ig ja jb jc jd iG iH iI (fun y=>some (Sum.inl y)) (fun r=>some (Sum.inr r))
noncomputable def Ec(C:af)(table t18:LV)(t19:Int)(fX:LV)(fY t20:Int)(fq fb ic ig ja jb jc jd iG iH iI:LV){β:Type}(kn:(Int×LV×LV×LV×LV×LV×LV×LV×LV×LV×LV×LV)→Option β)(kr:(Int×Bool×LV×LV×LV×LV×LV×LV×LV×LV×LV×LV×LV)→Option β):Option β:=
 bif decide (t20<t19)then
  (idx t18 t20).bind fun x1=>
  (Loop (HQ C table t18 t19 t20 x1.toList (x1.toList.length:Int) fX fY) (0,fq,fb,ic,ig,ja,jb,jc,jd,iG,iH,iI)).bind (un fun v8=>un fun(uS:Bool)=>un fun(iG:LV)=>un fun(iH:LV)=>un fun(iI:LV)=>un fun(aC2:LV)=>un fun(aC3:LV)=>un fun(aC4:LV)=>un fun(aC5:LV)=>un fun(aC6:LV)=>un fun(aC7:LV)=>un fun(aC8:LV) (aC9:LV)=>
   kn (wrap .i64 (t20+1),iG,iH,iI,aC2,aC3,aC4,aC5,aC6,aC7,aC8,aC9))
 else
  kr (t20,decide (t20<t19),fq,fb,ic,ig,ja,jb,jc,jd,iG,iH,iI)
noncomputable def Br(C:af)(table t18:LV)(t19:Int)(fX:LV)(fY:Int):=un fun t20=>un fun fq=>un fun fb=>un fun ic=>un fun ig=>un fun ja=>un fun jb=>un fun jc=>un fun jd=>un fun iG=>un fun iH iI=>Ec C table t18 t19 fX fY t20 fq fb ic ig ja jb jc jd iG iH iI (fun y=>some (Sum.inl y)) (fun r=>some (Sum.inr r))
noncomputable def aba(C:af):cp:=bz 177 ZH [Q0,Q0,Q0,Q0,Q0,Q0,Q0,Q0,Q1,Q0,Q0,Q0,Q0,Q0,Q0,Q0,Q0,Q0,Q0,Q0,Q0,Q0,Q0,Q0,Q1] [[1,2,3,4,5,6,7,8,0,0,10,11,12,13,14,15,16,17,18,19,20,21,22,23,24,0]] (@HP C) (bz 97 ZI [Q0,Q0,Q0,Q0,Q0,Q0,Q1,Q0,Q0,Q1,Q1,Q1,Q1,Q1,Q1,Q1,Q1,Q1,Q1,Q1] [[1,2,3,4,5,6,0,0,8,9,0,0,0,0,0,0,0,0,0,0,0]] (@HR C) (bz 49 ZJ [Q0,Q0,Q0,Q1,Q0,Q0,Q1,Q1,Q1,Q1,Q1,Q1,Q1,Q1,Q1,Q1,Q1] [[1,2,3,0,0,5,6,0,0,0,0,0,0,0,0,0,0,0]] (@Ec C) bh))
theorem aDa(C:af):bn C (aba C) 160 (Lp [1,1,0,1,0,0,1,1,0,0,1,1,0,0,1,1,0,0,1,1,1,0,1,0,0] 160):=bA ZH [Q0,Q0,Q0,Q0,Q0,Q0,Q0,Q0,Q1,Q0,Q0,Q0,Q0,Q0,Q0,Q0,Q0,Q0,Q0,Q0,Q0,Q0,Q0,Q0,Q1] [[1,2,3,4,5,6,7,8,0,0,10,11,12,13,14,15,16,17,18,19,20,21,22,23,24,0]] (@HP C) (ba an)
theorem aDb(C:af):bn C (aba C) 160 (Lp [1,1,0,1,0,0,1,1,0,0,1,1,0,0] 160):=bA ZI [Q0,Q0,Q0,Q0,Q0,Q0,Q1,Q0,Q0,Q1,Q1,Q1,Q1,Q1,Q1,Q1,Q1,Q1,Q1,Q1] [[1,2,3,4,5,6,0,0,8,9,0,0,0,0,0,0,0,0,0,0,0]] (@HR C) (ba (bp (aDa C) an))
theorem aDc(C:af):bn C (aba C) 160 (Lp [1,1,0,1,0,0] 160):=bA ZJ [Q0,Q0,Q0,Q1,Q0,Q0,Q1,Q1,Q1,Q1,Q1,Q1,Q1,Q1,Q1,Q1,Q1] [[1,2,3,0,0,5,6,0,0,0,0,0,0,0,0,0,0,0]] (@Ec C) (ba (bp (aDb C) an))
noncomputable def acC(C:af)(table:LV)(one:Int)(Ml:LV):Option LV:=
 (Loop (Br C table Ml (Ml.length:Int) table one) (0,([]:LV),([]:LV),([]:LV),([]:LV),([]:LV),([]:LV),([]:LV),([]:LV),([]:LV),([]:LV),([]:LV))).bind (un fun aCL=>un fun(aCd:Bool)=>un fun(aDd:LV)=>un fun(aDe:LV)=>un fun(aDf:LV)=>un fun(aDg:LV)=>un fun(aDh:LV)=>un fun(aDi:LV)=>un fun(aDj:LV)=>un fun(aDk:LV)=>un fun(aDl:LV)=>un fun(aDm:LV) (aDn:LV)=>
  some [ah table,vI one,ab aDd,ab aDe,ab aDf,ab aDg,ab aDh,ab aDi,ab aDj,ab aDk,ab aDl,ab aDm,ab aDn])
theorem anK{table:LV}{one:Int}{Ml:LV}{r:Option LV}(h:acC CC table one Ml=r):CC 160 [ah table,vI one,.list 242 Ml]=r:=bj (bp (aDc CC) an) h
def dA(s:Nat×Nat):V:= .agg [vI (s.1:Int),vI (s.2:Int)]
def PL(K:Nat)(l:LV):Prop:= ∃f:Nat→Nat,l=tab K (fun i=>nV (f i))∧∀i,i<K→f i<K
theorem PL.len{K:Nat}{l:LV}(h:PL K l):l.length=K:=by
 obtain⟨f,rfl,_⟩:=h;exact en
def ov(i:Int)(A B:LV):Int×LV×LV×LV×LV×LV×LV×LV×LV×LV×LV×LV:=(i,[],A,B,[],[],[],[],[],[],[],[])
def tx(s:Nat×Nat):Prop:=s.1≤3∧(s.1=3→s.2=0∨s.2=1)
theorem acB{p:List (Nat×Nat)}{i:Nat}(hi:i<p.length):idx (p.map dA) (i:Int)=some (dA p[i]):=by
 rw[BE rfl];simp[hi]
def abb(K:Nat)(p:List (Nat×Nat))(k:Nat)(A B:LV):Prop:= ∀j,j<k→j<p.length→(p.getD j (0,0)).1=3→((p.getD j (0,0)).2=0→PL K A)∧((p.getD j (0,0)).2=1→PL K B)
section
variable {K:Nat}{mul:Nat→Nat→Nat}(h:Tb K mul)(ha:∀i j k,i<K→j<K→k<K→mul (mul i j) k=mul i (mul j k))
include h ha
omit h ha in
theorem abb.mono{p:List (Nat×Nat)}{k:Nat}{A B A' B':LV}(hh:abb K p k A B)(h1:PL K A→PL K A')(h2:PL K B→PL K B'):abb K p k A' B':=fun j hj hl e=>⟨fun e2=>h1 ((hh j hj hl e).1 e2),fun e2=>h2 ((hh j hj hl e).2 e2)⟩
def N7(t:LV)(one:Int)(A B:LV):List V:=[ah t,vI one,ab [],ab A,ab B,ab [],ab [],ab [],ab [],ab [],ab [],ab [],ab []]
end
noncomputable def zK(C:af)(top:Int)(t11:LV)(t12 t13 t18:Int)(t19:Bool)(fX:LV)(fY:Int)(fq fb ic ig ja jb jc jd iG iH iI je oT:LV)(iS dD:Int){β:Type}(kr:(Int×LV)→Option β):Option β:=
 bif t19 then
  bif (decide (0≤top))&&(decide (top<61))then
  (oT[top.toNat]?).bind fun x2=>
  kr (wrap .i64 (top+1),bc oT top (vI fY))
  else none
 else
  bif t18==1 then
  aA je dD fun x3=>
  bif (decide (0≤top))&&(decide (top<61))then
   (oT[top.toNat]?).bind fun x4=>
   kr (wrap .i64 (top+1),bc oT top (vI x3.toInt))
  else none
  else
  bif t18==2 then
   bif (decide (0≤(wrap .i64 ((wrap .i64 (top-1))-1))))&&(decide ((wrap .i64 ((wrap .i64 (top-1))-1))<61))then
   (oT[(wrap .i64 ((wrap .i64 (top-1))-1):Int).toNat]?).bind fun x5=>
   (idx fX x5.toInt).bind fun x6=>
   bif (decide (0≤(wrap .i64 (top-1))))&&(decide ((wrap .i64 (top-1))<61))then
    (oT[(wrap .i64 (top-1):Int).toNat]?).bind fun x7=>
    (idx x6.toList x7.toInt).bind fun x8=>
    bif (decide (0≤(wrap .i64 ((wrap .i64 (top-1))-1))))&&(decide ((wrap .i64 ((wrap .i64 (top-1))-1))<61))then
    (oT[(wrap .i64 ((wrap .i64 (top-1))-1):Int).toNat]?).bind fun x9=>
    kr (wrap .i64 (top-1),bc oT (wrap .i64 ((wrap .i64 (top-1))-1)) (vI x8.toInt))
    else none
   else none
   else none
  else
   bif t18==3 then
   bif (decide (0≤(wrap .i64 (dD+1))))&&(decide ((wrap .i64 (dD+1))<11))then
    bif (Nat.beq (2+(((wrap .i64 (dD+1):Int).toNat)*1)) 2||(Nat.beq (2+(((wrap .i64 (dD+1):Int).toNat)*1)) 3||(Nat.beq (2+(((wrap .i64 (dD+1):Int).toNat)*1)) 4||(Nat.beq (2+(((wrap .i64 (dD+1):Int).toNat)*1)) 5||(Nat.beq (2+(((wrap .i64 (dD+1):Int).toNat)*1)) 6||(Nat.beq (2+(((wrap .i64 (dD+1):Int).toNat)*1)) 7||(Nat.beq (2+(((wrap .i64 (dD+1):Int).toNat)*1)) 8||(Nat.beq (2+(((wrap .i64 (dD+1):Int).toNat)*1)) 9||(Nat.beq (2+(((wrap .i64 (dD+1):Int).toNat)*1)) 10||(Nat.beq (2+(((wrap .i64 (dD+1):Int).toNat)*1)) 11||(Nat.beq (2+(((wrap .i64 (dD+1):Int).toNat)*1)) 12||false)))))))))))then
    bif (decide (0≤(wrap .i64 (top-1))))&&(decide ((wrap .i64 (top-1))<61))then
     (oT[(wrap .i64 (top-1):Int).toNat]?).bind fun mA=>
     (idx (bif Nat.beq (2+(((wrap .i64 (dD+1):Int).toNat)*1)) 2 then fq else(bif Nat.beq (2+(((wrap .i64 (dD+1):Int).toNat)*1)) 3 then fb else(bif Nat.beq (2+(((wrap .i64 (dD+1):Int).toNat)*1)) 4 then ic else(bif Nat.beq (2+(((wrap .i64 (dD+1):Int).toNat)*1)) 5 then ig else(bif Nat.beq (2+(((wrap .i64 (dD+1):Int).toNat)*1)) 6 then ja else(bif Nat.beq (2+(((wrap .i64 (dD+1):Int).toNat)*1)) 7 then jb else(bif Nat.beq (2+(((wrap .i64 (dD+1):Int).toNat)*1)) 8 then jc else(bif Nat.beq (2+(((wrap .i64 (dD+1):Int).toNat)*1)) 9 then jd else(bif Nat.beq (2+(((wrap .i64 (dD+1):Int).toNat)*1)) 10 then iG else(bif Nat.beq (2+(((wrap .i64 (dD+1):Int).toNat)*1)) 11 then iH else(bif Nat.beq (2+(((wrap .i64 (dD+1):Int).toNat)*1)) 12 then iI else([]:LV)))))))))))) mA.toInt).bind fun np=>
     bif (decide (0≤(wrap .i64 (top-1))))&&(decide ((wrap .i64 (top-1))<61))then
     (oT[(wrap .i64 (top-1):Int).toNat]?).bind fun ka=>
     kr (top,bc oT (wrap .i64 (top-1)) (vI np.toInt))
     else none
    else none
    else none
   else none
   else
   kr (top,oT)
noncomputable def HW(C:af)(t11:LV)(t12:Int)(fX:LV)(fY:Int)(fq fb ic ig ja jb jc jd iG iH iI je:LV)(top t13:Int)(oT:LV){β:Type}(kn:(Int×Int×LV)→Option β)(kr:(Int×Int×Bool×LV)→Option β):Option β:=
 bif decide (t13<t12)then
  (idx t11 t13).bind fun x1=>
  zK C top t11 t12 t13 ((x1.cell 0).toInt) ((((x1.cell 0).toInt):Int)==0) fX fY fq fb ic ig ja jb jc jd iG iH iI je oT ((x1.cell 0).toInt) ((x1.cell 1).toInt) (un fun(aDo:Int) (aDp:LV)=>
   kn (aDo,wrap .i64 (t13+1),aDp))
 else
  kr (top,t13,decide (t13<t12),oT)
noncomputable def N8(C:af)(t11:LV)(t12:Int)(fX:LV)(fY:Int)(fq fb ic ig ja jb jc jd iG iH iI je:LV):=un fun top=>un fun t13 oT=>HW C t11 t12 fX fY fq fb ic ig ja jb jc jd iG iH iI je top t13 oT (fun y=>some (Sum.inl y)) (fun r=>some (Sum.inr r))
noncomputable def alw(C:af):cp:=zY 319 ZK [[0,2,3,4,7,8,9,10,11,12,13,14,15,16,17,18,19,20,0]] (@zK C) (bz 65 ZL [Q1,Q0,Q0,Q1,Q0,Q0,Q0,Q0,Q0,Q0,Q0,Q0,Q0,Q0,Q0,Q0,Q0,Q0,Q1] [[0,2,3,0,0,5,6,7,8,9,10,11,12,13,14,15,16,17,18,0]] (@HW C) bh)
theorem aDq(C:af):bn C (alw C) 163 (Cd 19 [1,1,1,0,1,0,0,1,1,0,0,1,1,0,1,0] [1,1,1,0,1,0,0,1,1,0,0,1,1,0,1,1] 163):=zZ ZK [[0,2,3,4,7,8,9,10,11,12,13,14,15,16,17,18,19,20,0]] (@zK C) (ba an) (ba an)
theorem aDr(C:af):bn C (alw C) 163 (Lp [1,1,1,0,1,0,0] 163):=bA ZL [Q1,Q0,Q0,Q1,Q0,Q0,Q0,Q0,Q0,Q0,Q0,Q0,Q0,Q0,Q0,Q0,Q0,Q0,Q1] [[0,2,3,0,0,5,6,7,8,9,10,11,12,13,14,15,16,17,18,0]] (@HW C) (ba (bp (aDq C) an))
noncomputable def acE(C:af)(p fX:LV)(fY:Int)(fq fb ic ig ja jb jc jd iG iH iI je:LV):Option LV:=
 (Loop (N8 C p (p.length:Int) fX fY fq fb ic ig ja jb jc jd iG iH iI je) (0,0,(List.replicate 61 (vI 0):LV))).bind (un fun aHA=>un fun BU=>un fun(SM:Bool) (aDs:LV)=>
  (aDs[0]?).bind fun z7=>
  some [vI z7.toInt,ah fX,vI fY,ab fq,ab fb,ab ic,ab ig,ab ja,ab jb,ab jc,ab jd,ab iG,ab iH,ab iI,ab je])
theorem anL{p fX:LV}{fY:Int}{fq fb ic ig ja jb jc jd iG iH iI je:LV}{r:Option LV}(h:acE CC p fX fY fq fb ic ig ja jb jc jd iG iH iI je=r):CC 163 [cZ p,ah fX,vI fY,ab fq,ab fb,ab ic,ab ig,ab ja,ab jb,ab jc,ab jd,ab iG,ab iH,ab iI,ab je]=r:=bj (bp (aDr CC) an) h
def zL(m t:Nat)(s:Nat×Nat):Option Nat:=
 if s.1=0 then(if t<60 then some (t+1)else none)
 else if s.1=1 then(if t<60∧s.2<m then some (t+1)else none)
 else if s.1=2 then(if 2≤t then some (t-1)else none)
 else if s.1=3 then(if 1≤t then some t else none)else none
def ni(m:Nat):List (Nat×Nat)→Nat→Option Nat
 | [],t=>some t
 |s::p,t=>(zL m t s).bind (ni m p)
theorem acF{m t n:Nat}:zL m t (0,n)=if t<60 then some (t+1)else none:=rfl
theorem Ut{m t n:Nat}:zL m t (1,n)=if t<60∧n<m then some (t+1)else none:=rfl
theorem acG{m t n:Nat}:zL m t (2,n)=if 2≤t then some (t-1)else none:=rfl
theorem acH{m t n:Nat}:zL m t (3,n)=if 1≤t then some t else none:=rfl
def SI(K t:Nat)(l:LV):Prop:=l.length=61∧t≤60∧∀i,i<t→∃v,v<K∧l[i]? =some (nV v)
theorem SI.put{K t:Nat}{l:LV}(h:SI K t l){i v t':Nat}(hi:i≤t)(hv:v<K)(ht:t'≤t∨(t'=t+1∧i=t))(h60:t'≤60):SI K t' (l.set i (nV v)):=by
 obtain⟨h1,h2,h3⟩:=h;refine⟨by rw[td,h1],h60,fun j hj=> ?_⟩;by_cases c:i=j
 ·subst c;exact⟨v,hv,sa (by omega)⟩
 ·rw[zb c];exact h3 j (by omega)
theorem N9{t:Nat}(h:1≤t)(h6:t≤1000):wrap .i64 ((t:Int)-1)=((t-1:Nat):Int):=by
 rw[show((t:Int)-1)=((t-1:Nat):Int) by omega];exact wrap64 (by omega) (by omega)
noncomputable def HZ(C:af)(t16:Int)(fc fe eJ fv:LV)(fw:Int)(fx fy fA fB fC fD fE fF fG fH fI abc:LV)(t17:Int)(je:LV){β:Type}(kn:(Int×LV)→Option β)(kr:(Int×Bool×LV)→Option β):Option β:=
 bif decide (t17<t16)then
  aA abc t17 fun x1=>
  (idx eJ t17).bind fun x2=>
  (idx x2.toList x1.toInt).bind fun x3=>
  aA je t17 fun x4=>
  kn (wrap .i64 (t17+1),bc je t17 (vI x3.toInt))
 else
  kr (t17,decide (t17<t16),je)
noncomputable def Uu(C:af)(t16:Int)(fc fe eJ fv:LV)(fw:Int)(fx fy fA fB fC fD fE fF fG fH fI abc:LV):=un fun t17 je=>HZ C t16 fc fe eJ fv fw fx fy fA fB fC fD fE fF fG fH fI abc t17 je (fun y=>some (Sum.inl y)) (fun r=>some (Sum.inr r))
noncomputable def aDt(C:af):cp:=bz 49 Zo [Q0,Q1,Q0,Q0,Q0,Q0,Q0,Q0,Q0,Q0,Q0,Q0,Q0,Q0,Q0,Q0,Q0,Q0,Q1,Q0] [[1,0,0,3,4,5,6,7,8,9,10,11,12,13,14,15,16,17,18,0,20]] (@HZ C) bh
theorem aDu(C:af):bn C (aDt C) 122 (Lp [1,1,0,1,0,0] 122):=bA Zo [Q0,Q1,Q0,Q0,Q0,Q0,Q0,Q0,Q0,Q0,Q0,Q0,Q0,Q0,Q0,Q0,Q0,Q0,Q1,Q0] [[1,0,0,3,4,5,6,7,8,9,10,11,12,13,14,15,16,17,18,0,20]] (@HZ C) (ba an)
noncomputable def acO(C:af)(fc fe eJ fv:LV)(fw:Int)(fx fy fA fB fC fD fE fF fG fH fI aE:LV):Option LV:=
 bif (decide (0≤(aE.length:Int)))&&((decide ((aE.length:Int)≤(aE.length:Int)))&&(Nat.ble (((aE.length:Int).toNat)*8) aR))then
  (Loop (Uu C (aE.length:Int) fc fe eJ fv fw fx fy fA fB fC fD fE fF fG fH fI aE) (0,List.replicate ((aE.length:Int).toNat) (vI 0))).bind (un fun mu=>un fun(jD:Bool) (aDv:LV)=>
   some [cZ fc,cZ fe,ah eJ,ah fv,vI fw,ab fx,ab fy,ab fA,ab fB,ab fC,ab fD,ab fE,ab fF,ab fG,ab fH,ab fI,ab aDv,ab aE])
 else none
theorem anN{fc fe eJ fv:LV}{fw:Int}{fx fy fA fB fC fD fE fF fG fH fI aE:LV}{r:Option LV}(h:acO CC fc fe eJ fv fw fx fy fA fB fC fD fE fF fG fH fI aE=r):CC 122 [cZ fc,cZ fe,ah eJ,ah fv,vI fw,ab fx,ab fy,ab fA,ab fB,ab fC,ab fD,ab fE,ab fF,ab fG,ab fH,ab fI,ab aE]=r:=bj (bp (aDu CC) an) h
noncomputable def Ef(C:af)(fc fe eJ fv:LV)(fw:Int)(fx fy fA fB fC fD fE fF fG fH fI:LV)(i:Int)(aH:LV){β:Type}(kn:(Int×LV)→Option β)(kr:((Bool×LV) ⊕ (Int×Bool×LV))→Option β):Option β:=
 bif decide (i≥0)then
  aA aH i fun x1=>
  aA aH i fun x2=>
  aA (bc aH i (vI (wrap .i64 (x1.toInt+1)))) i fun x3=>
  (idx eJ i).bind fun x4=>
  bif decide ((x3.toInt:Int)<(x4.toList.length:Int))then
  kr (.inl (true,bc aH i (vI (wrap .i64 (x1.toInt+1)))))
  else
  aA (bc aH i (vI (wrap .i64 (x1.toInt+1)))) i fun x5=>
  kn (wrap .i64 (i-1),bc (bc aH i (vI (wrap .i64 (x1.toInt+1)))) i (vI 0))
 else
  kr (.inr (i,decide (i≥0),aH))
noncomputable def H2(C:af)(fc fe eJ fv:LV)(fw:Int)(fx fy fA fB fC fD fE fF fG fH fI:LV):=un fun i aH=>Ef C fc fe eJ fv fw fx fy fA fB fC fD fE fF fG fH fI i aH (fun y=>some (Sum.inl y)) (fun r=>some (Sum.inr r))
noncomputable def aDw(C:af):cp:=bz 33 ZM [Q1,Q0,Q0,Q0,Q0,Q0,Q0,Q0,Q0,Q0,Q0,Q0,Q0,Q0,Q0,Q0,Q0,Q1] [[0,2,3,4,5,6,7,8,9,10,11,12,13,14,15,16,17,0],[0,0,2,3,4,5,6,7,8,9,10,11,12,13,14,15,16,17,0]] (@Ef C) bh
theorem aDx(C:af):bn C (aDw C) 164 (Lp [1,0,1,0,0] 164):=bA ZM [Q1,Q0,Q0,Q0,Q0,Q0,Q0,Q0,Q0,Q0,Q0,Q0,Q0,Q0,Q0,Q0,Q0,Q1] [[0,2,3,4,5,6,7,8,9,10,11,12,13,14,15,16,17,0],[0,0,2,3,4,5,6,7,8,9,10,11,12,13,14,15,16,17,0]] (@Ef C) (ba an)
noncomputable def Oa(C:af)(fc fe eJ fv:LV)(fw:Int)(fx fy fA fB fC fD fE fF fG fH fI aE:LV):Option LV:=
 (Loop (H2 C fc fe eJ fv fw fx fy fA fB fC fD fE fF fG fH fI) (wrap .i64 ((aE.length:Int)-1),aE)).bind (ed (un fun(jD:Bool) (LG:LV)=>
  some [.bool jD,cZ fc,cZ fe,ah eJ,ah fv,vI fw,ab fx,ab fy,ab fA,ab fB,ab fC,ab fD,ab fE,ab fF,ab fG,ab fH,ab fI,ab LG]) (un fun i_8=>un fun(uS:Bool) (pq:LV)=>
  some [.bool false,cZ fc,cZ fe,ah eJ,ah fv,vI fw,ab fx,ab fy,ab fA,ab fB,ab fC,ab fD,ab fE,ab fF,ab fG,ab fH,ab fI,ab pq]))
theorem anP{fc fe eJ fv:LV}{fw:Int}{fx fy fA fB fC fD fE fF fG fH fI aE:LV}{r:Option LV}(h:Oa CC fc fe eJ fv fw fx fy fA fB fC fD fE fF fG fH fI aE=r):CC 164 [cZ fc,cZ fe,ah eJ,ah fv,vI fw,ab fx,ab fy,ab fA,ab fB,ab fC,ab fD,ab fE,ab fF,ab fG,ab fH,ab fI,ab aE]=r:=bj (bp (aDx CC) an) h
noncomputable def H4(C:af)(iX steps t21:Int)(fc fe eJ fv:LV)(fw:Int)(fx fy fA fB fC fD fE fF fG fH fI abd:LV)(t22:Int)(je:LV){β:Type}(kn:(Int×LV)→Option β)(kr:(Int×Bool×LV)→Option β):Option β:=
 bif decide (t22<t21)then
  aA abd t22 fun x2=>
  (idx eJ t22).bind fun x3=>
  (idx x3.toList x2.toInt).bind fun x4=>
  aA je t22 fun x5=>
  kn (wrap .i64 (t22+1),bc je t22 (vI x4.toInt))
 else
  kr (t22,decide (t22<t21),je)
noncomputable def Ob(C:af)(iX steps t21:Int)(fc fe eJ fv:LV)(fw:Int)(fx fy fA fB fC fD fE fF fG fH fI abd:LV):=un fun t22 je=>H4 C iX steps t21 fc fe eJ fv fw fx fy fA fB fC fD fE fF fG fH fI abd t22 je (fun y=>some (Sum.inl y)) (fun r=>some (Sum.inr r))
noncomputable def Bu(C:af)(iX steps:Int)(fc fe eJ fv:LV)(fw:Int)(fx fy fA fB fC fD fE fF fG fH fI je aL:LV){β:Type}(kn:(Int×LV×LV×LV×LV×Int×LV×LV×LV×LV×LV×LV×LV×LV×LV×LV×LV×LV×LV)→Option β)(kr:((Int×Bool×Bool×LV×LV×LV×LV×Int×LV×LV×LV×LV×LV×LV×LV×LV×LV×LV×LV×LV) ⊕ (Int×Bool×LV×LV×LV×LV×Int×LV×LV×LV×LV×LV×LV×LV×LV×LV×LV×LV×LV×LV))→Option β):Option β:=
 bif decide (steps<iX)then
  (Loop (Ob C iX (wrap .i64 (steps+1)) (aL.length:Int) fc fe eJ fv fw fx fy fA fB fC fD fE fF fG fH fI aL) (0,je)).bind (un fun jD=>un fun(ng:Bool) (aDy:LV)=>
   (C 163 [cZ fc,ah fv,vI fw,ab fx,ab fy,ab fA,ab fB,ab fC,ab fD,ab fE,ab fF,ab fG,ab fH,ab fI,ab aDy]).bind fun r9=>
   (C 163 [cZ fe,ah (gL (r9.drop 1)),vI (gI ((r9.drop 1).drop 1)),ab (gL (((r9.drop 1).drop 1).drop 1)),ab (gL ((((r9.drop 1).drop 1).drop 1).drop 1)),ab (gL (((((r9.drop 1).drop 1).drop 1).drop 1).drop 1)),ab (gL ((((((r9.drop 1).drop 1).drop 1).drop 1).drop 1).drop 1)),ab (gL (((((((r9.drop 1).drop 1).drop 1).drop 1).drop 1).drop 1).drop 1)),ab (gL ((((((((r9.drop 1).drop 1).drop 1).drop 1).drop 1).drop 1).drop 1).drop 1)),ab (gL (((((((((r9.drop 1).drop 1).drop 1).drop 1).drop 1).drop 1).drop 1).drop 1).drop 1)),ab (gL ((((((((((r9.drop 1).drop 1).drop 1).drop 1).drop 1).drop 1).drop 1).drop 1).drop 1).drop 1)),ab (gL (((((((((((r9.drop 1).drop 1).drop 1).drop 1).drop 1).drop 1).drop 1).drop 1).drop 1).drop 1).drop 1)),ab (gL ((((((((((((r9.drop 1).drop 1).drop 1).drop 1).drop 1).drop 1).drop 1).drop 1).drop 1).drop 1).drop 1).drop 1)),ab (gL (((((((((((((r9.drop 1).drop 1).drop 1).drop 1).drop 1).drop 1).drop 1).drop 1).drop 1).drop 1).drop 1).drop 1).drop 1)),ab (gL ((r9.drop 1).drop 13))]).bind fun fO=>
   bif ((gI r9):Int) != (gI fO)then
   kr (.inl (wrap .i64 (steps+1),true,true,fc,fe,eJ,(gL (fO.drop 1)),(gI ((fO.drop 1).drop 1)),(gL (((fO.drop 1).drop 1).drop 1)),(gL ((((fO.drop 1).drop 1).drop 1).drop 1)),(gL (((((fO.drop 1).drop 1).drop 1).drop 1).drop 1)),(gL ((((((fO.drop 1).drop 1).drop 1).drop 1).drop 1).drop 1)),(gL (((((((fO.drop 1).drop 1).drop 1).drop 1).drop 1).drop 1).drop 1)),(gL ((((((((fO.drop 1).drop 1).drop 1).drop 1).drop 1).drop 1).drop 1).drop 1)),(gL (((((((((fO.drop 1).drop 1).drop 1).drop 1).drop 1).drop 1).drop 1).drop 1).drop 1)),(gL ((((((((((fO.drop 1).drop 1).drop 1).drop 1).drop 1).drop 1).drop 1).drop 1).drop 1).drop 1)),(gL (((((((((((fO.drop 1).drop 1).drop 1).drop 1).drop 1).drop 1).drop 1).drop 1).drop 1).drop 1).drop 1)),(gL ((((((((((((fO.drop 1).drop 1).drop 1).drop 1).drop 1).drop 1).drop 1).drop 1).drop 1).drop 1).drop 1).drop 1)),(gL (((((((((((((fO.drop 1).drop 1).drop 1).drop 1).drop 1).drop 1).drop 1).drop 1).drop 1).drop 1).drop 1).drop 1).drop 1)),aL))
   else
   (C 164 [cZ fc,cZ fe,ah eJ,ah (gL (fO.drop 1)),vI (gI ((fO.drop 1).drop 1)),ab (gL (((fO.drop 1).drop 1).drop 1)),ab (gL ((((fO.drop 1).drop 1).drop 1).drop 1)),ab (gL (((((fO.drop 1).drop 1).drop 1).drop 1).drop 1)),ab (gL ((((((fO.drop 1).drop 1).drop 1).drop 1).drop 1).drop 1)),ab (gL (((((((fO.drop 1).drop 1).drop 1).drop 1).drop 1).drop 1).drop 1)),ab (gL ((((((((fO.drop 1).drop 1).drop 1).drop 1).drop 1).drop 1).drop 1).drop 1)),ab (gL (((((((((fO.drop 1).drop 1).drop 1).drop 1).drop 1).drop 1).drop 1).drop 1).drop 1)),ab (gL ((((((((((fO.drop 1).drop 1).drop 1).drop 1).drop 1).drop 1).drop 1).drop 1).drop 1).drop 1)),ab (gL (((((((((((fO.drop 1).drop 1).drop 1).drop 1).drop 1).drop 1).drop 1).drop 1).drop 1).drop 1).drop 1)),ab (gL ((((((((((((fO.drop 1).drop 1).drop 1).drop 1).drop 1).drop 1).drop 1).drop 1).drop 1).drop 1).drop 1).drop 1)),ab (gL (((((((((((((fO.drop 1).drop 1).drop 1).drop 1).drop 1).drop 1).drop 1).drop 1).drop 1).drop 1).drop 1).drop 1).drop 1)),ab aL]).bind fun cq=>
   bif !(gB cq)then
    kr (.inl (wrap .i64 (steps+1),false,true,(gL (cq.drop 1)),(gL ((cq.drop 1).drop 1)),(gL (((cq.drop 1).drop 1).drop 1)),(gL ((cq.drop 1).drop 3)),(gI (((cq.drop 1).drop 3).drop 1)),(gL ((((cq.drop 1).drop 3).drop 1).drop 1)),(gL (((((cq.drop 1).drop 3).drop 1).drop 1).drop 1)),(gL ((((((cq.drop 1).drop 3).drop 1).drop 1).drop 1).drop 1)),(gL (((((((cq.drop 1).drop 3).drop 1).drop 1).drop 1).drop 1).drop 1)),(gL ((((((((cq.drop 1).drop 3).drop 1).drop 1).drop 1).drop 1).drop 1).drop 1)),(gL (((((((((cq.drop 1).drop 3).drop 1).drop 1).drop 1).drop 1).drop 1).drop 1).drop 1)),(gL ((((((((((cq.drop 1).drop 3).drop 1).drop 1).drop 1).drop 1).drop 1).drop 1).drop 1).drop 1)),(gL (((((((((((cq.drop 1).drop 3).drop 1).drop 1).drop 1).drop 1).drop 1).drop 1).drop 1).drop 1).drop 1)),(gL ((((((((((((cq.drop 1).drop 3).drop 1).drop 1).drop 1).drop 1).drop 1).drop 1).drop 1).drop 1).drop 1).drop 1)),(gL (((((((((((((cq.drop 1).drop 3).drop 1).drop 1).drop 1).drop 1).drop 1).drop 1).drop 1).drop 1).drop 1).drop 1).drop 1)),(gL ((((((((((((((cq.drop 1).drop 3).drop 1).drop 1).drop 1).drop 1).drop 1).drop 1).drop 1).drop 1).drop 1).drop 1).drop 1).drop 1)),(gL (((cq.drop 1).drop 3).drop 13))))
   else
    kn (wrap .i64 (steps+1),(gL (cq.drop 1)),(gL ((cq.drop 1).drop 1)),(gL (((cq.drop 1).drop 1).drop 1)),(gL ((cq.drop 1).drop 3)),(gI (((cq.drop 1).drop 3).drop 1)),(gL ((((cq.drop 1).drop 3).drop 1).drop 1)),(gL (((((cq.drop 1).drop 3).drop 1).drop 1).drop 1)),(gL ((((((cq.drop 1).drop 3).drop 1).drop 1).drop 1).drop 1)),(gL (((((((cq.drop 1).drop 3).drop 1).drop 1).drop 1).drop 1).drop 1)),(gL ((((((((cq.drop 1).drop 3).drop 1).drop 1).drop 1).drop 1).drop 1).drop 1)),(gL (((((((((cq.drop 1).drop 3).drop 1).drop 1).drop 1).drop 1).drop 1).drop 1).drop 1)),(gL ((((((((((cq.drop 1).drop 3).drop 1).drop 1).drop 1).drop 1).drop 1).drop 1).drop 1).drop 1)),(gL (((((((((((cq.drop 1).drop 3).drop 1).drop 1).drop 1).drop 1).drop 1).drop 1).drop 1).drop 1).drop 1)),(gL ((((((((((((cq.drop 1).drop 3).drop 1).drop 1).drop 1).drop 1).drop 1).drop 1).drop 1).drop 1).drop 1).drop 1)),(gL (((((((((((((cq.drop 1).drop 3).drop 1).drop 1).drop 1).drop 1).drop 1).drop 1).drop 1).drop 1).drop 1).drop 1).drop 1)),(gL ((((((((((((((cq.drop 1).drop 3).drop 1).drop 1).drop 1).drop 1).drop 1).drop 1).drop 1).drop 1).drop 1).drop 1).drop 1).drop 1)),(gL ((fO.drop 1).drop 13)),(gL (((cq.drop 1).drop 3).drop 13))))
 else
  kr (.inr (steps,decide (steps<iX),fc,fe,eJ,fv,fw,fx,fy,fA,fB,fC,fD,fE,fF,fG,fH,fI,je,aL))
noncomputable def Ei(C:af)(iX:Int):=un fun steps=>un fun fc=>un fun fe=>un fun eJ=>un fun fv=>un fun fw=>un fun fx=>un fun fy=>un fun fA=>un fun fB=>un fun fC=>un fun fD=>un fun fE=>un fun fF=>un fun fG=>un fun fH=>un fun fI=>un fun je aL=>Bu C iX steps fc fe eJ fv fw fx fy fA fB fC fD fE fF fG fH fI je aL (fun y=>some (Sum.inl y)) (fun r=>some (Sum.inr r))
noncomputable def alx(C:af):cp:=bz 81 Zm [Q0,Q0,Q0,Q1,Q0,Q0,Q0,Q0,Q0,Q0,Q0,Q0,Q0,Q0,Q0,Q0,Q0,Q0,Q0,Q0,Q1,Q0] [[1,2,3,0,0,5,6,7,8,9,10,11,12,13,14,15,16,17,18,19,20,0,22]] (@H4 C) (bz 33 Zn [Q0,Q1,Q1,Q1,Q1,Q1,Q1,Q1,Q1,Q1,Q1,Q1,Q1,Q1,Q1,Q1,Q1,Q1,Q1,Q1] [[0,0,0,0,0,0,0,0,0,0,0,0,0,0,0,0,0,0,0,0],[1,0,0,0,0,0,0,0,0,0,0,0,0,0,0,0,0,0,0,0,0]] (@Bu C) bh)
theorem aDz(C:af):bn C (alx C) 121 (Lp [1,1,0,0,0,1,0,1,0,1,0,0] 121):=bA Zm [Q0,Q0,Q0,Q1,Q0,Q0,Q0,Q0,Q0,Q0,Q0,Q0,Q0,Q0,Q0,Q0,Q0,Q0,Q0,Q0,Q1,Q0] [[1,2,3,0,0,5,6,7,8,9,10,11,12,13,14,15,16,17,18,19,20,0,22]] (@H4 C) (ba an)
theorem aDA(C:af):bn C (alx C) 121 (Lp [1,1,0,0,0] 121):=bA Zn [Q0,Q1,Q1,Q1,Q1,Q1,Q1,Q1,Q1,Q1,Q1,Q1,Q1,Q1,Q1,Q1,Q1,Q1,Q1,Q1] [[0,0,0,0,0,0,0,0,0,0,0,0,0,0,0,0,0,0,0,0],[1,0,0,0,0,0,0,0,0,0,0,0,0,0,0,0,0,0,0,0,0]] (@Bu C) (ba (bp (aDz C) an))
noncomputable def Od(C:af)(iX:Int)(fc fe eJ fv:LV)(fw:Int)(fx fy fA fB fC fD fE fF fG fH fI aE:LV):Option LV:=
 (C 122 [cZ fc,cZ fe,ah eJ,ah fv,vI fw,ab fx,ab fy,ab fA,ab fB,ab fC,ab fD,ab fE,ab fF,ab fG,ab fH,ab fI,ab aE]).bind fun r1=>
 (Loop (Ei C iX) (0,(gL r1),(gL (r1.drop 1)),(gL ((r1.drop 1).drop 1)),(gL (r1.drop 3)),(gI ((r1.drop 3).drop 1)),(gL (((r1.drop 3).drop 1).drop 1)),(gL ((((r1.drop 3).drop 1).drop 1).drop 1)),(gL (((((r1.drop 3).drop 1).drop 1).drop 1).drop 1)),(gL ((((((r1.drop 3).drop 1).drop 1).drop 1).drop 1).drop 1)),(gL (((((((r1.drop 3).drop 1).drop 1).drop 1).drop 1).drop 1).drop 1)),(gL ((((((((r1.drop 3).drop 1).drop 1).drop 1).drop 1).drop 1).drop 1).drop 1)),(gL (((((((((r1.drop 3).drop 1).drop 1).drop 1).drop 1).drop 1).drop 1).drop 1).drop 1)),(gL ((((((((((r1.drop 3).drop 1).drop 1).drop 1).drop 1).drop 1).drop 1).drop 1).drop 1).drop 1)),(gL (((((((((((r1.drop 3).drop 1).drop 1).drop 1).drop 1).drop 1).drop 1).drop 1).drop 1).drop 1).drop 1)),(gL ((((((((((((r1.drop 3).drop 1).drop 1).drop 1).drop 1).drop 1).drop 1).drop 1).drop 1).drop 1).drop 1).drop 1)),(gL (((((((((((((r1.drop 3).drop 1).drop 1).drop 1).drop 1).drop 1).drop 1).drop 1).drop 1).drop 1).drop 1).drop 1).drop 1)),(gL ((r1.drop 3).drop 13)),(gL (((r1.drop 3).drop 13).drop 1)))).bind (ed (un fun aDB=>un fun(aDC:Bool)=>un fun(aDD:Bool)=>un fun(sA:LV)=>un fun(yh:LV)=>un fun(sD:LV)=>un fun(uR:LV)=>un fun p9=>un fun(rE:LV)=>un fun(C3:LV)=>un fun(yi:LV)=>un fun(tC:LV)=>un fun(ym:LV)=>un fun(Sa:LV)=>un fun(Sb:LV)=>un fun(akU:LV)=>un fun(aDE:LV)=>un fun(V4:LV)=>un fun(aDF:LV) (aDG:LV)=>
  some [vI aDB,.bool aDC,.bool aDD,cZ sA,cZ yh,ah sD,ah uR,vI p9,ab rE,ab C3,ab yi,ab tC,ab ym,ab Sa,ab Sb,ab akU,ab aDE,ab V4,ab aDF,ab aDG]) (un fun aDH=>un fun(aDI:Bool)=>un fun(aDJ:LV)=>un fun(aDK:LV)=>un fun(aDL:LV)=>un fun(Lt:LV)=>un fun Lu=>un fun(Lv:LV)=>un fun(Lw:LV)=>un fun(Gi:LV)=>un fun(aDM:LV)=>un fun(aDN:LV)=>un fun(Lx:LV)=>un fun(aaG:LV)=>un fun(aaH:LV)=>un fun(Gk:LV)=>un fun(AJ:LV)=>un fun(Ly:LV)=>un fun(aHB:LV) (BL:LV)=>
  some [vI aDH,.bool false,.bool false,cZ aDJ,cZ aDK,ah aDL,ah Lt,vI Lu,ab Lv,ab Lw,ab Gi,ab aDM,ab aDN,ab Lx,ab aaG,ab aaH,ab Gk,ab AJ,ab Ly,ab BL]))
theorem anR{iX:Int}{fc fe eJ fv:LV}{fw:Int}{fx fy fA fB fC fD fE fF fG fH fI aE:LV}{r:Option LV}(h:Od CC iX fc fe eJ fv fw fx fy fA fB fC fD fE fF fG fH fI aE=r):CC 121 [vI iX,cZ fc,cZ fe,ah eJ,ah fv,vI fw,ab fx,ab fy,ab fA,ab fB,ab fC,ab fD,ab fE,ab fF,ab fG,ab fH,ab fI,ab aE]=r:=bj (bp (aDA CC) an) h
def RV(R:List (List Nat)):LV:=R.map fun r=>ab (nS r)
structure RG(K:Nat)(R:List (List Nat)):Prop where
 lt:∀i,i<R.length→∀x∈R.getD i [],x<K
 len:∀i,i<R.length→(R.getD i []).length≤1000
 rl:R.length≤10
theorem Ee{R:List (List Nat)}{i:Nat}(hi:i<R.length):idx (RV R) (i:Int)=some (ab (nS (R.getD i []))):=by
 rw[RV,BE rfl];simp[hi]
def qZ(p q:List (Nat×Nat))(R:List (List Nat))(t:LV)(one:Int)(A B:LV)(l:List V):List V:=
 cZ (p.map dA)::cZ (q.map dA)::ah (RV R)::(N7 t one A B++l)
noncomputable def Mm(C:af)(table cf t15:LV)(t16 t17:Int)(oe:LV){β:Type}(kn:(Int×LV)→Option β)(kr:((Bool) ⊕ (Int×Bool×LV))→Option β):Option β:=
 bif decide (t17<t16)then
  (idx t15 t17).bind fun x1=>
  bif decide ((x1.toInt:Int)<0)then
  kr (.inl false)
  else
  bif decide ((x1.toInt:Int)≥(table.length:Int))then
   kr (.inl false)
  else
   bif decide (t17>0)then
   (idx cf (wrap .i64 (t17-1))).bind fun x2=>
   bif decide ((x2.toInt:Int)≥x1.toInt)then
    kr (.inl false)
   else
    bif (decide (0≤x1.toInt))&&(decide (x1.toInt<(oe.length:Int)))then
    (oe[(x1.toInt:Int).toNat]?).bind fun x3=>
    kn (wrap .i64 (t17+1),bc oe (x1.toInt) (.bool true))
    else none
   else
   bif (decide (0≤x1.toInt))&&(decide (x1.toInt<(oe.length:Int)))then
    (oe[(x1.toInt:Int).toNat]?).bind fun x4=>
    kn (wrap .i64 (t17+1),bc oe (x1.toInt) (.bool true))
   else none
 else
  kr (.inr (t17,decide (t17<t16),oe))
noncomputable def SR(C:af)(table cf t15:LV)(t16:Int):=un fun t17 oe=>Mm C table cf t15 t16 t17 oe (fun y=>some (Sum.inl y)) (fun r=>some (Sum.inr r))
noncomputable def Mn(C:af)(table cf:LV)(x:Int)(t47:LV)(t48 t49:Int)(t53:LV)(t54:Int)(oe:LV)(t55:Int){β:Type}(kn:Int→Option β)(kr:((Bool) ⊕ (Int×Bool))→Option β):Option β:=
 bif decide (t55<t54)then
  (idx t53 t55).bind fun mA=>
  (idx table x).bind fun np=>
  (idx np.toList mA.toInt).bind fun ka=>
  bif (decide (0≤ka.toInt))&&(decide (ka.toInt<(oe.length:Int)))then
  (oe[(ka.toInt:Int).toNat]?).bind fun EU=>
  bif !EU.toBool then
   kr (.inl false)
  else
   kn (wrap .i64 (t55+1))
  else none
 else
  kr (.inr (t55,decide (t55<t54)))
noncomputable def SS(C:af)(table cf:LV)(x:Int)(t47:LV)(t48 t49:Int)(t53:LV)(t54:Int)(oe:LV):=fun t55=>Mn C table cf x t47 t48 t49 t53 t54 oe t55 (fun y=>some (Sum.inl y)) (fun r=>some (Sum.inr r))
noncomputable def Mo(C:af)(table cf t47:LV)(t48:Int)(oe:LV)(t49:Int){β:Type}(kn:Int→Option β)(kr:((Bool) ⊕ (Int×Bool))→Option β):Option β:=
 bif decide (t49<t48)then
  (idx t47 t49).bind fun x9=>
  (Loop (SS C table cf x9.toInt t47 t48 t49 cf (cf.length:Int) oe) 0).bind (ed (fun(wb:Bool)=>
   kr (.inl wb)) (un fun(Pp:Int) (BU:Bool)=>
   kn (wrap .i64 (t49+1))))
 else
  kr (.inr (t49,decide (t49<t48)))
noncomputable def SU(C:af)(table cf t47:LV)(t48:Int)(oe:LV):=fun t49=>Mo C table cf t47 t48 oe t49 (fun y=>some (Sum.inl y)) (fun r=>some (Sum.inr r))
noncomputable def abe(C:af):cp:=bz 49 ZC [Q0,Q0,Q0,Q0,Q1,Q1] [[0],[1,2,3,4,0,0,0]] (@Mm C) (bz 209 ZD [Q0,Q0,Q0,Q0,Q0,Q0,Q0,Q0,Q1,Q0] [[0],[1,2,3,4,5,6,7,8,0,0,10]] (@Mn C) (bz 161 ZE [Q0,Q0,Q0,Q0,Q1,Q0] [[0],[1,2,3,4,0,0,6]] (@Mo C) bh))
theorem aDO(C:af):bn C (abe C) 155 (Lp [1,1,0,1,0,0] 155):=bA ZC [Q0,Q0,Q0,Q0,Q1,Q1] [[0],[1,2,3,4,0,0,0]] (@Mm C) (ba an)
theorem aDP(C:af):bn C (abe C) 155 (Lp [1,1,1,0,1,0,0,1,1,0,0,1,1,0,0] 155):=bA ZD [Q0,Q0,Q0,Q0,Q0,Q0,Q0,Q0,Q1,Q0] [[0],[1,2,3,4,5,6,7,8,0,0,10]] (@Mn C) (ba an)
theorem aDQ(C:af):bn C (abe C) 155 (Lp [1,1,1,0,1,0,0] 155):=bA ZE [Q0,Q0,Q0,Q0,Q1,Q0] [[0],[1,2,3,4,0,0,6]] (@Mo C) (ba (bp (aDP C) an))
noncomputable def SW(C:af)(table cf:LV):Option LV:=
 bif (decide (0≤(table.length:Int)))&&((decide ((table.length:Int)≤(table.length:Int)))&&(Nat.ble (((table.length:Int).toNat)*1) aR))then
  (Loop (SR C table cf cf (cf.length:Int)) (0,List.replicate ((table.length:Int).toNat) (V.bool false))).bind (ed (fun(mu:Bool)=>
   some [.bool mu]) (un fun jD=>un fun(ng:Bool) (aDR:LV)=>
   (Loop (SU C table cf cf (cf.length:Int) aDR) 0).bind (ed (fun(SM:Bool)=>
    some [.bool SM]) (un fun(aa3:Int) (aa4:Bool)=>
    some [.bool true]))))
 else none
theorem aDS{table cf:LV}{r:Option LV}(h:SW CC table cf=r):CC 155 [ah table,ab cf]=r:=bj (bp (aDO CC) (bp (aDQ CC) an)) h
section
variable {K:Nat}{mul:Nat→Nat→Nat}(h:Tb K mul){Z:List Nat}(hZ:∀z∈Z,z<K)(hl:Z.length≤400)
include h hZ hl
theorem an2:∃b,CC 155 [ah (tG K mul),ab (nS Z)]=some [.bool b]:=by
 have h4:=h.k4;have l1:∃r,Loop (SR CC (tG K mul) (nS Z) (nS Z) (Z.length:Int)) (0,List.replicate K (V.bool false))=some r∧((∃b,r= .inl b)∨∃a:LV,a.length=K∧r= .inr ((Z.length:Int),false,a)):=by
  refine zM (fun i x=> ∃a:LV,a.length=K∧x=((i:Int),a)) (fun(r:Bool ⊕ (Int×Bool×LV))=>(∃b,r= .inl b)∨∃a:LV,a.length=K∧r= .inr ((Z.length:Int),false,a)) Z.length (fun i hi x hx=> ?_) (fun x hx=> ?_) Z.length 0 _ (dP _) ⟨_,by simp,rfl⟩
  ·obtain⟨a,Dc,rfl⟩:=hx;have hz:=hZ _ (dw hi);simp only[SR,Mm,un];rw[tz];have fin:(bif (decide (0≤(nV Z[i]).toInt))&&(decide ((nV Z[i]).toInt<(a.length:Int)))then
     (a[((nV Z[i]).toInt:Int).toNat]?).bind fun _=>some (Sum.inl (β:=Bool ⊕ (Int×Bool×LV)) (wrap .i64 ((i:Int)+1),bc a ((nV Z[i]).toInt) (V.bool true)))
     else none)=some (Sum.inl (((i+1:Nat):Int),bc a ((nV Z[i]).toInt) (V.bool true))):=by
    refine bT (ra (by omega)) (bs (bX (by rw[Dc];exact hz)) ?_);rw[bu (by omega)]
   have jK:(bc a ((nV Z[i]).toInt) (V.bool true)).length=K:=by grind
   rcases GS i with c|c
   ·exact .inl ⟨_,bT (bt hi) (bs (iT hi) (bF zJ (bF (Gh hz) (bF (by simp[c]) fin)))),_,jK,rfl⟩
   ·have hp:idx (nS Z) (wrap .i64 ((i:Int)-1))=some (nV (Z[i-1]'(by omega))):=by
     rw[show wrap .i64 ((i:Int)-1)=((i-1:Nat):Int) by rw[show((i:Int)-1)=((i-1:Nat):Int) by omega];exact wrap64 (by omega) (by omega)];exact iT (by omega)
    by_cases c2:((Z[i-1]'(by omega):Nat):Int)≥(Z[i]:Nat)
    ·exact .inr ⟨_,bT (bt hi) (bs (iT hi) (bF zJ (bF (Gh hz) (bT (cB (by omega)) (bs hp (bT (cB c2) rfl)))))),.inl ⟨_,rfl⟩⟩
    ·exact .inl ⟨_,bT (bt hi) (bs (iT hi) (bF zJ (bF (Gh hz) (bT (cB (by omega)) (bs hp (bF (dj c2) fin)))))),_,jK,rfl⟩
  ·obtain⟨a,Dc,rfl⟩:=hx;simp only[SR,Mm,un];grind
 have l2:∀{a:LV} {x:Nat} {s:LV} {p q:Int} {u:LV},a.length=K→x<K→s=nS Z→∃r,Loop (SS CC (tG K mul) (nS Z) (x:Int) u p q s (Z.length:Int) a) 0=some r∧((∃b,r= .inl b)∨r= .inr ((Z.length:Int),false)):=by
  rintro a x _ p q u Dc hx rfl;refine zM (fun i x=>x=(i:Int)) (fun(r:Bool ⊕ (Int×Bool))=>(∃b,r= .inl b)∨r= .inr ((Z.length:Int),false)) Z.length (fun i hi y hy=> ?_) (fun y hy=> ?_) Z.length 0 _ (dP _) rfl
  ·subst hy;have hz:=hZ _ (dw hi);have hm:=h.lt _ _ hx hz;simp only[SS,Mn];have kD:a[mul x Z[i]]? =some (a[mul x Z[i]]'(by omega)):=bX (by omega);cases hb:(a[mul x Z[i]]'(by omega)).toBool with
   |true=>
    refine .inl ⟨_,bT (bt hi) (bs (iT hi) (bs (ou hx) (bs (qY hz) (bT (ra (by omega)) (bs kD (bF (by grind) rfl)))))),?_⟩;rw[bu (by omega)]
   |false=>
    exact .inr ⟨_,bT (bt hi) (bs (iT hi) (bs (ou hx) (bs (qY hz) (bT (ra (by omega)) (bs kD (bT (by grind) rfl)))))),.inl ⟨_,rfl⟩⟩
  ·subst hy;simp only[SS,Mn];grind
 have l3:∀{a:LV},a.length=K→∃r,Loop (SU CC (tG K mul) (nS Z) (nS Z) (Z.length:Int) a) 0=some r∧((∃b,r= .inl b)∨r= .inr ((Z.length:Int),false)):=by
  intro a Dc;refine zM (fun i x=>x=(i:Int)) (fun(r:Bool ⊕ (Int×Bool))=>(∃b,r= .inl b)∨r= .inr ((Z.length:Int),false)) Z.length (fun i hi y hy=> ?_) (fun y hy=> ?_) Z.length 0 _ (dP _) rfl
  ·subst hy;have hz:=hZ _ (dw hi);obtain⟨r,e,hr⟩:=l2 (a:=a) (x:=Z[i]) (s:=nS Z) (p:=(Z.length:Int)) (q:=(i:Int)) (u:=nS Z) Dc hz rfl;simp only[SU,Mo];rcases hr with⟨b,rfl⟩|rfl
   ·exact .inr ⟨_,bT (bt hi) (bs (iT hi) (bs (by rw[dE];exact e) rfl)),.inl ⟨_,rfl⟩⟩
   ·refine .inl ⟨_,bT (bt hi) (bs (iT hi) (bs (by rw[dE];exact e) rfl)),?_⟩;rw[bu (by omega)]
  ·subst hy;simp only[SU,Mo];grind
 have fin:∀z,SW CC (tG K mul) (nS Z)=z→CC 155 [ah (tG K mul),ab (nS Z)]=z:=fun z h=>aDS h;have body:∃b,SW CC (tG K mul) (nS Z)=some [.bool b]:=by
  unfold SW;rw[tz,dE];obtain⟨r,e,hr⟩:=l1;rcases hr with⟨b,rfl⟩|⟨a,Dc,rfl⟩
  ·exact⟨b,bT (gP (by omega) (by omega)) (bs e rfl)⟩
  ·obtain⟨r,e2,hr⟩:=l3 Dc;rcases hr with⟨b,rfl⟩|rfl
   ·exact⟨b,bT (gP (by omega) (by omega)) (bs e (bs e2 rfl))⟩
   ·exact⟨true,bT (gP (by omega) (by omega)) (bs e (bs e2 rfl))⟩
 grind
end
noncomputable def H7(C:af)(table cf:LV)(i t33 t34:Int)(t37:LV)(t38:Int)(Dd De Dg Dh Di Dj Dk Dl Dm Dn Dp Dq:Bool)(t39:Int)(lV:LV){β:Type}(kn:(Int×LV)→Option β)(kr:(Int×Bool×LV)→Option β):Option β:=
 bif decide (t39<t38)then
  (idx t37 t39).bind fun x4=>
  bif (decide (0≤i))&&(decide (i<6))then
  (([.bool Dd,.bool De,.bool Dg,.bool Dh,.bool Di,.bool Dj]:LV)[0+((i.toNat)*1)]?).bind fun x5=>
  bif !x5.toBool then
   aA lV i fun x6=>
   (lV[i.toNat]?).bind fun x7=>
   bif Nat.ble ((x7.toList.length+([vI x4.toInt]:LV).length)*8) aR then
   El lV i <|
   bif (Nat.beq (i.toNat) (i.toNat))&&true then
    kn (wrap .i64 (t39+1),bc lV i (ab (x7.toList++([vI x4.toInt]:LV))))
   else none
   else none
  else
   bif (decide (0≤i))&&(decide (i<6))then
   (([.bool Dk,.bool Dl,.bool Dm,.bool Dn,.bool Dp,.bool Dq]:LV)[0+((i.toNat)*1)]?).bind fun x8=>
   bif x8.toBool then
    aA lV i fun x9=>
    (lV[i.toNat]?).bind fun mA=>
    bif Nat.ble ((mA.toList.length+([vI x4.toInt]:LV).length)*8) aR then
    El lV i <|
    bif (Nat.beq (i.toNat) (i.toNat))&&true then
     kn (wrap .i64 (t39+1),bc lV i (ab (mA.toList++([vI x4.toInt]:LV))))
    else none
    else none
   else
    (idx table x4.toInt).bind fun np=>
    (idx np.toList x4.toInt).bind fun ka=>
    bif (ka.toInt:Int)==x4.toInt then
    aA lV i fun EU=>
    (lV[i.toNat]?).bind fun EO=>
    bif Nat.ble ((EO.toList.length+([vI x4.toInt]:LV).length)*8) aR then
     El lV i <|
     bif (Nat.beq (i.toNat) (i.toNat))&&true then
     kn (wrap .i64 (t39+1),bc lV i (ab (EO.toList++([vI x4.toInt]:LV))))
     else none
    else none
    else
    kn (wrap .i64 (t39+1),lV)
   else none
  else none
 else
  kr (t39,decide (t39<t38),lV)
noncomputable def Of(C:af)(table cf:LV)(i t33 t34:Int)(t37:LV)(t38:Int)(Dd De Dg Dh Di Dj Dk Dl Dm Dn Dp Dq:Bool):=un fun t39 lV=>H7 C table cf i t33 t34 t37 t38 Dd De Dg Dh Di Dj Dk Dl Dm Dn Dp Dq t39 lV (fun y=>some (Sum.inl y)) (fun r=>some (Sum.inr r))
noncomputable def H8(C:af)(table cf:LV)(t33:Int)(Dd De Dg Dh Di Dj Dk Dl Dm Dn Dp Dq:Bool)(t34:Int)(lV:LV){β:Type}(kn:(Int×LV)→Option β)(kr:(Int×Bool×LV)→Option β):Option β:=
 bif decide (t34<t33)then
  (Loop (Of C table cf t34 t33 t34 cf (cf.length:Int) Dd De Dg Dh Di Dj Dk Dl Dm Dn Dp Dq) (0,lV)).bind (un fun Pp=>un fun(BU:Bool) (aDT:LV)=>
   kn (wrap .i64 (t34+1),aDT))
 else
  kr (t34,decide (t34<t33),lV)
noncomputable def Oe(C:af)(table cf:LV)(t33:Int)(Dd De Dg Dh Di Dj Dk Dl Dm Dn Dp Dq:Bool):=un fun t34 lV=>H8 C table cf t33 Dd De Dg Dh Di Dj Dk Dl Dm Dn Dp Dq t34 lV (fun y=>some (Sum.inl y)) (fun r=>some (Sum.inr r))
noncomputable def aly(C:af):cp:=bz 161 ZF [Q0,Q0,Q0,Q0,Q0,Q0,Q0,Q1,Q0,Q0,Q0,Q0,Q0,Q0,Q0,Q0,Q0,Q0,Q0,Q0,Q1] [[1,2,3,4,5,6,7,0,0,9,10,11,12,13,14,15,16,17,18,19,20,0]] (@H7 C) (bz 113 ZG [Q0,Q0,Q0,Q1,Q0,Q0,Q0,Q0,Q0,Q0,Q0,Q0,Q0,Q0,Q0,Q0,Q1] [[1,2,3,0,0,5,6,7,8,9,10,11,12,13,14,15,16,0]] (@H8 C) bh)
theorem aDU(C:af):bn C (aly C) 159 (Lp [1,1,1,1,1,1,0,1,0,0,1,1,0,0,1,1,0,0] 159):=bA ZF [Q0,Q0,Q0,Q0,Q0,Q0,Q0,Q1,Q0,Q0,Q0,Q0,Q0,Q0,Q0,Q0,Q0,Q0,Q0,Q0,Q1] [[1,2,3,4,5,6,7,0,0,9,10,11,12,13,14,15,16,17,18,19,20,0]] (@H7 C) (ba an)
theorem aDV(C:af):bn C (aly C) 159 (Lp [1,1,1,1,1,1,0,1,0,0] 159):=bA ZG [Q0,Q0,Q0,Q1,Q0,Q0,Q0,Q0,Q0,Q0,Q0,Q0,Q0,Q0,Q0,Q0,Q1] [[1,2,3,0,0,5,6,7,8,9,10,11,12,13,14,15,16,0]] (@H8 C) (ba (bp (aDU C) an))
noncomputable def UC(C:af)(table cf:LV)(mO mP:Int)(mQ:LV)(mR mU:Int)(mV:LV):Option LV:=
 (C FP [vI mO,vI mP,b8 mQ,vI 0,vI 0,b8 ([]:LV),.bool false,.bool false,.bool false,.bool false,.bool false,.bool false,.bool false,.bool false,.bool false,.bool false,.bool false,.bool false]).bind fun r1=>
 (C FP [vI mR,vI mU,b8 mV,vI 0,vI 0,b8 ([]:LV),.bool (gB r1),.bool (gB (r1.drop 1)),.bool (gB ((r1.drop 1).drop 1)),.bool (gB (((r1.drop 1).drop 1).drop 1)),.bool (gB ((((r1.drop 1).drop 1).drop 1).drop 1)),.bool (gB (((((r1.drop 1).drop 1).drop 1).drop 1).drop 1)),.bool (gB (r1.drop 6)),.bool (gB ((r1.drop 6).drop 1)),.bool (gB (((r1.drop 6).drop 1).drop 1)),.bool (gB ((((r1.drop 6).drop 1).drop 1).drop 1)),.bool (gB (((((r1.drop 6).drop 1).drop 1).drop 1).drop 1)),.bool (gB ((((((r1.drop 6).drop 1).drop 1).drop 1).drop 1).drop 1))]).bind fun r2=>
 (C 201 [b8 ([.agg [vI mO,vI mP,b8 mQ],.agg [vI mR,vI mU,b8 mV]]:LV)]).bind fun r3=>
 bif (decide (0≤(gI r3)))&&((decide ((gI r3)≤(gI r3)))&&(Nat.ble ((((gI r3):Int).toNat)*24) aR))then
  (Loop (Oe C table cf ((List.replicate (((gI r3):Int).toNat) (ab ([]:LV))).length:Int) (gB r2) (gB (r2.drop 1)) (gB ((r2.drop 1).drop 1)) (gB (((r2.drop 1).drop 1).drop 1)) (gB ((((r2.drop 1).drop 1).drop 1).drop 1)) (gB (((((r2.drop 1).drop 1).drop 1).drop 1).drop 1)) (gB (r2.drop 6)) (gB ((r2.drop 6).drop 1)) (gB (((r2.drop 6).drop 1).drop 1)) (gB ((((r2.drop 6).drop 1).drop 1).drop 1)) (gB (((((r2.drop 6).drop 1).drop 1).drop 1).drop 1)) (gB ((((((r2.drop 6).drop 1).drop 1).drop 1).drop 1).drop 1))) (0,List.replicate (((gI r3):Int).toNat) (ab ([]:LV)))).bind (un fun aa3=>un fun(aa4:Bool) (aDW:LV)=>
   some [ah aDW])
 else none
theorem anZ{table cf:LV}{mO mP:Int}{mQ:LV}{mR mU:Int}{mV:LV}{r:Option LV}(h:UC CC table cf mO mP mQ mR mU mV=r):CC 159 [ah table,ab cf,vI mO,vI mP,b8 mQ,vI mR,vI mU,b8 mV]=r:=bj (bp (aDV CC) an) h
noncomputable def acQ(C:af)(list:LV):Option LV:=
 some [.bool ((list.length:Int)==0)]
theorem anU{list:LV}{r:Option LV}(h:acQ CC list=r):CC 162 [ab list]=r:=bj (L:=bh) an h
noncomputable def H9(C:af)(s:LV)(t7 t8:Int){β:Type}(kn:Int→Option β)(kr:((Int) ⊕ (Int×Bool))→Option β):Option β:=
 bif decide (t8<t7)then
  (idx s t8).bind fun x1=>
  (C 162 [ab x1.toList]).bind fun r2=>
  bif (gB r2)then
  kr (.inl t8)
  else
  kn (wrap .i64 (t8+1))
 else
  kr (.inr (t8,decide (t8<t7)))
noncomputable def Oh(C:af)(s:LV)(t7:Int):=fun t8=>H9 C s t7 t8 (fun y=>some (Sum.inl y)) (fun r=>some (Sum.inr r))
noncomputable def aDX(C:af):cp:=bz 33 Z6 [Q0,Q0,Q1] [[0],[1,2,0,0]] (@H9 C) bh
theorem aDY(C:af):bn C (aDX C) 203 (Lp [1,0,1,0,0] 203):=bA Z6 [Q0,Q0,Q1] [[0],[1,2,0,0]] (@H9 C) (ba an)
noncomputable def UB(C:af)(s:LV):Option LV:=
 (Loop (Oh C s (s.length:Int)) 0).bind (ed (fun iU=>
  some [vI iU]) (un fun(mr:Int) (mu:Bool)=>
  some [vI (-1)]))
theorem acS{s:LV}{r:Option LV}(h:UB CC s=r):CC 203 [ah s]=r:=bj (bp (aDY CC) an) h
noncomputable def UA(C:af)(s:LV):Option LV:=
 (C 203 [ah s]).bind fun r1=>
 some [.bool (decide (((gI r1):Int)≥0))]
theorem acR{s:LV}{r:Option LV}(h:UA CC s=r):CC 161 [ah s]=r:=bj (L:=bh) an h
noncomputable def Uz(C:af)(fc fe eJ fv:LV)(fw:Int)(fx fy fA fB fC fD fE fF fG fH fI aE:LV):Option LV:=
 (C 161 [ah eJ]).bind fun r1=>
 some [.bool (gB r1),cZ fc,cZ fe,ah eJ,ah fv,vI fw,ab fx,ab fy,ab fA,ab fB,ab fC,ab fD,ab fE,ab fF,ab fG,ab fH,ab fI,ab aE]
theorem anW{fc fe eJ fv:LV}{fw:Int}{fx fy fA fB fC fD fE fF fG fH fI aE:LV}{r:Option LV}(h:Uz CC fc fe eJ fv fw fx fy fA fB fC fD fE fF fG fH fI aE=r):CC 120 [cZ fc,cZ fe,ah eJ,ah fv,vI fw,ab fx,ab fy,ab fA,ab fB,ab fC,ab fD,ab fE,ab fF,ab fG,ab fH,ab fI,ab aE]=r:=bj (L:=bh) an h
noncomputable def Mp(C:af)(t9 t10:Int)(lists:LV){β:Type}(kn:(Int×LV)→Option β)(kr:(Int×Bool×LV)→Option β):Option β:=
 bif decide (t10<t9)then
  aA lists t10 fun x1=>
  kn (wrap .i64 (t10+1),bc lists t10 (vI t10))
 else
  kr (t10,decide (t10<t9),lists)
noncomputable def abf(C:af)(t9:Int):=un fun t10 lists=>Mp C t9 t10 lists (fun y=>some (Sum.inl y)) (fun r=>some (Sum.inr r))
noncomputable def aDZ(C:af):cp:=bz 49 Z1 [Q0,Q1,Q1] [[1,0,0,0]] (@Mp C) bh
theorem aD0(C:af):bn C (aDZ C) 196 (Lp [1,1,0,1,0,0] 196):=bA Z1 [Q0,Q1,Q1] [[1,0,0,0]] (@Mp C) (ba an)
noncomputable def alz(C:af)(t:LV):Option LV:=
 bif (decide (0≤(t.length:Int)))&&((decide ((t.length:Int)≤(t.length:Int)))&&(Nat.ble (((t.length:Int).toNat)*8) aR))then
  (Loop (abf C ((List.replicate ((t.length:Int).toNat) (vI 0)).length:Int)) (0,List.replicate ((t.length:Int).toNat) (vI 0))).bind (un fun v9=>un fun(iU:Bool) (aD1:LV)=>
   some [ab aD1])
 else none
theorem aD2{t:LV}{r:Option LV}(h:alz CC t=r):CC 196 [ah t]=r:=bj (bp (aD0 CC) an) h
noncomputable def Mq(C:af)(e t6:Int)(uf:LV)(t7:Int){β:Type}(kn:Int→Option β)(kr:((Bool) ⊕ (Int×Bool))→Option β):Option β:=
 bif decide (t7<t6)then
  (idx uf e).bind fun x1=>
  (idx x1.toList t7).bind fun x2=>
  bif (x2.toInt:Int) != t7 then
  kr (.inl false)
  else
  (idx uf t7).bind fun x3=>
  (idx x3.toList e).bind fun x4=>
  bif (x4.toInt:Int) != t7 then
   kr (.inl false)
  else
   kn (wrap .i64 (t7+1))
 else
  kr (.inr (t7,decide (t7<t6)))
noncomputable def abg(C:af)(e t6:Int)(uf:LV):=fun t7=>Mq C e t6 uf t7 (fun y=>some (Sum.inl y)) (fun r=>some (Sum.inr r))
noncomputable def aD3(C:af):cp:=bz 33 Z2 [Q0,Q0,Q1,Q0] [[0,4],[1,2,0,0,4]] (@Mq C) bh
theorem aD4(C:af):bn C (aD3 C) 197 (Lp [1,0,1,0,0] 197):=bA Z2 [Q0,Q0,Q1,Q0] [[0,4],[1,2,0,0,4]] (@Mq C) (ba an)
noncomputable def alA(C:af)(e:Int)(uf:LV):Option LV:=
 (Loop (abg C e (uf.length:Int) uf) 0).bind (ed (fun(mu:Bool)=>
  some [.bool mu,ah uf]) (un fun(jD:Int) (ng:Bool)=>
  some [.bool true,ah uf]))
theorem aD5{e:Int}{uf:LV}{r:Option LV}(h:alA CC e uf=r):CC 197 [vI e,ah uf]=r:=bj (bp (aD4 CC) an) h
noncomputable def SX(C:af)(s:LV)(t7 t8:Int)(fs:LV){β:Type}(kn:(Int×LV)→Option β)(kr:((Int×LV) ⊕ (Int×Bool×LV))→Option β):Option β:=
 bif decide (t8<t7)then
  (idx s t8).bind fun x1=>
  (C 197 [vI x1.toInt,ah fs]).bind fun r2=>
  bif (gB r2)then
  kr (.inl (t8,(gL (r2.drop 1))))
  else
  kn (wrap .i64 (t8+1),(gL (r2.drop 1)))
 else
  kr (.inr (t8,decide (t8<t7),fs))
noncomputable def alB(C:af)(s:LV)(t7:Int):=un fun t8 fs=>SX C s t7 t8 fs (fun y=>some (Sum.inl y)) (fun r=>some (Sum.inr r))
noncomputable def aD6(C:af):cp:=bz 33 Z0 [Q0,Q0,Q1,Q1] [[0,0],[1,2,0,0,0]] (@SX C) bh
theorem aD7(C:af):bn C (aD6 C) 195 (Lp [1,0,1,0,0] 195):=bA Z0 [Q0,Q0,Q1,Q1] [[0,0],[1,2,0,0,0]] (@SX C) (ba an)
noncomputable def alC(C:af)(s fs:LV):Option LV:=
 (Loop (alB C s (s.length:Int)) (0,fs)).bind (ed (un fun(iU:Int) (U9:LV)=>
  some [vI iU,ah U9]) (un fun mu=>un fun(jD:Bool) (aD8:LV)=>
  some [vI (-1),ah aD8]))
theorem aD9{s fs:LV}{r:Option LV}(h:alC CC s fs=r):CC 195 [ab s,ah fs]=r:=bj (bp (aD7 CC) an) h
noncomputable def alD(C:af)(t:LV):Option LV:=
 (C 194 [ah t]).bind fun r1=>
 bif !(gB r1)then
  some [vI (-1)]
 else
  (C 196 [ah t]).bind fun r2=>
  (C 195 [ab (gL r2),ah t]).bind fun r3=>
  some [vI (gI r3)]
theorem aEa{t:LV}{r:Option LV}(h:alD CC t=r):CC 156 [ah t]=r:=bj (L:=bh) an h
theorem Og{R:List (List Nat)}:(RV R).length=R.length:=by simp[RV]
section
variable {K:Nat}{mul:Nat→Nat→Nat}(h:Tb K mul)(ha:∀i j k,i<K→j<K→k<K→mul (mul i j) k=mul i (mul j k))(ae:∀j,j<K→mul 0 j=j∧mul j 0=j)
include h ha ae
theorem an3:CC 156 [ah (tG K mul)]=some [vI 0]:=by
 have h1:=h.k1;have h4:=h.k4;have el:CC 196 [ah (tG K mul)]=some [ab (nS (List.range K))]:=by
  refine aD2 ?_;unfold alz;rw[tz];refine bT (gP (by omega) (by omega)) ?_;rw[Int.toNat_natCast,xo];refine bs (vU (fun i a=>((i:Int),a)) K nV (List.replicate K (vI 0)) (by simp) (fun a=>((K:Int),false,a)) (fun i hi a ha=> ?_) ?_) ?_
  ·simp only[abf,Mp,un,aA,bc];refine bT (bt hi) ((tw (by omega)).trans ?_);rw[bu (by omega),Int.toNat_natCast];rfl
  ·simp only[abf,Mp,un];grind
  ·rw[aar];refine congrArg (fun t=>some [ab t]) ?_;rw[lk];exact dW fun j hj=>by grind
 have i0:CC 197 [vI 0,ah (tG K mul)]=some [.bool true,ah (tG K mul)]:=by
  refine aD5 ?_;unfold alA;rw[tz];refine bs (eZ K (fun i=>(i:Int)) (.inr ((K:Int),false)) (fun i hi=> ?_) ?_) rfl
  ·simp only[abg,Mq];refine bT (bt hi) (bs (ou (i:=0) (by omega)) (bs (qY hi) (bF ?_ (bs (ou hi) (bs (qY (i:=0) (by omega)) (bF ?_ ?_))))))
   ·show(((mul 0 i:Nat):Int) != (i:Int))=false;grind
   ·show(((mul i 0:Nat):Int) != (i:Int))=false;grind
   ·rw[bu (by omega)]
  ·simp only[abg,Mq];grind
 refine aEa ?_;unfold alD;refine bs (aCU h ha) (bF rfl (bs el (bs (a:=[vI 0,ah (tG K mul)]) (aD9 ?_) rfl)));unfold alC;rw[show(gL [ab (nS (List.range K))])=nS (List.range K)from rfl,dE,lk];refine bs (gH (r:= .inl (0,tG K mul)) ?_) rfl;simp only[alB,SX,un];refine bT (bt (i:=0) h1) (bs (a:=nV 0) ?_ (bs i0 (bT rfl rfl)));have:=iT (S:=List.range K) (i:=0) (by grind);grind
end
noncomputable def Oj(C:af)(table cf:LV)(mO mP:Int)(mQ:LV)(mR mU:Int)(mV:LV):Option LV:=
 (C 154 [ah table]).bind fun r1=>
 bif ((gI r1):Int) != 0 then
  some [V.bool true,vI (gI r1)]
 else
  (C 155 [ah table,ab cf]).bind fun r2=>
  bif !(gB r2)then
  some [V.bool true,vI 1]
  else
  (C 148 [vI mO,vI mP,b8 mQ,vI mR,vI mU,b8 mV]).bind fun r3=>
  bif ((gI r3):Int) != 0 then
   some [V.bool true,vI 21]
  else
   (C 156 [ah table]).bind fun r4=>
   bif decide (((gI r4):Int)<0)then
   (C 157 [b8 ([.agg [vI mO,vI mP,b8 mQ],.agg [vI mR,vI mU,b8 mV]]:LV)]).bind fun r5=>
   bif (gB r5)then
    some [V.bool true,vI 9]
   else
    (C 158 [vI mO,vI mP,b8 mQ]).bind fun r6=>
    (C 158 [vI mR,vI mU,b8 mV]).bind fun r7=>
    (C 159 [ah table,ab cf,vI mO,vI mP,b8 mQ,vI mR,vI mU,b8 mV]).bind fun r8=>
    (C 160 [ah table,vI (gI r4),.list 242 ([cZ (gL r6),cZ (gL r7)]:LV)]).bind fun r9=>
    bif (decide (0≤((gL r8).length:Int)))&&((decide (((gL r8).length:Int)≤((gL r8).length:Int)))&&(Nat.ble (((((gL r8).length:Int):Int).toNat)*8) aR))then
    some [V.bool false,cZ (gL r6),cZ (gL r7),ah (gL r8),ah (gL r9),vI (gI (r9.drop 1)),ab (gL ((r9.drop 1).drop 1)),ab (gL (((r9.drop 1).drop 1).drop 1)),ab (gL ((((r9.drop 1).drop 1).drop 1).drop 1)),ab (gL (((((r9.drop 1).drop 1).drop 1).drop 1).drop 1)),ab (gL ((((((r9.drop 1).drop 1).drop 1).drop 1).drop 1).drop 1)),ab (gL (((((((r9.drop 1).drop 1).drop 1).drop 1).drop 1).drop 1).drop 1)),ab (gL ((((((((r9.drop 1).drop 1).drop 1).drop 1).drop 1).drop 1).drop 1).drop 1)),ab (gL (((((((((r9.drop 1).drop 1).drop 1).drop 1).drop 1).drop 1).drop 1).drop 1).drop 1)),ab (gL ((((((((((r9.drop 1).drop 1).drop 1).drop 1).drop 1).drop 1).drop 1).drop 1).drop 1).drop 1)),ab (gL (((((((((((r9.drop 1).drop 1).drop 1).drop 1).drop 1).drop 1).drop 1).drop 1).drop 1).drop 1).drop 1)),ab (gL ((((((((((((r9.drop 1).drop 1).drop 1).drop 1).drop 1).drop 1).drop 1).drop 1).drop 1).drop 1).drop 1).drop 1)),ab (List.replicate ((((gL r8).length:Int):Int).toNat) (vI 0))]
    else none
   else
   (C 158 [vI mO,vI mP,b8 mQ]).bind fun fO=>
   (C 158 [vI mR,vI mU,b8 mV]).bind fun cq=>
   (C 159 [ah table,ab cf,vI mO,vI mP,b8 mQ,vI mR,vI mU,b8 mV]).bind fun py=>
   (C 160 [ah table,vI (gI r4),.list 242 ([cZ (gL fO),cZ (gL cq)]:LV)]).bind fun iA=>
   bif (decide (0≤((gL py).length:Int)))&&((decide (((gL py).length:Int)≤((gL py).length:Int)))&&(Nat.ble (((((gL py).length:Int):Int).toNat)*8) aR))then
    some [V.bool false,cZ (gL fO),cZ (gL cq),ah (gL py),ah (gL iA),vI (gI (iA.drop 1)),ab (gL ((iA.drop 1).drop 1)),ab (gL (((iA.drop 1).drop 1).drop 1)),ab (gL ((((iA.drop 1).drop 1).drop 1).drop 1)),ab (gL (((((iA.drop 1).drop 1).drop 1).drop 1).drop 1)),ab (gL ((((((iA.drop 1).drop 1).drop 1).drop 1).drop 1).drop 1)),ab (gL (((((((iA.drop 1).drop 1).drop 1).drop 1).drop 1).drop 1).drop 1)),ab (gL ((((((((iA.drop 1).drop 1).drop 1).drop 1).drop 1).drop 1).drop 1).drop 1)),ab (gL (((((((((iA.drop 1).drop 1).drop 1).drop 1).drop 1).drop 1).drop 1).drop 1).drop 1)),ab (gL ((((((((((iA.drop 1).drop 1).drop 1).drop 1).drop 1).drop 1).drop 1).drop 1).drop 1).drop 1)),ab (gL (((((((((((iA.drop 1).drop 1).drop 1).drop 1).drop 1).drop 1).drop 1).drop 1).drop 1).drop 1).drop 1)),ab (gL ((((((((((((iA.drop 1).drop 1).drop 1).drop 1).drop 1).drop 1).drop 1).drop 1).drop 1).drop 1).drop 1).drop 1)),ab (List.replicate ((((gL py).length:Int):Int).toNat) (vI 0))]
   else none
theorem an1{table cf:LV}{mO mP:Int}{mQ:LV}{mR mU:Int}{mV:LV}{r:Option LV}(h:Oj CC table cf mO mP mQ mR mU mV=r):CC 119 [ah table,ab cf,vI mO,vI mP,b8 mQ,vI mR,vI mU,b8 mV]=r:=bj (L:=bh) an h
end Go.AM
