/-
  Functions of the program, lifted to plain data.
-/
import Derived.Sort.AssemblyPlain
import Derived.Test.YtnbcjledacomdaaGreatDoorP4
set_option linter.unusedVariables false
set_option linter.unusedSimpArgs false
set_option maxRecDepth 100000
namespace Go.AM
open Go.Proofs
noncomputable def EM (C:ab) (cE i state t36 oK oL aM aT:Int) (bE br cH gW:LV) (t37 nM nO:Int) (nP nQ rows bt bH:LV) {β:Type} (kn:(Int × Int × Int × LV × LV × LV × LV × LV)→Option β) (kr:(Int × Bool × Int × Int × LV × LV × LV × LV × LV)→Option β):Option β:=
 bif decide ((t37:Int)<t36) then
  (C tO [V.int .i64 state,V.int .i64 t37,V.int .i64 nM,V.int .i64 nO,.list au nP,.list ax nQ]).bind fun r3=>
  (C O5 [V.int .i64 ((V.nth r3 0).toInt),.list bJ bt,.list gU bH]).bind fun r4=>
  ar rows t37 fun x5=>
  kn (IntKind.wrap .i64 (t37+1),(V.nth (r3.drop 1) 0).toInt,(V.nth ((r3.drop 1).drop 1) 0).toInt,(V.nth (((r3.drop 1).drop 1).drop 1) 0).toList,(V.nth ((((r3.drop 1).drop 1).drop 1).drop 1) 0).toList,aS rows t37 (V.int .i64 ((V.nth r4 0).toInt)),(V.nth ((r4.drop 1).drop 1) 0).toList,(V.nth (r4.drop 1) 0).toList)
 else
  kr (t37,decide ((t37:Int)<t36),nM,nO,nP,nQ,rows,bt,bH)
noncomputable def KK (C:ab) (cE i state t36 oK oL aM aT:Int) (bE br cH gW:LV):=un fun t37=>un fun nM=>un fun nO=>un fun nP=>un fun nQ=>un fun rows=>un fun bt bH=>EM C cE i state t36 oK oL aM aT bE br cH gW t37 nM nO nP nQ rows bt bH (fun y=>some (Sum.inl y)) (fun r=>some (Sum.inr r))
noncomputable def EN (C:ab) (cE oK oL aM aT:Int) (bI bE:LV) (i nM nO:Int) (nP nQ br bt bH cH:LV) {β:Type} (kn:(Int × Int × Int × LV × LV × LV × LV × LV × LV)→Option β) (kr:((Int × Int × Int × LV × LV × Int × Int × LV × LV × LV) ⊕ (Int × Bool × Int × Int × LV × LV × LV × LV × LV × LV))→Option β):Option β:=
 bif decide ((i:Int)<(br.length:Int)) then
  ar br i fun x2=>
  bif (decide (0≤cE))&&((decide (cE≤cE))&&(Nat.ble (((cE:Int).toNat)*8) bM)) then
  (Loop (KK C cE i x2.toInt ((List.replicate ((cE:Int).toNat) (V.int .i64 0)).length:Int) oK oL aM aT bI bE bH cH) (0,nM,nO,nP,nQ,List.replicate ((cE:Int).toNat) (V.int .i64 0),br,bt)).bind (un fun (oF:Int)=>un fun (jE:Bool)=>un fun (EO:Int)=>un fun (abS:Int)=>un fun (abT:LV)=>un fun (abU:LV)=>un fun (abV:LV)=>un fun (vL:LV) (yd:LV)=>
   bif decide (((vL.length:Int):Int)>512) then
    kr (.inl (3,EO,abS,abT,abU,0,0,([]:LV),([]:LV),([]:LV)))
   else
    bif Nat.ble ((cH.length+([.list bJ abV]:LV).length)*24) bM then
    (C tP [V.int .i64 x2.toInt,V.int .i64 EO,V.int .i64 abS,.list au abT,.list ax abU]).bind fun fe=>
    bif Nat.ble ((bH.length+([.bool ((V.nth fe 0).toBool)]:LV).length)*1) bM then
     kn (IntKind.wrap .i64 (i+1),(V.nth (fe.drop 1) 0).toInt,(V.nth ((fe.drop 1).drop 1) 0).toInt,(V.nth (((fe.drop 1).drop 1).drop 1) 0).toList,(V.nth ((((fe.drop 1).drop 1).drop 1).drop 1) 0).toList,vL,yd,bH++([.bool ((V.nth fe 0).toBool)]:LV),cH++([.list bJ abV]:LV))
    else none
    else none)
  else none
 else
  kr (.inr (i,decide ((i:Int)<(br.length:Int)),nM,nO,nP,nQ,br,bt,bH,cH))
noncomputable def KL (C:ab) (cE oK oL aM aT:Int) (bI bE:LV):=un fun i=>un fun nM=>un fun nO=>un fun nP=>un fun nQ=>un fun br=>un fun bt=>un fun bH cH=>EN C cE oK oL aM aT bI bE i nM nO nP nQ br bt bH cH (fun y=>some (Sum.inl y)) (fun r=>some (Sum.inr r))
noncomputable def abW (C:ab):bR:=bd 161 Rq [false,false,false,false,true,true,true,true,true,false,false,false,false,true,false,false,true,true,false,false] [[1,2,3,4,0,0,0,0,0,0,10,11,12,13,0,15,16,0,0,19,20]] (@EM C) (bd 81 Rr [false,true,true,true,true,true,false,false,false,false,false,false,true,true,true,true] [[0,0,0,0,0,0,0,0,0,0],[1,0,0,0,0,0,0,7,8,9,10,11,12,0,0,0,0]] (@EN C) bw)
theorem alb (C:ab):aQ C (abW C) 96 (Lp [1,1,1,1,0,1,0,0,1,0,0,1,1,0,1,0,0] 96):=bc Rq [false,false,false,false,true,true,true,true,true,false,false,false,false,true,false,false,true,true,false,false] [[1,2,3,4,0,0,0,0,0,0,10,11,12,13,0,15,16,0,0,19,20]] (@EM C) (aA ak)
theorem alc (C:ab):aQ C (abW C) 96 (Lp [1,1,1,1,0,1,0,0] 96):=bc Rr [false,true,true,true,true,true,false,false,false,false,false,false,true,true,true,true] [[0,0,0,0,0,0,0,0,0,0],[1,0,0,0,0,0,0,7,8,9,10,11,12,0,0,0,0]] (@EN C) (aA (aO (alb C) ak))
noncomputable def abX (C:ab) (cE start nM nO:Int) (nP nQ:LV):Option LV:=
 (C D2 [V.int .i64 start,.list bJ ([]:LV)]).bind fun r1=>
 (Loop (KL C cE 0 0 cE 0 ([]:LV) ([]:LV)) (0,nM,nO,nP,nQ,(V.nth (r1.drop 1) 0).toList,(V.nth ((r1.drop 1).drop 1) 0).toList,([]:LV),([]:LV))).bind (dI (un fun (EP:Int)=>un fun (ye:Int)=>un fun (ER:Int)=>un fun (Sp:LV)=>un fun (Sq:LV)=>un fun (Sr:Int)=>un fun (ald:Int)=>un fun (ES:LV)=>un fun (Ss:LV) (ale:LV)=>
  some [V.int .i64 Sr,V.int .i64 ald,V.int .i64 EP,V.int .i64 ye,V.int .i64 ER,.list au Sp,.list ax Sq,.list au ES,.list ax Ss,.list bJ ale]) (un fun (sw:Int)=>un fun (abY:Bool)=>un fun (alf:Int)=>un fun (alg:Int)=>un fun (alh:LV)=>un fun (ali:LV)=>un fun (Su:LV)=>un fun (AR:LV)=>un fun (KM:LV) (yf:LV)=>
  some [V.int .i64 cE,V.int .i64 0,V.int .i64 0,V.int .i64 alf,V.int .i64 alg,.list au alh,.list ax ali,.list au KM,.list ax yf,.list bJ Su]))
theorem alj {cE start nM nO:Int} {nP nQ:LV} {r:Option LV} (h:abX CC cE start nM nO nP nQ=r):CC JY [V.int .i64 cE,V.int .i64 start,V.int .i64 nM,V.int .i64 nO,.list au nP,.list ax nQ]=r:=bu (aO (alc CC) ak) h
noncomputable def ET (C:ab) (t31 bf bh EU EV:Int) (ff bI bE br bt:LV) (t32:Int) (numbers:LV) {β:Type} (kn:(Int × LV)→Option β) (kr:(Int × Bool × LV)→Option β):Option β:=
 bif decide ((t32:Int)<t31) then
  ar numbers t32 fun x3=>
  kn (IntKind.wrap .i64 (t32+1),aS numbers t32 (V.int .i64 (-1)))
 else
  kr (t32,decide ((t32:Int)<t31),numbers)
noncomputable def KN (C:ab) (t31 bf bh EU EV:Int) (ff bI bE br bt:LV):=un fun t32 numbers=>ET C t31 bf bh EU EV ff bI bE br bt t32 numbers (fun y=>some (Sum.inl y)) (fun r=>some (Sum.inr r))
noncomputable def EW (C:ab) (t40 bf bh EU EV:Int) (Sv bI bE br bt:LV) (t41:Int) (numbers:LV) {β:Type} (kn:(Int × LV)→Option β) (kr:(Int × Bool × LV)→Option β):Option β:=
 bif decide ((t41:Int)<t40) then
  ar Sv t41 fun x7=>
  bif (decide (0≤x7.toInt))&&(decide (x7.toInt<(numbers.length:Int))) then
  (numbers[(x7.toInt:Int).toNat]?).bind fun x8=>
  kn (IntKind.wrap .i64 (t41+1),aS numbers (x7.toInt) (V.int .i64 t41))
  else none
 else
  kr (t41,decide ((t41:Int)<t40),numbers)
noncomputable def KO (C:ab) (t40 bf bh EU EV:Int) (Sv bI bE br bt:LV):=un fun t41 numbers=>EW C t40 bf bh EU EV Sv bI bE br bt t41 numbers (fun y=>some (Sum.inl y)) (fun r=>some (Sum.inr r))
noncomputable def abZ (C:ab):bR:=bd 97 QU [false,true,false,false,false,false,false,true,false,false,false,false] [[1,0,0,3,4,5,6,7,0,9,10,11,12]] (@ET C) (bd 177 QV [false,true,false,false,false,false,true,false,false,false,false,false] [[1,0,0,3,4,5,6,0,8,9,10,11,12]] (@EW C) bw)
theorem alk (C:ab):aQ C (abZ C) 80 (Lp [1,1,1,1,0,1,0,0] 80):=bc QU [false,true,false,false,false,false,false,true,false,false,false,false] [[1,0,0,3,4,5,6,7,0,9,10,11,12]] (@ET C) (aA ak)
theorem alm (C:ab):aQ C (abZ C) 80 (Lp [1,1,1,1,1,0,1,0,0] 80):=bc QV [false,true,false,false,false,false,true,false,false,false,false,false] [[1,0,0,3,4,5,6,0,8,9,10,11,12]] (@EW C) (aA ak)
noncomputable def ab0 (C:ab) (aB aC:Int) (av aF:LV):Option LV:=
 (C se [V.int .i64 aB,V.int .i64 aC,.list au av,.list ax aF]).bind fun r1=>
 bif (((V.nth r1 0).toInt):Int) != 0 then
  some [V.int .i64 0,V.int .i64 0,.list au ([]:LV),.list ax ([]:LV),.list bJ ([]:LV)]
 else
  (C JY [V.int .i64 aB,V.int .i64 aC,V.int .i64 aB,V.int .i64 aC,.list au av,.list ax aF]).bind fun r2=>
  bif (decide (0≤(((V.nth (((r2.drop 3).drop 1).drop 1) 0).toList).length:Int)))&&((decide ((((V.nth (((r2.drop 3).drop 1).drop 1) 0).toList).length:Int)≤(((V.nth (((r2.drop 3).drop 1).drop 1) 0).toList).length:Int)))&&(Nat.ble ((((((V.nth (((r2.drop 3).drop 1).drop 1) 0).toList).length:Int):Int).toNat)*8) bM)) then
  (Loop (KN C ((List.replicate (((((V.nth (((r2.drop 3).drop 1).drop 1) 0).toList).length:Int):Int).toNat) (V.int .i64 0)).length:Int) 0 0 ((V.nth r2 0).toInt) ((V.nth (r2.drop 1) 0).toInt) ((V.nth ((((r2.drop 3).drop 4).drop 1).drop 1) 0).toList) ([]:LV) ([]:LV) ((V.nth ((r2.drop 3).drop 4) 0).toList) ((V.nth (((r2.drop 3).drop 4).drop 1) 0).toList)) (0,List.replicate (((((V.nth (((r2.drop 3).drop 1).drop 1) 0).toList).length:Int):Int).toNat) (V.int .i64 0))).bind (un fun (jh:Int)=>un fun (lj:Bool) (aln:LV)=>
   (Loop (KO C (((V.nth ((((r2.drop 3).drop 4).drop 1).drop 1) 0).toList).length:Int) 0 0 ((V.nth r2 0).toInt) ((V.nth (r2.drop 1) 0).toInt) ((V.nth ((((r2.drop 3).drop 4).drop 1).drop 1) 0).toList) ([]:LV) ([]:LV) ((V.nth ((r2.drop 3).drop 4) 0).toList) ((V.nth (((r2.drop 3).drop 4).drop 1) 0).toList)) (0,aln)).bind (un fun (sq:Int)=>un fun (AS:Bool) (alo:LV)=>
    some [V.int .i64 ((V.nth r2 0).toInt),V.int .i64 ((V.nth (r2.drop 1) 0).toInt),.list au ((V.nth ((r2.drop 3).drop 4) 0).toList),.list ax ((V.nth (((r2.drop 3).drop 4).drop 1) 0).toList),.list bJ alo]))
  else none
theorem alp {aB aC:Int} {av aF:LV} {r:Option LV} (h:ab0 CC aB aC av aF=r):CC Ax [V.int .i64 aB,V.int .i64 aC,.list au av,.list ax aF]=r:=bu (aO (alk CC) (aO (alm CC) ak)) h
def nV (q:Nat):V:= .int .i64 (q:Int)
def nS (S:List Nat):List V:=S.map nV
def mS (S:List Nat):List V:=gH nV 0 S
theorem AT (a b:Nat):kp (nV a) (nV b)=decide (a=b):=ak5 a b
theorem qV {S:List Nat}:(nS S).length=S.length:=by simp[nS]
theorem AU {S:List Nat} {i:Nat} (h:i<S.length):(nS S)[i]? =some (nV S[i]):=by simp[nS,h]
theorem alq {x:Nat} (hx:x≤1000000):CC D2 [nV x,.list bJ []]=some [nV 0,.list bJ (nS [x]),.list gU (mS [x])]:=by
 refine ak9 ?_
 unfold abQ
 rw[KJ (by omega)]
 exact bT rfl (bT rfl (bT (cap (by simp) (by omega)) rfl))
theorem alr {S:List Nat} {x:Nat} (hx:x≤1000000) (hl:S.length≤1000000):CC O5 [nV x,.list bJ (nS S),.list gU (mS S)]=some [nV ((dw S x).idxOf x),.list gU (mS (dw S x)),.list bJ (nS (dw S x))]:=by
 refine ala ?_
 unfold abR
 have e1:=yc AT x S 0
 rw[KJ (by omega)]
 refine bT rfl ?_
 rw[So]
 by_cases h:x∈S
 ·refine bF (by rw[show gy (.int .i64 (x:Int)) (mS S)=true from e1.trans (b7 h)];rfl) ?_
  have e2:=AO AT x (.int .i64 0) S 0 h
  rw[show jo (.int .i64 (x:Int)) (mS S) (.int .i64 0)=_ from e2,af h,dE,show dw S x=S by unfold dw;rw[af h]]
  rfl
 ·refine bT (by rw[show gy (.int .i64 (x:Int)) (mS S)=false from e1.trans (eB h)];rfl) ?_
  refine bT rfl ?_
  refine bT (cap (by rw[qV];simp;omega) (by omega)) ?_
  have e2:=AP AT x S 0 h
  rw[dE] at e2
  rw[qV,show fL (.int .i64 (x:Int)) (.int .i64 (S.length:Int)) (mS S)=_ from e2,ag h,show dw S x=S++[x] by unfold dw;rw[ag h]]
  simp[nS,nV,mS]
theorem als {a:Da} {q x:Nat} (hq:q<a.n) (hx:x<a.L):CC tO (nV q::nV x::cY a)=some (nV (a.nx q x)::cY a):=by
 refine ak7 ?_
 unfold abO
 refine bs (Da.mO hq) ?_
 rw[nL]
 exact bs (mP hx) rfl
theorem alu {a:Da} {q:Nat} (hq:q<a.n):CC tP (nV q::cY a)=some (.bool (a.fin q)::cY a):=by
 refine ak8 ?_
 unfold abP
 exact bs (Da.vK hq) rfl
section
variable {a:Da} (h:a.Ok)
include h
theorem alv {S U:List Nat} {q:Nat} (hq:q<a.n) (hS: ∀s∈S,s<a.n) (hSn:S.length≤1000) (hp:bD a.nx S q a.L <+: U) {i c1 c2:Int} {l1 l2 l3 l4:List V}:
  Loop (KK CC (a.L:Int) i (q:Int) ((List.replicate (((a.L:Nat):Int).toNat) (V.int .i64 0)).length:Int) c1 c2 (a.L:Int) 0 l1 l2 l3 l4) (0,(a.L:Int),(a.st:Int),a.cG,a.cd,List.replicate (((a.L:Nat):Int).toNat) (V.int .i64 0),nS S,mS S)=
   some ((a.L:Int),false,(a.L:Int),(a.st:Int),a.cG,a.cd,(tab a.L fun x=>nV (U.idxOf (a.nx q x))),nS (bD a.nx S q a.L),mS (bD a.nx S q a.L)):=by
 have h6:=h.l6
 rw[Int.toNat_natCast,oI,cL]
 refine (eW a.L (fun x=>((x:Int),(a.L:Int),(a.st:Int),a.cG,a.cd,(tab a.L fun j=>if j<x then nV (U.idxOf (a.nx q j)) else nV 0),nS (bD a.nx S q x),mS (bD a.nx S q x))) _ (fun x hx=> ?_) ?_)
 ·simp only[KK,EM,un,ar,aS]
  refine bT (cB hx) ?_
  refine bs (als hq hx) ?_
  have hT:(bD a.nx S q x).length≤1000000:=by
   have: ∀x,(bD a.nx S q x).length≤S.length+x:=by
    intro x
    induction x with
    | zero=>exact aw _
    | succ x ih=>rw[bD,qS];split<;>omega
   have:=this x
   omega
  refine bs (alr (S:=bD a.nx S q x) (by have:=h.ej hq hx;have:=h.fc;omega) hT) ?_
  refine (dt hx).trans ?_
  rw[ca (by omega),Int.toNat_natCast,nK]
  have e:(dw (bD a.nx S q x) (a.nx q x)).idxOf (a.nx q x)=U.idxOf (a.nx q x):=(yb ((tZ S q (show x+1≤a.L by omega)).trans hp) xY).symm
  show some (Sum.inl _)=some (Sum.inl _)
  refine congrArg (fun x=>some (Sum.inl x)) ?_
  refine iW rfl (iW rfl (iW rfl (iW rfl (iW rfl (iW ?_ (iW rfl rfl))))))
  refine dZ fun j _=> ?_
  by_cases hj:j=x
  ·rw[af hj,aZ,hj,←e];rfl
  ·rw[ag hj]
   by_cases cK:j<x
   ·rw[af cK,aZ]
   ·rw[ag cK,bK]
 ·simp only[KK,EM,un,ar,aS]
  refine bF (bm (aw _)) ?_
  rw[bm (aw _)]
  have:(tab a.L fun j=>if j<a.L then nV (U.idxOf (a.nx q j)) else nV 0)=tab a.L fun j=>nV (U.idxOf (a.nx q j)):=dZ fun j hj=>af hj
  rw[this]
theorem alw:CC JY ([nV a.L,nV a.st]++cY a)=some ([nV a.L,nV 0,.int .i64 0]++(cY a++[.list au a.trim.cG,.list ax a.trim.cd,.list bJ (nS (ao a.L a.nx a.st a.n))])):=by
 have h6:=h.l6
 have hm:=h.fc
 have hd:=h.lZ a.n
 refine alj ?_
 unfold abX
 refine bs (alq (by have:=h.s;omega)) ?_
 have key:Loop (KL CC (a.L:Int) 0 0 (a.L:Int) 0 ([]:List V) ([]:List V)) (0,(a.L:Int),(a.st:Int),a.cG,a.cd,nS [a.st],mS [a.st],([]:List V),([]:List V))=
   some (.inr (((ao a.L a.nx a.st a.n).length:Int),false,(a.L:Int),(a.st:Int),a.cG,a.cd,nS (ao a.L a.nx a.st a.n),mS (ao a.L a.nx a.st a.n),a.trim.cG,a.trim.cd)):=by
  refine (eW (ao a.L a.nx a.st a.n).length (fun i=>((i:Int),(a.L:Int),(a.st:Int),a.cG,a.cd,nS (ao a.L a.nx a.st i),mS (ao a.L a.nx a.st i),(tab i fun j=>V.bool (a.trim.fin j)),(tab i fun j=>eX a.L (a.trim.nx j)))) _ (fun i hi=> ?_) ?_)
  ·have gl:=AI hd hi
   have yg:(ao a.L a.nx a.st i)[i]=(ao a.L a.nx a.st a.n)[i]:=(lY (show i≤a.n by omega)).getElem gl
   have hq:(ao a.L a.nx a.st a.n)[i]<a.n:=h.vJ _ _ (ep hi)
   have hlen:(ao a.L a.nx a.st i).length≤512:=kh (h.lZ i) hm
   have auo:(ao a.L a.nx a.st (i+1)).length≤512:=kh (h.lZ (i+1)) hm
   have jx:=AJ hd hi
   simp only[KL,EN,un,ar]
   refine bT (b7 (by rw[qV];omega)) ?_
   refine (mM (AU gl)).trans ?_
   refine bT (mN (by omega) (by omega)) ?_
   rw[yg]
   refine bs (alv h hq (h.vJ i) (by omega) (U:=ao a.L a.nx a.st a.n) (by rw[←jx];exact lY (by omega))) ?_
   rw[←jx]
   refine bF (eB (by rw[qV];omega)) ?_
   refine bT (cap (by rw[cL];simp;omega) (by omega)) ?_
   refine bs (alu hq) ?_
   refine bT (cap (by rw[cL];simp;omega) (by omega)) ?_
   rw[ca (by omega),iN,iN]
   have e1:a.trim.fin i=a.fin (ao a.L a.nx a.st a.n)[i]:=ED hi
   have e2:eX a.L (a.trim.nx i)= .list bJ (tab a.L fun x=>nV ((ao a.L a.nx a.st a.n).idxOf (a.nx (ao a.L a.nx a.st a.n)[i] x))):=by
    unfold eX
    refine congrArg _ (dZ fun x hx=> ?_)
    rw[show a.trim.nx i x=_ from ya hi hx];rfl
   rw[e1,e2]
   rfl
  ·simp only[KL,EN,un,ar]
   rw[EE hd,qV]
   refine bF (bm (aw _)) ?_
   rw[bm (aw _)]
   have e3:a.trim.n=(ao a.L a.nx a.st a.n).length:=mK
   unfold Da.cG Da.cd
   rw[e3];rfl
 refine bs key ?_
 rfl
end
def ka (U:List Nat) (n:Nat):List V:=tab n fun q=>if q∈U then nV (U.idxOf q) else .int .i64 (-1)
theorem ab1 {U:List Nat} {n i:Nat} (hU:U.Nodup) (hi:i<U.length):(tab n fun q=>if q∈U.take i then nV (U.idxOf q) else V.int .i64 (-1)).set U[i] (.int .i64 (i:Int))=tab n fun q=>if q∈U.take (i+1) then nV (U.idxOf q) else V.int .i64 (-1):=by
 rw[nK]
 refine dZ fun q _=> ?_
 have e:q∈U.take (i+1)↔q∈U.take i∨q=U[i]:=by rw[zi hi,eP,iA]
 by_cases hq:q=U[i]
 ·rw[af hq,af (e.2 (.inr hq)),hq,hU.idxOf_getElem i hi];rfl
 ·rw[ag hq]
  by_cases h2:q∈U.take i
  ·rw[af h2,af (e.2 (.inl h2))]
  ·rw[ag h2,ag fun h3=>(e.1 h3).elim h2 hq]
theorem ab2 {a:Da} (h:a.Ok):CC Ax (cY a)=some (cY a.trim++[.list bJ (ka (ao a.L a.nx a.st a.n) a.n)]):=by
 have hm:=h.fc
 have hU:=h.vJ a.n
 have hle:=h.lZ a.n
 refine alp ?_
 unfold ab0
 refine bs (AK h) ?_
 refine bF rfl ?_
 refine bs (alw h) ?_
 have e0:((V.nth (((([nV a.L,nV 0,V.int .i64 0]++(cY a++[V.list au a.trim.cG,V.list ax a.trim.cd,V.list bJ (nS (ao a.L a.nx a.st a.n))])).drop 3).drop 1).drop 1) 0).toList)=a.cG:=rfl
 rw[e0,Da.mb]
 refine bT (mN (by omega) (by omega)) ?_
 rw[Int.toNat_natCast,oI,cL]
 generalize hUd:ao a.L a.nx a.st a.n=U at*
 have l1: ∀{c1 c2 c3 c4:Int} {s1 s2 s3 s4 s5:List V},Loop (KN CC (a.n:Int) c1 c2 c3 c4 s1 s2 s3 s4 s5) (0,tab a.n fun _=>V.int .i64 0)=some ((a.n:Int),false,tab a.n fun q=>if q∈U.take 0 then nV (U.idxOf q) else V.int .i64 (-1)):=by
  intro c1 c2 c3 c4 s1 s2 s3 s4 s5
  refine (eW a.n (fun i=>((i:Int),(tab a.n fun j=>if j<i then V.int .i64 (-1) else V.int .i64 0))) _ (fun i hi=> ?_) ?_)
  ·simp only[KN,ET,un,ar,aS]
   refine bT (cB hi) ?_
   refine (dt hi).trans ?_
   rw[ca (by omega),Int.toNat_natCast,nK]
   refine congrArg (fun x=>some (Sum.inl (((i+1:Nat):Int),x))) (dZ fun j _=> ?_)
   by_cases hj:j=i
   ·rw[af hj,aZ]
   ·rw[ag hj]
    by_cases cK:j<i
    ·rw[af cK,aZ]
    ·rw[ag cK,bK]
  ·simp only[KN,ET,un,ar,aS]
   refine bF (bm (aw _)) ?_
   rw[bm (aw _)]
   refine congrArg (fun x=>some (Sum.inr ((a.n:Int),false,x))) (dZ fun j hj=> ?_)
   rw[af hj,List.take_zero,ag (by simp)]
 refine bs l1 ?_
 simp only[un]
 have Sw:U.Nodup:=by rw[←hUd];exact xZ _
 have l2: ∀{c1 c2 c3 c4:Int} {s2 s3 s4 s5:List V},Loop (KO CC ((nS U).length:Int) c1 c2 c3 c4 (nS U) s2 s3 s4 s5) (0,tab a.n fun q=>if q∈U.take 0 then nV (U.idxOf q) else V.int .i64 (-1))=some ((U.length:Int),false,ka U a.n):=by
  intro c1 c2 c3 c4 s2 s3 s4 s5
  rw[qV]
  refine (eW U.length (fun i=>((i:Int),(tab a.n fun q=>if q∈U.take i then nV (U.idxOf q) else V.int .i64 (-1)))) _ (fun i hi=> ?_) ?_)
  ·have hq:=hU U[i] (ep hi)
   simp only[KO,EW,un,ar,aS]
   refine bT (cB hi) ?_
   refine (mM (AU hi)).trans ?_
   refine (dt (i:=U[i]) hq).trans ?_
   rw[ca (by omega)]
   refine congrArg (fun x=>some (Sum.inl (((i+1:Nat):Int),x))) ?_
   exact ab1 Sw hi
  ·simp only[KO,EW,un,ar,aS]
   refine bF (bm (aw _)) ?_
   rw[bm (aw _),oa]
   rfl
 refine bs l2 ?_
 rfl
end Go.AM
set_option maxRecDepth 100000
namespace Go.AM
section
variable {β:Type} [DecidableEq β]
def bA (g:Nat→β):Nat→List β
 | 0=>[]
 | n+1=>dw (bA g n) (g n)
theorem Sy (g:Nat→β): ∀n,(bA g n).Nodup
 | 0=>List.nodup_nil
 | n+1=>abl (Sy g n)
theorem kb {g:Nat→β} {v:β}: ∀{n},v∈bA g n↔∃q,q<n∧g q=v
 | 0=>⟨fun h=>(by cases h),fun ⟨q,h,_⟩=>(by omega)⟩
 | n+1=>by
  have ih:=kb (g:=g) (v:=v) (n:=n)
  rw[bA]
  unfold dw
  constructor
  ·intro h
   split at h
   ·obtain ⟨q,h1,h2⟩:=ih.1 h;exact ⟨q,by omega,h2⟩
   ·rcases eP.1 h with h|h
    ·obtain ⟨q,h1,h2⟩:=ih.1 h;exact ⟨q,by omega,h2⟩
    ·exact ⟨n,by omega,(iA.1 h).symm⟩
  ·rintro ⟨q,h1,h2⟩
   rcases eD q n with c|c
   ·exact (Kz (bA g n) (g n)).subset (ih.2 ⟨q,c,h2⟩)
   ·obtain rfl:q=n:=by omega
    rw[←h2];exact xY
theorem alx {g:Nat→β} {m n:Nat} (h:m≤n):bA g m <+: bA g n:=by
 induction n with
 | zero=>rw[wu.1 h];exact oe _
 | succ n ih=>
  rcases eD m (n+1) with c|c
  ·exact (ih (by omega)).trans (Kz _ _)
  ·rw[show m=n+1 by omega];exact oe _
theorem uf (g:Nat→β): ∀n,(bA g n).length≤n
 | 0=>aw _
 | n+1=>by
  have:=uf g n
  rw[bA,qS]
  split<;>omega
def da (g:Nat→β) (n q:Nat):Nat:=(bA g n).idxOf (g q)
theorem EX {g:Nat→β} {n q:Nat} (h:q<n):da g n q<(bA g n).length:=wx (kb.2 ⟨q,h,rfl⟩)
theorem EY {g:Nat→β} {n p q:Nat} (hp:p<n) (hq:q<n):da g n p=da g n q↔g p=g q:=by
 constructor
 ·intro h
  have h1:=List.getElem_idxOf (EX (g:=g) hp)
  have h2:=List.getElem_idxOf (EX (g:=g) hq)
  rw[←h1,←h2]
  exact getElem_congr_idx h
 ·intro h;unfold da;rw[h]
theorem EZ {g:Nat→β} {m n q:Nat} (h:q<m) (hm:m≤n):da g n q=da g m q:=yb (alx hm) (kb.2 ⟨q,h,rfl⟩)
theorem Sz {g:Nat→β} {q:Nat} (h:g q∈bA g q):bA g (q+1)=bA g q:=by rw[bA];unfold dw;rw[af h]
theorem KP {g:Nat→β} {q:Nat} (h:g q∉bA g q):bA g (q+1)=bA g q++[g q]:=by rw[bA];unfold dw;rw[ag h]
theorem ab3 {g:Nat→β} {n q:Nat} (hq:q<n) (h:g q∈bA g q):da g n q=(bA g q).idxOf (g q):=by
 rw[EZ (show q<q+1 by omega) (by omega)]
 unfold da
 rw[Sz h]
theorem ab4 {g:Nat→β} {n q:Nat} (hq:q<n) (h:g q∉bA g q):da g n q=(bA g q).length:=by
 rw[EZ (show q<q+1 by omega) (by omega)]
 unfold da
 rw[KP h,wv,ag h]
 simp
def pK (p:Nat→Nat) (n:Nat):Prop:= ∀m,m≤n→bA p m=List.range (bA p m).length
theorem ab5 (g:Nat→β) (n:Nat): ∀m,m≤n→bA (da g n) m=List.range (bA g m).length:=by
 intro m
 induction m with
 | zero=>intro _;rfl
 | succ m ih=>
  intro hm
  have ih:=ih (by omega)
  have e1:da g n m=da g (m+1) m:=EZ (by omega) hm
  have e2:da g (m+1) m=if g m∈bA g m then (bA g m).idxOf (g m) else (bA g m).length:=by
   unfold da
   rw[bA]
   unfold dw
   split
   ·rfl
   ·rename_i h
    rw[wv,ag h]
    simp
  rw[bA,ih,bA,qS]
  unfold dw
  by_cases h:g m∈bA g m
  ·have:=wx h
   rw[af h] at e2
   rw[af h,af (by rw[e1,e2];exact ia.2 this)]
  ·rw[ag h] at e2
   rw[ag h,ag (by rw[e1,e2];simp),e1,e2,sO]
theorem SA (g:Nat→β) (n:Nat):pK (da g n) n:=fun m hm=>by
 rw[ab5 g n m hm,Hr]
theorem SB {γ:Type} [DecidableEq γ] {f:Nat→β} {c:Nat→γ} {n:Nat} (hr: ∀q q',q<n→q'<n→f q=f q'→c q=c q') (hl:(bA f n).length≤(bA c n).length):
  ∀q q',q<n→q'<n→c q=c q'→f q=f q':=by
 intro q q' hq cQ hc
 refine Decidable.byContradiction fun hf=> ?_
 have rep: ∀v∈bA f n,∃q,q<n∧f q=v:=fun v hv=>kb.1 hv
 have: ∃R:β→Nat,∀v∈bA f n,R v<n∧f (R v)=v:=by
  classical
  refine ⟨fun v=>if h:v∈bA f n then Classical.choose (rep v h) else 0,fun v hv=> ?_⟩
  simp only[hv,qb]
  exact Classical.choose_spec (rep v hv)
 obtain ⟨R,hR⟩:=this
 have jA:bA c n ⊆ ((bA f n).filter fun v=>decide (v≠f q')).map fun v=>c (R v):=by
  intro u hu
  obtain ⟨s,hs,rfl⟩:=kb.1 hu
  by_cases h:f s=f q'
  ·refine gf.2 ⟨f q,List.mem_filter.2 ⟨kb.2 ⟨q,hq,rfl⟩,b7 hf⟩,?_⟩
   have h1:=hR (f q) (kb.2 ⟨q,hq,rfl⟩)
   rw[hr _ _ h1.1 hq h1.2,hc,hr _ _ hs cQ h]
  ·refine gf.2 ⟨f s,List.mem_filter.2 ⟨kb.2 ⟨s,hs,rfl⟩,b7 h⟩,?_⟩
   have h1:=hR (f s) (kb.2 ⟨s,hs,rfl⟩)
   exact hr _ _ h1.1 hs h1.2
 have h1:=List.Nodup.length_le_of_subset (Sy c n) jA
 rw[bX] at h1
 have h2:((bA f n).filter fun v=>decide (v≠f q')).length<(bA f n).length:=by
  have hm:f q'∈bA f n:=kb.2 ⟨q',cQ,rfl⟩
  have bx:=List.length_filter_lt_length_iff_exists (p:=fun v=>decide (v≠f q')) (l:=bA f n)
  exact bx.2 ⟨f q',hm,by simp⟩
 omega
theorem ab6 {γ:Type} [DecidableEq γ] {f:Nat→β} {c:Nat→γ} {n:Nat} (hr: ∀q q',q<n→q'<n→f q=f q'→c q=c q'):(bA c n).length≤(bA f n).length:=by
 rcases eD (bA f n).length (bA c n).length with h|h
 ·have:=SB hr (by omega)
  have rep: ∀v∈bA f n,∃q,q<n∧f q=v:=fun v hv=>kb.1 hv
  have: ∃R:β→Nat,∀v∈bA f n,R v<n∧f (R v)=v:=by
   classical
   refine ⟨fun v=>if h:v∈bA f n then Classical.choose (rep v h) else 0,fun v hv=> ?_⟩
   simp only[hv,qb]
   exact Classical.choose_spec (rep v hv)
  obtain ⟨R,hR⟩:=this
  have jA:bA c n ⊆ (bA f n).map fun v=>c (R v):=by
   intro u hu
   obtain ⟨s,hs,rfl⟩:=kb.1 hu
   have h1:=hR (f s) (kb.2 ⟨s,hs,rfl⟩)
   exact gf.2 ⟨f s,kb.2 ⟨s,hs,rfl⟩,hr _ _ h1.1 hs h1.2⟩
  have h1:=List.Nodup.length_le_of_subset (Sy c n) jA
  rw[bX] at h1
  omega
 ·exact h
theorem aly {γ:Type} [DecidableEq γ] {f:Nat→β} {c:Nat→γ} {n:Nat} (h: ∀q q',q<n→q'<n→(f q=f q'↔c q=c q')): ∀q,q<n→da f n q=da c n q:=by
 have key: ∀m,m≤n→(bA f m).length=(bA c m).length∧∀q,q<m→da f m q=da c m q:=by
  intro m
  induction m with
  | zero=>intro _;exact ⟨rfl,fun q hq=>by omega⟩
  | succ m ih=>
   intro hm
   obtain ⟨i1,i2⟩:=ih (by omega)
   have mB:f m∈bA f m↔c m∈bA c m:=by
    rw[kb,kb]
    exact ⟨fun ⟨q,h1,h2⟩=>⟨q,h1,(h q m (by omega) (by omega)).1 h2⟩,fun ⟨q,h1,h2⟩=>⟨q,h1,(h q m (by omega) (by omega)).2 h2⟩⟩
   refine ⟨?_,fun q hq=> ?_⟩
   ·rw[bA,bA,qS,qS,i1]
    by_cases hx:f m∈bA f m
    ·rw[af hx,af (mB.1 hx)]
    ·rw[ag hx,ag fun h=>hx (mB.2 h)]
   ·rcases eD q m with c1|c1
    ·exact (EZ (g:=f) c1 (by omega)).trans ((i2 q c1).trans (EZ (g:=c) c1 (by omega)).symm)
    ·obtain rfl:q=m:=by omega
     unfold da
     rw[bA,bA]
     by_cases hx:f q∈bA f q
     ·obtain ⟨r,h1,h2⟩:=kb.1 hx
      have h3:=(h r q (by omega) (by omega)).1 h2
      have:=i2 r h1
      unfold da at this
      unfold dw
      rw[af hx,af (mB.1 hx),←h2,←h3,this]
     ·unfold dw
      rw[ag hx,ag fun h=>hx (mB.2 h),wv,wv,ag hx,ag fun h=>hx (mB.2 h)]
      simp[i1]
 exact (key n (aw _)).2
end
namespace Da
structure Part (a:Da) (c:Nat→Nat):Prop where
 coarse: ∀q q',q<a.n→q'<a.n→a.pI q a q'→c q=c q'
 fin: ∀q q',q<a.n→q'<a.n→c q=c q'→a.fin q=a.fin q'
def sig (a:Da) (c:Nat→Nat) (q:Nat):List Nat:=c q::(List.range a.L).map fun x=>c (a.nx q x)
theorem yh {a:Da} {c:Nat→Nat} {q q':Nat}:a.sig c q=a.sig c q'↔c q=c q'∧∀x,x<a.L→c (a.nx q x)=c (a.nx q' x):=by
 unfold sig
 rw[zf]
 refine and_congr Iff.rfl ⟨fun h x hx=> ?_,fun h=>oZ fun x hx=>h x (ia.1 hx)⟩
 have:=congrArg (fun l=>l.getD x 0) h
 simpa[hx] using this
def KQ (a:Da) (c f:Nat→Nat):Prop:= ∀q q',q<a.n→q'<a.n→(f q=f q'↔a.sig c q=a.sig c q')
theorem KQ.part {a:Da} {c f:Nat→Nat} (h:a.KQ c f) (ha:a.Ok) (hc:a.Part c):a.Part f where
 coarse q q' hq cQ he:=(h q q' hq cQ).2 (yh.2 ⟨hc.coarse q q' hq cQ he,fun x hx=>hc.coarse _ _ (ha.ej hq hx) (ha.ej cQ hx) (he.nx hx)⟩)
 fin q q' hq cQ he:=hc.fin q q' hq cQ (yh.1 ((h q q' hq cQ).1 he)).1
def yi (a:Da) (p:Nat→Nat):Prop:=(∀q q',q<a.n→q'<a.n→(p q=p q'↔a.pI q a q'))∧pK p a.n
theorem Part.ab7 {a:Da} {c:Nat→Nat} (hc:a.Part c) (ha:a.Ok) (hs: ∀q q',q<a.n→q'<a.n→c q=c q'→a.sig c q=a.sig c q'): ∀q q',q<a.n→q'<a.n→(c q=c q'↔a.pI q a q'):=by
 intro q q' hq cQ
 refine ⟨fun h w=> ?_,hc.coarse q q' hq cQ⟩
 induction w generalizing q q' with
 | nil=>intro _;rw[pJ,pJ];exact hc.fin q q' hq cQ h
 | cons x w ih=>
  intro hw
  rw[Ky,Ky]
  exact ih _ _ (ha.ej hq hw.head) (ha.ej cQ hw.head) ((yh.1 (hs q q' hq cQ h)).2 x hw.head) hw.tail
def ez (p:Nat→Nat):Nat→List Nat
 | 0=>[]
 | n+1=>if p n∈bA p n then ez p n else ez p n++[n]
theorem KR {p:Nat→Nat}: ∀n,(ez p n).map p=bA p n
 | 0=>rfl
 | n+1=>by
  rw[ez,bA]
  unfold dw
  split
  ·exact KR n
  ·rw[nd,KR n];rfl
theorem AV {p:Nat→Nat} {n:Nat}:(ez p n).length=(bA p n).length:=by rw[←KR,bX]
theorem yj {p:Nat→Nat}: ∀{n q},q∈ez p n→q<n
 | 0,q,h=>by cases h
 | n+1,q,h=>by
  rw[ez] at h
  split at h
  ·have:=yj h;omega
  ·rcases eP.1 h with h|h
   ·have:=yj h;omega
   ·rw[iA.1 h];omega
theorem AW {p:Nat→Nat} {n:Nat} (ho:pK p n) {c:Nat} (hc:c<(ez p n).length):p (ez p n)[c]=c:=by
 have h1:=ho n (aw _)
 have h2:((ez p n).map p)[c]? =some c:=by rw[KR,h1,BX (by rw[AV] at hc;exact hc)]
 rw[eZ,bU hc] at h2
 exact dD h2
theorem E0 {p:Nat→Nat} {n q:Nat} (ho:pK p n) (hq:q<n):p q<(ez p n).length:=by
 have h1:p q∈bA p n:=kb.2 ⟨q,hq,rfl⟩
 rw[ho n (aw _),ia] at h1
 rw[AV];exact h1
def quo (a:Da) (p:Nat→Nat):Da where
 L:=a.L
 st:=p a.st
 F:=(ez p a.n).map a.fin
 N:=(ez p a.n).map fun q=>tab a.L fun x=>p (a.nx q x)
theorem ug {a:Da} {p:Nat→Nat}:(a.quo p).n=(ez p a.n).length:=by simp[quo,n]
theorem ab8 {a:Da} {p:Nat→Nat} {c:Nat} (hc:c<(ez p a.n).length):(a.quo p).fin c=a.fin (ez p a.n)[c]:=by
 show ((ez p a.n).map a.fin).getD c false=_
 rw[gV (by simpa using hc),List.getElem_map]
theorem ab9 {a:Da} {p:Nat→Nat} {c x:Nat} (hc:c<(ez p a.n).length) (hx:x<a.L):(a.quo p).nx c x=p (a.nx (ez p a.n)[c] x):=by
 show (((ez p a.n).map fun q=>tab a.L fun x=>p (a.nx q x)).getD c []).getD x 0=_
 rw[gV (l:=(ez p a.n).map fun q=>tab a.L fun x=>p (a.nx q x)) (by simpa using hc),List.getElem_map,ua hx]
section
variable {a:Da} {p:Nat→Nat} (ha:a.Ok) (hp:a.yi p)
include ha hp
theorem KS:(a.quo p).Ok where
 l1:=ha.l1
 l6:=ha.l6
 nN:=by rw[ug];simp[quo]
 row r hr:=by
  rw[ug]
  obtain ⟨q,hq,rfl⟩:=gf.1 (show r∈(ez p a.n).map _ from hr)
  refine ⟨by simp[quo],fun s hs=> ?_⟩
  obtain ⟨x,hx,rfl⟩:=oJ.1 hs
  exact E0 hp.2 (ha.ej (yj hq) hx)
 s:=by rw[ug];exact E0 hp.2 ha.s
 fc:=by
  rw[ug,AV]
  have:=uf p a.n
  have:=ha.fc
  omega
theorem KT: ∀(w:List Nat) {q:Nat},q<a.n→WL a.L w→(a.quo p).acc (p q) w=a.acc q w
 | [],q,hq,_=>by
  have hc:=E0 hp.2 hq
  rw[pJ,pJ,ab8 hc]
  have h1:=(hp.1 _ _ (yj (ep hc)) hq).1 (AW hp.2 hc)
  have:=h1 [] WL.nil
  rwa [pJ,pJ] at this
 | x::w,q,hq,hw=>by
  have hc:=E0 hp.2 hq
  have hr:=yj (ep hc)
  have h1:=(hp.1 _ _ hr hq).1 (AW hp.2 hc)
  have h2:=(hp.1 _ _ (ha.ej hr hw.head) (ha.ej hq hw.head)).2 (h1.nx hw.head)
  rw[Ky,Ky,ab9 hc hw.head,h2]
  exact KT w (ha.ej hq hw.head) hw.tail
theorem alz: ∀c d,c<(a.quo p).n→d<(a.quo p).n→(a.quo p).pI c (a.quo p) d→c=d:=by
 intro c d hc hd he
 rw[ug] at hc hd
 have r1:=yj (ep hc)
 have r2:=yj (ep hd)
 rw[←AW hp.2 hc,←AW hp.2 hd]
 refine (hp.1 _ _ r1 r2).2 fun w hw=> ?_
 rw[←KT ha hp w r1 hw,←KT ha hp w r2 hw,AW hp.2 hc,AW hp.2 hd]
 exact he w hw
theorem SC:(a.quo p).trim.Canon a.L (a.acc a.st):=by
 have h:=(KS ha hp).aky (alz ha hp)
 exact ⟨h.ok,h.hL,h.st,h.num,h.red,fun w hw=>(h.nJ w hw).trans (KT ha hp w ha.s hw)⟩
end
end Da
end Go.AM
set_option maxRecDepth 100000
namespace Go.AM
open Go.Proofs
noncomputable def E1 (C:ab) (t24:LV) (t25 aM aT:Int) (aY aX:LV) (count t26:Int) (dS:LV) {β:Type} (kn:(Int × Int × LV)→Option β) (kr:(Int × Int × Bool × LV)→Option β):Option β:=
 bif decide ((t26:Int)<t25) then
  (idx t24 t26).bind fun x2=>
  (aY[0]?).bind fun x3=>
  bif !(x2.toBool==x3.toBool) then
  ar dS t26 fun x4=>
  kn (2,IntKind.wrap .i64 (t26+1),aS dS t26 (V.int .i64 1))
  else
  kn (count,IntKind.wrap .i64 (t26+1),dS)
 else
  kr (count,t26,decide ((t26:Int)<t25),dS)
noncomputable def KU (C:ab) (t24:LV) (t25 aM aT:Int) (aY aX:LV):=un fun count=>un fun t26 dS=>E1 C t24 t25 aM aT aY aX count t26 dS (fun y=>some (Sum.inl y)) (fun r=>some (Sum.inr r))
noncomputable def E2 (C:ab) (count q:Int) (t46:LV) (t47 t48:Int) (t58:LV) (t59 aM aT:Int) (aY aX dS numbers qW:LV) (t60 KV KW KX KY KZ K0 K1:Int) {β:Type} (kn:(Int × Int × Int × Int × Int × Int × Int × Int)→Option β) (kr:(Int × Bool × Int × Int × Int × Int × Int × Int × Int)→Option β):Option β:=
 bif decide ((t60:Int)<t59) then
  (idx t58 t60).bind fun iM=>
  bif (decide (0≤iM.toInt))&&(decide (iM.toInt<(dS.length:Int))) then
  (dS[(iM.toInt:Int).toNat]?).bind fun oG=>
  bif (decide (0≤(IntKind.wrap .i64 (1+t60))))&&(decide ((IntKind.wrap .i64 (1+t60))<7)) then
   bif Nat.blt (0+(((IntKind.wrap .i64 (1+t60):Int).toNat)*1)) 7 then
   kn (IntKind.wrap .i64 (t60+1),bif Nat.beq (0+(((IntKind.wrap .i64 (1+t60):Int).toNat)*1)) 0 then oG.toInt else KV,bif Nat.beq (0+(((IntKind.wrap .i64 (1+t60):Int).toNat)*1)) 1 then oG.toInt else KW,bif Nat.beq (0+(((IntKind.wrap .i64 (1+t60):Int).toNat)*1)) 2 then oG.toInt else KX,bif Nat.beq (0+(((IntKind.wrap .i64 (1+t60):Int).toNat)*1)) 3 then oG.toInt else KY,bif Nat.beq (0+(((IntKind.wrap .i64 (1+t60):Int).toNat)*1)) 4 then oG.toInt else KZ,bif Nat.beq (0+(((IntKind.wrap .i64 (1+t60):Int).toNat)*1)) 5 then oG.toInt else K0,bif Nat.beq (0+(((IntKind.wrap .i64 (1+t60):Int).toNat)*1)) 6 then oG.toInt else K1)
   else none
  else none
  else none
 else
  kr (t60,decide ((t60:Int)<t59),KV,KW,KX,KY,KZ,K0,K1)
noncomputable def K3 (C:ab) (count q:Int) (t46:LV) (t47 t48:Int) (t58:LV) (t59 aM aT:Int) (aY aX dS numbers qW:LV):=un fun t60=>un fun KV=>un fun KW=>un fun KX=>un fun KY=>un fun KZ=>un fun K0 K1=>E2 C count q t46 t47 t48 t58 t59 aM aT aY aX dS numbers qW t60 KV KW KX KY KZ K0 K1 (fun y=>some (Sum.inl y)) (fun r=>some (Sum.inr r))
noncomputable def E3 (C:ab) (count:Int) (t46:LV) (t47 aM aT:Int) (aY aX dS:LV) (t48:Int) (numbers qW:LV) {β:Type} (kn:(Int × LV × LV)→Option β) (kr:(Int × Bool × LV × LV)→Option β):Option β:=
 bif decide ((t48:Int)<t47) then
  (idx t46 t48).bind fun x9=>
  ar dS t48 fun j8=>
  (Loop (K3 C count t48 t46 t47 t48 x9.toList (x9.toList.length:Int) aM aT aY aX dS numbers qW) (0,j8.toInt,0,0,0,0,0,0)).bind (un fun (pH:Int)=>un fun (sm:Bool)=>un fun (E4:Int)=>un fun (E5:Int)=>un fun (E6:Int)=>un fun (E7:Int)=>un fun (E8:Int)=>un fun (E9:Int) (Fa:Int)=>
   bif (dz .i64 E4&&(dz .i64 E5&&(dz .i64 E6&&(dz .i64 E7&&(dz .i64 E8&&(dz .i64 E9&&(dz .i64 Fa&&true)))))))&&true then
   bif !(gy (.agg [V.int .i64 E4,V.int .i64 E5,V.int .i64 E6,V.int .i64 E7,V.int .i64 E8,V.int .i64 E9,V.int .i64 Fa]) numbers) then
    bif (dz .i64 E4&&(dz .i64 E5&&(dz .i64 E6&&(dz .i64 E7&&(dz .i64 E8&&(dz .i64 E9&&(dz .i64 Fa&&true)))))))&&true then
    ar qW t48 fun x22=>
    kn (IntKind.wrap .i64 (t48+1),fL (.agg [V.int .i64 E4,V.int .i64 E5,V.int .i64 E6,V.int .i64 E7,V.int .i64 E8,V.int .i64 E9,V.int .i64 Fa]) (V.int .i64 (numbers.length:Int)) numbers,aS qW t48 (V.int .i64 (numbers.length:Int)))
    else none
   else
    ar qW t48 fun Fb=>
    kn (IntKind.wrap .i64 (t48+1),numbers,aS qW t48 (V.int .i64 ((jo (.agg [V.int .i64 E4,V.int .i64 E5,V.int .i64 E6,V.int .i64 E7,V.int .i64 E8,V.int .i64 E9,V.int .i64 Fa]) numbers (V.int .i64 0)).toInt)))
   else none)
 else
  kr (t48,decide ((t48:Int)<t47),numbers,qW)
noncomputable def K4 (C:ab) (count:Int) (t46:LV) (t47 aM aT:Int) (aY aX dS:LV):=un fun t48=>un fun numbers qW=>E3 C count t46 t47 aM aT aY aX dS t48 numbers qW (fun y=>some (Sum.inl y)) (fun r=>some (Sum.inr r))
noncomputable def Fc (C:ab) (aM aT:Int) (aY aX:LV) (count:Int) (dS:LV) {β:Type} (kn:(Int × LV)→Option β) (kr:LV→Option β):Option β:=
 bif (decide (0≤(dS.length:Int)))&&((decide ((dS.length:Int)≤(dS.length:Int)))&&(Nat.ble ((((dS.length:Int):Int).toNat)*8) bM)) then
  (Loop (K4 C count aX (aX.length:Int) aM aT aY aX dS) (0,([]:LV),List.replicate (((dS.length:Int):Int).toNat) (V.int .i64 0))).bind (un fun (aup:Int)=>un fun (SD:Bool)=>un fun (aca:LV) (acb:LV)=>
   bif ((aca.length:Int):Int)==count then
   kr acb
   else
   kn ((aca.length:Int),acb))
 else none
noncomputable def Fe (C:ab) (aM aT:Int) (aY aX:LV):=un fun count dS=>Fc C aM aT aY aX count dS (fun y=>some (Sum.inl y)) (fun r=>some (Sum.inr r))
noncomputable def K5 (C:ab):bR:=bd 81 QW [true,false,false,true,false,false,false,false,true] [[0,2,3,0,0,5,6,7,8,0]] (@E1 C) (bd 273 QX [false,false,false,false,false,false,false,true,false,false,false,false,false,false,false,true,true,true,true,true,true,true] [[1,2,3,4,5,6,7,0,0,9,10,11,12,13,14,15,0,0,0,0,0,0,0]] (@E2 C) (bd 209 QY [false,false,false,true,false,false,false,false,false,true,true] [[1,2,3,0,0,5,6,7,8,9,0,0]] (@E3 C) (bd 161 QZ [true,false,false,false,false,true] [[0]] (@Fc C) bw)))
theorem alA (C:ab):aQ C (K5 C) 81 (Lp [1,1,1,0,1,0,0] 81):=bc QW [true,false,false,true,false,false,false,false,true] [[0,2,3,0,0,5,6,7,8,0]] (@E1 C) (aA ak)
theorem alB (C:ab):aQ C (K5 C) 81 (Lp [1,1,1,1,0,0,0,1,1,0,1,0,0,1,1,0,0,1,1,0,1,0,0] 81):=bc QX [false,false,false,false,false,false,false,true,false,false,false,false,false,false,false,true,true,true,true,true,true,true] [[1,2,3,4,5,6,7,0,0,9,10,11,12,13,14,15,0,0,0,0,0,0,0]] (@E2 C) (aA ak)
theorem alC (C:ab):aQ C (K5 C) 81 (Lp [1,1,1,1,0,0,0,1,1,0,1,0,0] 81):=bc QY [false,false,false,true,false,false,false,false,false,true,true] [[1,2,3,0,0,5,6,7,8,9,0,0]] (@E3 C) (aA (aO (alB C) ak))
theorem alD (C:ab):aQ C (K5 C) 81 (Lp [1,1,1,1,0,0] 81):=bc QZ [true,false,false,false,false,true] [[0]] (@Fc C) (aA (aO (alC C) ak))
noncomputable def acd (C:ab) (aB aC:Int) (av aF:LV):Option LV:=
 (C se [V.int .i64 aB,V.int .i64 aC,.list au av,.list ax aF]).bind fun r1=>
 bif (((V.nth r1 0).toInt):Int) != 0 then
  some [.list bJ ([]:LV)]
 else
  bif (decide (0≤(av.length:Int)))&&((decide ((av.length:Int)≤(av.length:Int)))&&(Nat.ble ((((av.length:Int):Int).toNat)*8) bM)) then
  (Loop (KU C av (av.length:Int) aB aC av aF) (1,0,List.replicate (((av.length:Int):Int).toNat) (V.int .i64 0))).bind (un fun (alE:Int)=>un fun (oF:Int)=>un fun (jE:Bool) (alF:LV)=>
   (Loop (Fe C aB aC av aF) (alE,alF)).bind (fun (alG:LV)=>
    some [.list bJ alG]))
  else none
theorem alH {aB aC:Int} {av aF:LV} {r:Option LV} (h:acd CC aB aC av aF=r):CC JM [V.int .i64 aB,V.int .i64 aC,.list au av,.list ax aF]=r:=bu (aO (alA CC) (aO (alD CC) ak)) h
def eo (a:Da) (c:Nat→Nat) (q t j:Nat):Nat:=if j=0 then c q else if j≤t then c (a.nx q (j-1)) else 0
def eb (a:Da) (c:Nat→Nat) (q:Nat):List Nat:=tab 7 (eo a c q a.L)
def Ff (s:List Nat):V:= .agg (s.map nV)
theorem ace: ∀s t:List Nat,rC (s.map nV) (t.map nV)=decide (s=t)
 | [],[]=>rfl
 | [],b::t=>rfl
 | a::s,[]=>rfl
 | a::s,b::t=>by
  simp only[ki,rC]
  rw[ace s t,od]
  simp only[nV,uR]
  simp only[bn,nc,dW,zf]
  exact and_congr (by omega) Iff.rfl
theorem SF (s t:List Nat):kp (Ff s) (Ff t)=decide (s=t):=ace s t
theorem SG {a:Da} (h:a.Ok) {c:Nat→Nat} {q q':Nat}:eb a c q=eb a c q'↔a.sig c q=a.sig c q':=by
 rw[Da.yh]
 have h6:=h.l6
 constructor
 ·intro e
  have g:=fun j (hj:j<7)=>congrArg (fun l:List Nat=>l.getD j 0) e
  unfold eb at g
  refine ⟨?_,fun x hx=> ?_⟩
  ·have:=g 0 (by omega)
   rw[ua (by omega),ua (by omega)] at this
   exact this
  ·have:=g (x+1) (by omega)
   rw[ua (by omega),ua (by omega)] at this
   unfold eo at this
   rwa [ag (by omega),af (by omega),ag (by omega),af (by omega)] at this
 ·rintro ⟨h1,h2⟩
  refine dZ fun j _=> ?_
  unfold eo
  by_cases hj:j=0
  ·rw[af hj,af hj,h1]
  ·rw[ag hj,ag hj]
   by_cases cK:j≤a.L
   ·rw[af cK,af cK,h2 (j-1) (by omega)]
   ·rw[ag cK,ag cK]
theorem yk {a:Da} {c:Nat→Nat} {q t:Nat} (j:Nat):(bif Nat.beq (0+(t+1)*1) j then ((c (a.nx q t):Nat):Int) else ((eo a c q t j:Nat):Int))=((eo a c q (t+1) j:Nat):Int):=by
 by_cases hj:t+1=j
 ·rw[show Nat.beq (0+(t+1)*1) j=true from by rw[bB];omega,cond_true,←hj]
  unfold eo
  rw[bK,aZ]
  rfl
 ·rw[show Nat.beq (0+(t+1)*1) j=false from by rw[←Bool.not_eq_true,bB];omega,cond_false]
  unfold eo
  by_cases h0:j=0
  ·rw[af h0,af h0]
  ·rw[ag h0,ag h0]
   by_cases h1:j≤t
   ·rw[af h1,aZ]
   ·rw[ag h1,bK]
def cV (n:Nat) (c:Nat→Nat):List V:=tab n fun q=>nV (c q)
section
variable {a:Da} (h:a.Ok) {c:Nat→Nat}
include h
theorem alI {q:Nat} (hq:q<a.n) {k1 k2 k3 k4 k5 k6:Int} {l1 l2 l3 l4 l5:List V}:
  Loop (K3 CC k1 k2 l1 k3 k4 (tab a.L fun x=>iV (a.nx q x)) ((tab a.L fun x=>iV (a.nx q x)).length:Int) k5 k6 l2 l3 (cV a.n c) l4 l5) (0,(c q:Int),0,0,0,0,0,0)=
   some ((a.L:Int),false,(eo a c q a.L 0:Int),(eo a c q a.L 1:Int),(eo a c q a.L 2:Int),(eo a c q a.L 3:Int),(eo a c q a.L 4:Int),(eo a c q a.L 5:Int),(eo a c q a.L 6:Int)):=by
 have h6:=h.l6
 rw[cL]
 refine (eW a.L (fun t=>((t:Int),(eo a c q t 0:Int),(eo a c q t 1:Int),(eo a c q t 2:Int),(eo a c q t 3:Int),(eo a c q t 4:Int),(eo a c q t 5:Int),(eo a c q t 6:Int))) _ (fun t ht=> ?_) ?_)
 ·simp only[K3,E2,un]
  refine bT (cB ht) ?_
  refine bs (mP ht) ?_
  refine (dt (i:=a.nx q t) (h.ej hq ht)).trans ?_
  have w:IntKind.wrap .i64 (1+(t:Int))=((t+1:Nat):Int):=by rw[dr];omega
  rw[w,ca (by omega),Int.toNat_natCast]
  refine bT (jP.2 ⟨b7 (by omega),b7 (by omega)⟩) ?_
  refine bT (show Nat.ble (0+(t+1)*1+1) 7=true by rw[fC];omega) ?_
  show some (Sum.inl _)=some (Sum.inl _)
  refine congrArg (fun x=>some (Sum.inl x)) ?_
  exact iW rfl (iW (yk 0) (iW (yk 1) (iW (yk 2) (iW (yk 3) (iW (yk 4) (iW (yk 5) (yk 6)))))))
 ·simp only[K3,E2,un]
  refine bF (bm (aw _)) ?_
  rw[bm (aw _)]
theorem alJ (hc: ∀q,q<a.n→c q≤1000) {q:Nat} (hq:q<a.n) (j:Nat):eo a c q a.L j≤1000:=by
 unfold eo
 split
 ·exact hc q hq
 ·split
  ·exact hc _ (h.ej hq (by omega))
  ·omega
theorem alK (hc: ∀q,q<a.n→c q≤1000) {k1 k2 k3:Int} {l2:List V}:
  Loop (K4 CC k1 a.cd (a.cd.length:Int) k2 k3 l2 a.cd (cV a.n c)) (0,([]:List V),List.replicate ((((cV a.n c).length:Int):Int).toNat) (V.int .i64 0))=
   some ((a.n:Int),false,gH Ff 0 (bA (eb a c) a.n),cV a.n (da (eb a c) a.n)):=by
 have hm:=h.fc
 have hl:(cV a.n c).length=a.n:=by simp[cV]
 rw[hl,Int.toNat_natCast,oI,Da.Sn]
 refine (eW a.n (fun i=>((i:Int),gH Ff 0 (bA (eb a c) i),(tab a.n fun q=>if q<i then nV (da (eb a c) a.n q) else nV 0))) _ (fun q hq=> ?_) ?_)
 ·have hle:=uf (eb a c) q
  simp only[K4,E3,un,ar,aS]
  refine bT (cB hq) ?_
  refine bs (Da.mO hq) ?_
  refine (dt (i:=q) hq).trans ?_
  simp only[nL]
  refine bs (alI h hq) ?_
  have k0:=alJ h hc hq
  have kk: ∀j,dz .i64 ((eo a c q a.L j:Nat):Int)=true:=fun j=>KJ (by have:=k0 j;omega)
  have acf:((dz .i64 ((eo a c q a.L 0:Nat):Int)&&(dz .i64 ((eo a c q a.L 1:Nat):Int)&&(dz .i64 ((eo a c q a.L 2:Nat):Int)&&(dz .i64 ((eo a c q a.L 3:Nat):Int)&&(dz .i64 ((eo a c q a.L 4:Nat):Int)&&(dz .i64 ((eo a c q a.L 5:Nat):Int)&&(dz .i64 ((eo a c q a.L 6:Nat):Int)&&true)))))))&&true)=true:=by
   simp only[kk,BR]
  refine bT acf ?_
  have ek:V.agg [V.int .i64 (eo a c q a.L 0:Int),V.int .i64 (eo a c q a.L 1:Int),V.int .i64 (eo a c q a.L 2:Int),V.int .i64 (eo a c q a.L 3:Int),V.int .i64 (eo a c q a.L 4:Int),V.int .i64 (eo a c q a.L 5:Int),V.int .i64 (eo a c q a.L 6:Int)]=Ff (eb a c q):=rfl
  simp only[un,ek]
  have e1:=yc SF (eb a c q) (bA (eb a c) q) 0
  have fin: ∀v,v=nV (da (eb a c) a.n q)→(tab a.n fun j=>if j<q then nV (da (eb a c) a.n j) else nV 0).set q v=tab a.n fun j=>if j<q+1 then nV (da (eb a c) a.n j) else nV 0:=by
   rintro v rfl
   rw[nK]
   refine dZ fun j _=> ?_
   by_cases hj:j=q
   ·rw[af hj,aZ,hj]
   ·rw[ag hj]
    by_cases cK:j<q
    ·rw[af cK,aZ]
    ·rw[ag cK,bK]
  rw[ca (by omega)]
  by_cases hx:eb a c q∈bA (eb a c) q
  ·refine bF (by rw[e1];simpa using hx) ?_
   refine (dt hq).trans ?_
   have e2:=AO SF (eb a c q) (.int .i64 0) (bA (eb a c) q) 0 hx
   rw[dE,←ab3 hq hx] at e2
   rw[e2,V.toInt_int,Int.toNat_natCast,show (V.int .i64 (da (eb a c) a.n q:Int))=nV (da (eb a c) a.n q) from rfl,fin _ rfl,Sz hx]
  ·refine bT (by rw[e1];simpa using hx) ?_
   refine bT acf ?_
   refine (dt hq).trans ?_
   have e2:=AP SF (eb a c q) (bA (eb a c) q) 0 hx
   rw[dE] at e2
   rw[AN,e2,Int.toNat_natCast,←ab4 hq hx,show (V.int .i64 (da (eb a c) a.n q:Int))=nV (da (eb a c) a.n q) from rfl,fin _ rfl,KP hx]
 ·simp only[K4,E3,un,ar,aS]
  refine bF (bm (aw _)) ?_
  rw[bm (aw _)]
  have:(tab a.n fun q=>if q<a.n then nV (da (eb a c) a.n q) else nV 0)=cV a.n (da (eb a c) a.n):=dZ fun q hq=>af hq
  rw[this]
def mQ (a:Da):Nat→Nat
 | 0=>1
 | i+1=>if a.fin i=a.fin 0 then mQ a i else 2
def fZ (a:Da) (q:Nat):Nat:=if a.fin q=a.fin 0 then 0 else 1
theorem alL:(bA (fZ a) a.n).length=mQ a a.n:=by
 have key: ∀m,(bA (fZ a) (m+1)=[0]∧mQ a (m+1)=1)∨(bA (fZ a) (m+1)=[0,1]∧mQ a (m+1)=2):=by
  intro m
  induction m with
  | zero=>left;simp[bA,dw,fZ,mQ]
  | succ m ih=>
   rw[bA,mQ]
   unfold fZ dw
   by_cases hf:a.fin (m+1)=a.fin 0
   ·rw[af hf,af hf]
    rcases ih with ⟨i1,i2⟩|⟨i1,i2⟩
    ·left;refine ⟨?_,i2⟩;unfold fZ at i1;rw[i1];rfl
    ·right;refine ⟨?_,i2⟩;unfold fZ at i1;rw[i1];rfl
   ·rw[ag hf,ag hf]
    rcases ih with ⟨i1,i2⟩|⟨i1,i2⟩
    ·right;refine ⟨?_,rfl⟩;unfold fZ at i1;rw[i1];rfl
    ·right;refine ⟨?_,rfl⟩;unfold fZ at i1;rw[i1];rfl
 have hs:=h.s
 obtain ⟨m,hm⟩: ∃m,a.n=m+1:=⟨a.n-1,by omega⟩
 rw[hm]
 rcases key m with ⟨e1,e2⟩|⟨e1,e2⟩<;>rw[e1,e2]<;>rfl
theorem alM {k2 k3:Int} {l2:List V}:Loop (KU CC a.cG (a.cG.length:Int) k2 k3 a.cG l2) (1,0,List.replicate ((((a.cG.length:Nat):Int)).toNat) (V.int .i64 0))=some ((mQ a a.n:Int),(a.n:Int),false,cV a.n (fZ a)):=by
 have hm:=h.fc
 have hs:=h.s
 rw[Da.mb,Int.toNat_natCast,oI]
 refine (eW a.n (fun i=>((mQ a i:Int),(i:Int),(tab a.n fun q=>if q<i then nV (fZ a q) else nV 0))) _ (fun q hq=> ?_) ?_)
 ·simp only[KU,E1,un,ar,aS]
  refine bT (cB hq) ?_
  refine bs (Da.vK hq) ?_
  refine bs (a:= .bool (a.fin 0)) (by unfold Da.cG;exact Sl (by omega)) ?_
  rw[ca (by omega)]
  have fin:(tab a.n fun j=>if j<q then nV (fZ a j) else nV 0).set q (nV (fZ a q))=tab a.n fun j=>if j<q+1 then nV (fZ a j) else nV 0:=by
   rw[nK]
   refine dZ fun j _=> ?_
   by_cases hj:j=q
   ·rw[af hj,aZ,hj]
   ·rw[ag hj]
    by_cases cK:j<q
    ·rw[af cK,aZ]
    ·rw[ag cK,bK]
  simp only[V.kG]
  by_cases hf:a.fin q=a.fin 0
  ·refine bF (by rw[hf];simp) ?_
   have e:mQ a (q+1)=mQ a q:=by rw[mQ,af hf]
   have e2:(tab a.n fun j=>if j<q then nV (fZ a j) else nV 0)=tab a.n fun j=>if j<q+1 then nV (fZ a j) else nV 0:=dZ fun j _=>by
    by_cases hj:j=q
    ·rw[bK,aZ,hj];unfold fZ;rw[af hf]
    ·by_cases cK:j<q
     ·rw[af cK,aZ]
     ·rw[ag cK,bK]
   rw[e,e2]
  ·refine bT (by simpa using hf) ?_
   refine (dt hq).trans ?_
   have e:mQ a (q+1)=2:=by rw[mQ,ag hf]
   have e3:fZ a q=1:=by unfold fZ;rw[ag hf]
   rw[e3] at fin
   rw[e,Int.toNat_natCast,show (V.int .i64 1)=nV 1 from rfl,fin];rfl
 ·simp only[KU,E1,un,ar,aS]
  refine bF (bm (aw _)) ?_
  rw[bm (aw _)]
  have:(tab a.n fun q=>if q<a.n then nV (fZ a q) else nV 0)=cV a.n (fZ a):=dZ fun q hq=>af hq
  rw[this]
theorem alN {k2 k3:Int} {l2:List V}: ∃p,Loop (Fe CC k2 k3 l2 a.cd) ((mQ a a.n:Int),cV a.n (fZ a))=some (cV a.n p)∧a.yi p∧∀q,q<a.n→p q≤1000:=by
 have hm:=h.fc
 have:=OO (step:=Fe CC k2 k3 l2 a.cd)
  (fun x=> ∃c,x=(((bA c a.n).length:Int),cV a.n c)∧a.Part c∧∀q,q<a.n→c q≤1000)
  (fun x=>a.n-x.1.toNat)
  (fun r=> ∃p,r=cV a.n p∧a.yi p∧∀q,q<a.n→p q≤1000) (fun x hx=> ?_) ((mQ a a.n:Int),cV a.n (fZ a)) ⟨fZ a,by rw[alL h],⟨?_,?_⟩,?_⟩
 ·obtain ⟨r,h1,p,rfl,h2,h3⟩:=this
  exact ⟨p,h1,h2,h3⟩
 ·obtain ⟨c,rfl,hp,hc⟩:=hx
  have hl:(cV a.n c).length=a.n:=by simp[cV]
  have pL:a.KQ c (da (eb a c) a.n):=fun q q' hq cQ=>(EY hq cQ).trans (SG h)
  have hle:=uf (eb a c) a.n
  have hb: ∀q,q<a.n→da (eb a c) a.n q≤1000:=fun q hq=>by have:=EX (g:=eb a c) hq;omega
  have yl: ∀q q',q<a.n→q'<a.n→eb a c q=eb a c q'→c q=c q':=fun q q' hq cQ e=>(Da.yh.1 ((SG h).1 e)).1
  have alO:=ab6 yl
  have cr:=alK h hc (k1:=((bA c a.n).length:Int)) (k2:=k2) (k3:=k3) (l2:=l2)
  by_cases he:(bA (eb a c) a.n).length=(bA c a.n).length
  ·right
   refine ⟨_,?_,da (eb a c) a.n,rfl,⟨fun q q' hq cQ=> ?_,SA _ _⟩,hb⟩
   ·simp only[Fe,Fc,un]
    refine bT (by rw[hl];exact mN (by omega) (by omega)) ?_
    refine bs cr ?_
    refine bT (by rw[AN];simp[he]) ?_
    rfl
   ·have bP:=SB yl (by omega)
    rw[EY hq cQ,←hp.ab7 h (fun s s' hs vg e=>(SG h).1 (bP s s' hs vg e)) q q' hq cQ]
    exact ⟨yl q q' hq cQ,bP q q' hq cQ⟩
  ·left
   have e2:(bA (da (eb a c) a.n) a.n).length=(bA (eb a c) a.n).length:=by rw[ab5 _ _ _ (aw _),Hr]
   refine ⟨(((bA (eb a c) a.n).length:Int),cV a.n (da (eb a c) a.n)),?_,⟨da (eb a c) a.n,by rw[e2],pL.part h hp,hb⟩,?_⟩
   ·simp only[Fe,Fc,un]
    refine bT (by rw[hl];exact mN (by omega) (by omega)) ?_
    refine bs cr ?_
    refine bF (by rw[AN];simpa using fun e=>he (by omega)) ?_
    rw[AN]
   ·simp only[Int.toNat_natCast]
    omega
 ·intro q q' hq cQ he
  have:=he [] WL.nil
  rw[Da.pJ,Da.pJ] at this
  unfold fZ;rw[this]
 ·intro q q' hq cQ he
  unfold fZ at he
  split at he<;>split at he
  ·rename_i h1 h2;rw[h1,h2]
  ·omega
  ·omega
  ·rename_i h1 h2
   revert h1 h2
   cases a.fin q<;>cases a.fin q'<;>cases a.fin 0<;>simp
 ·intro q _
  unfold fZ;split<;>omega
theorem alP: ∃p,CC JM (cY a)=some [.list bJ (cV a.n p)]∧a.yi p∧∀q,q<a.n→p q≤1000:=by
 have hm:=h.fc
 obtain ⟨p,h1,h2,h3⟩:=alN h (k2:=(a.L:Int)) (k3:=(a.st:Int)) (l2:=a.cG)
 refine ⟨p,alH ?_,h2,h3⟩
 unfold acd
 refine bs (AK h) ?_
 refine bF rfl ?_
 refine bT (by rw[Da.mb];exact mN (by omega) (by omega)) ?_
 refine bs (alM h) ?_
 refine bs h1 ?_
 rfl
end
noncomputable def Fg (C:ab) (q t29 t30:Int) (t47:LV) (t48 aM aT:Int) (aY aX:LV) (bf bh AX AY:Int) (places dS:LV) (AZ A0:Int) (bt bH cH gW oM acg:LV) (t49:Int) (rows:LV) {β:Type} (kn:(Int × LV)→Option β) (kr:(Int × Bool × LV)→Option β):Option β:=
 bif decide ((t49:Int)<t48) then
  (idx t47 t49).bind fun x5=>
  bif (decide (0≤x5.toInt))&&(decide (x5.toInt<(dS.length:Int))) then
  (dS[(x5.toInt:Int).toNat]?).bind fun x6=>
  ar rows t49 fun x7=>
  kn (IntKind.wrap .i64 (t49+1),aS rows t49 (V.int .i64 x6.toInt))
  else none
 else
  kr (t49,decide ((t49:Int)<t48),rows)
noncomputable def K6 (C:ab) (q t29 t30:Int) (t47:LV) (t48 aM aT:Int) (aY aX:LV) (bf bh AX AY:Int) (places dS:LV) (AZ A0:Int) (bt bH cH gW oM acg:LV):=un fun t49 rows=>Fg C q t29 t30 t47 t48 aM aT aY aX bf bh AX AY places dS AZ A0 bt bH cH gW oM acg t49 rows (fun y=>some (Sum.inl y)) (fun r=>some (Sum.inr r))
noncomputable def Fh (C:ab) (t29 aM aT:Int) (aY aX:LV) (bf bh AX AY:Int) (places dS:LV) (AZ A0:Int) (br bt bH cH:LV) (t30:Int) (gW oM:LV) {β:Type} (kn:(Int × LV × LV)→Option β) (kr:(Int × Bool × LV × LV)→Option β):Option β:=
 bif decide ((t30:Int)<t29) then
  ar dS t30 fun x3=>
  bif decide ((x3.toInt:Int)<(gW.length:Int)) then
  kn (IntKind.wrap .i64 (t30+1),gW,oM)
  else
  bif (decide (0≤aM))&&((decide (aM≤aM))&&(Nat.ble (((aM:Int).toNat)*8) bM)) then
   ar cH t30 fun x4=>
   (Loop (K6 C t30 t29 t30 x4.toList (x4.toList.length:Int) aM aT aY aX bf bh AX AY places dS AZ A0 br bt bH cH gW oM) (0,List.replicate ((aM:Int).toNat) (V.int .i64 0))).bind (un fun (mJ:Int)=>un fun (sq:Bool) (ach:LV)=>
    ar bH t30 fun iM=>
    bif Nat.ble ((gW.length+([.bool iM.toBool]:LV).length)*1) bM then
    bif Nat.ble ((oM.length+([.list bJ ach]:LV).length)*24) bM then
     kn (IntKind.wrap .i64 (t30+1),gW++([.bool iM.toBool]:LV),oM++([.list bJ ach]:LV))
    else none
    else none)
  else none
 else
  kr (t30,decide ((t30:Int)<t29),gW,oM)
noncomputable def K7 (C:ab) (t29 aM aT:Int) (aY aX:LV) (bf bh AX AY:Int) (places dS:LV) (AZ A0:Int) (br bt bH cH:LV):=un fun t30=>un fun gW oM=>Fh C t29 aM aT aY aX bf bh AX AY places dS AZ A0 br bt bH cH t30 gW oM (fun y=>some (Sum.inl y)) (fun r=>some (Sum.inr r))
noncomputable def Fi (C:ab) (t88 bf bh:Int) (dS:LV) (fv fw:Int) (numbers SH br bt bH cH:LV) (t89:Int) (ff:LV) {β:Type} (kn:(Int × LV)→Option β) (kr:(Int × Bool × LV)→Option β):Option β:=
 bif decide ((t89:Int)<t88) then
  ar SH t89 fun qX=>
  ar ff t89 fun vM=>
  bif decide ((qX.toInt:Int)≥0) then
  bif (decide (0≤qX.toInt))&&(decide (qX.toInt<(dS.length:Int))) then
   (dS[(qX.toInt:Int).toNat]?).bind fun ym=>
   bif (decide (0≤ym.toInt))&&(decide (ym.toInt<(numbers.length:Int))) then
   (numbers[(ym.toInt:Int).toNat]?).bind fun Fj=>
   ar (aS ff t89 (V.int .i64 (-1))) t89 fun SI=>
   kn (IntKind.wrap .i64 (t89+1),aS (aS ff t89 (V.int .i64 (-1))) t89 (V.int .i64 Fj.toInt))
   else none
  else none
  else
  kn (IntKind.wrap .i64 (t89+1),aS ff t89 (V.int .i64 (-1)))
 else
  kr (t89,decide ((t89:Int)<t88),ff)
noncomputable def K8 (C:ab) (t88 bf bh:Int) (dS:LV) (fv fw:Int) (numbers SH br bt bH cH:LV):=un fun t89 ff=>Fi C t88 bf bh dS fv fw numbers SH br bt bH cH t89 ff (fun y=>some (Sum.inl y)) (fun r=>some (Sum.inr r))
noncomputable def SJ (C:ab):bR:=bd 161 QE [false,false,false,false,false,true,false,false,false,false,false,false,false,false,false,false,false,false,true,false,false,false,false,false,false] [[1,2,3,4,5,0,0,7,8,9,10,11,12,13,14,15,16,17,18,0,20,21,22,23,24,25]] (@Fg C) (bd 81 QF [false,true,false,false,false,false,false,false,false,false,false,false,false,false,false,false,false,false,true,true] [[1,0,0,3,4,5,6,7,8,9,10,11,12,13,14,15,16,17,18,0,0]] (@Fh C) (bd 321 QG [false,true,false,false,false,false,false,false,true,false,false,false,false,false] [[1,0,0,3,4,5,6,7,8,0,10,11,12,13,14]] (@Fi C) bw))
theorem alQ (C:ab):aQ C (SJ C) 65 (Lp [1,1,1,1,0,1,0,0,1,1,0,0,1,1,1,0,1,0,0] 65):=bc QE [false,false,false,false,false,true,false,false,false,false,false,false,false,false,false,false,false,false,true,false,false,false,false,false,false] [[1,2,3,4,5,0,0,7,8,9,10,11,12,13,14,15,16,17,18,0,20,21,22,23,24,25]] (@Fg C) (aA ak)
theorem alR (C:ab):aQ C (SJ C) 65 (Lp [1,1,1,1,0,1,0,0] 65):=bc QF [false,true,false,false,false,false,false,false,false,false,false,false,false,false,false,false,false,false,true,true] [[1,0,0,3,4,5,6,7,8,9,10,11,12,13,14,15,16,17,18,0,0]] (@Fh C) (aA (aO (alQ C) ak))
theorem alS (C:ab):aQ C (SJ C) 65 (Lp [1,1,1,1,1,1,1,0,1,0,0] 65):=bc QG [false,true,false,false,false,false,false,false,true,false,false,false,false,false] [[1,0,0,3,4,5,6,7,8,0,10,11,12,13,14]] (@Fi C) (aA ak)
noncomputable def aci (C:ab) (aB aC:Int) (av aF:LV):Option LV:=
 (C Ax [V.int .i64 aB,V.int .i64 aC,.list au av,.list ax aF]).bind fun r1=>
 (C JM [V.int .i64 ((V.nth r1 0).toInt),V.int .i64 ((V.nth (r1.drop 1) 0).toInt),.list au ((V.nth (r1.drop 2) 0).toList),.list ax ((V.nth ((r1.drop 2).drop 1) 0).toList)]).bind fun r2=>
 (Loop (K7 C (((V.nth r2 0).toList).length:Int) aB aC av aF 0 0 ((V.nth r1 0).toInt) ((V.nth (r1.drop 1) 0).toInt) ((V.nth (((r1.drop 2).drop 1).drop 1) 0).toList) ((V.nth r2 0).toList) aB 0 ([]:LV) ([]:LV) ((V.nth (r1.drop 2) 0).toList) ((V.nth ((r1.drop 2).drop 1) 0).toList)) (0,([]:LV),([]:LV))).bind (un fun (vN:Int)=>un fun (pH:Bool)=>un fun (yd:LV) (xX:LV)=>
  (C Ax [V.int .i64 aB,V.int .i64 0,.list au yd,.list ax xX]).bind fun iw=>
  bif (decide (0≤(((V.nth (((r1.drop 2).drop 1).drop 1) 0).toList).length:Int)))&&((decide ((((V.nth (((r1.drop 2).drop 1).drop 1) 0).toList).length:Int)≤(((V.nth (((r1.drop 2).drop 1).drop 1) 0).toList).length:Int)))&&(Nat.ble ((((((V.nth (((r1.drop 2).drop 1).drop 1) 0).toList).length:Int):Int).toNat)*8) bM)) then
   (Loop (K8 C (((V.nth (((r1.drop 2).drop 1).drop 1) 0).toList).length:Int) 0 0 ((V.nth r2 0).toList) ((V.nth iw 0).toInt) ((V.nth (iw.drop 1) 0).toInt) ((V.nth (((iw.drop 2).drop 1).drop 1) 0).toList) ((V.nth (((r1.drop 2).drop 1).drop 1) 0).toList) ([]:LV) ([]:LV) ((V.nth (iw.drop 2) 0).toList) ((V.nth ((iw.drop 2).drop 1) 0).toList)) (0,List.replicate (((((V.nth (((r1.drop 2).drop 1).drop 1) 0).toList).length:Int):Int).toNat) (V.int .i64 0))).bind (un fun (alT:Int)=>un fun (acj:Bool) (alU:LV)=>
    some [V.int .i64 ((V.nth iw 0).toInt),V.int .i64 ((V.nth (iw.drop 1) 0).toInt),.list au ((V.nth (iw.drop 2) 0).toList),.list ax ((V.nth ((iw.drop 2).drop 1) 0).toList),.list bJ alU])
  else none)
theorem alV {aB aC:Int} {av aF:LV} {r:Option LV} (h:aci CC aB aC av aF=r):CC JF [V.int .i64 aB,V.int .i64 aC,.list au av,.list ax aF]=r:=bu (aO (alR CC) (aO (alS CC) ak)) h
noncomputable def ack (C:ab) (aB aC:Int) (av aF:LV):Option LV:=
 (C se [V.int .i64 aB,V.int .i64 aC,.list au av,.list ax aF]).bind fun r1=>
 bif (((V.nth r1 0).toInt):Int) != 0 then
  some [V.int .i64 0,V.int .i64 0,.list au ([]:LV),.list ax ([]:LV)]
 else
  (C JF [V.int .i64 aB,V.int .i64 aC,.list au av,.list ax aF]).bind fun r2=>
  some [V.int .i64 ((V.nth r2 0).toInt),V.int .i64 ((V.nth (r2.drop 1) 0).toInt),.list au ((V.nth (r2.drop 2) 0).toList),.list ax ((V.nth ((r2.drop 2).drop 1) 0).toList)]
theorem alW {aB aC:Int} {av aF:LV} {r:Option LV} (h:ack CC aB aC av aF=r):CC Aw [V.int .i64 aB,V.int .i64 aC,.list au av,.list ax aF]=r:=bu (L:=bw) ak h
theorem alX {p:Nat→Nat} {n:Nat} (h:pK p n) (hn:0<n):p 0=0:=by
 simpa[bA,dw] using h 1 (by omega)
theorem SK {p:Nat→Nat} {n i:Nat} (h:pK p n) (hi:i<n):p i∈bA p i↔p i<(Da.ez p i).length:=by
 rw[Da.AV]
 constructor
 ·intro hm
  rw[h i (by omega)] at hm
  simpa using hm
 ·intro hm
  rw[h i (by omega)]
  simpa using hm
theorem SM (p:Nat→Nat) (n:Nat):(Da.ez p n).length≤n:=by rw[Da.AV];exact uf p n
def qF (a:Da) (p:Nat→Nat) (i:Nat):List V:=(Da.ez p i).map fun r=>V.bool (a.fin r)
def qN (a:Da) (p:Nat→Nat) (i:Nat):List V:=(Da.ez p i).map fun r=>eX a.L fun x=>p (a.nx r x)
theorem acm {a:Da} {p:Nat→Nat}:(a.quo p).cG=qF a p a.n∧(a.quo p).cd=qN a p a.n:=by
 constructor
 ·unfold Da.cG qF
  rw[EJ _ 0,Da.ug]
  exact dZ fun i hi=>by rw[Da.ab8 hi,gV hi]
 ·unfold Da.cd qN
  rw[EJ _ 0,Da.ug]
  refine dZ fun i hi=> ?_
  unfold eX
  exact congrArg _ (dZ fun x hx=>by rw[Da.ab9 hi hx,gV hi])
section
variable {a:Da} (h:a.Ok) {p:Nat→Nat}
include h
theorem alY {q:Nat} (hq:q<a.n) {k1 k2 k3 k4 k5 k6 k7 k8 k9 SN k11:Int} {l1 l2 l3 l4 l5 l6 l7 l8 l9:List V}:
  Loop (K6 CC k1 k2 k3 (tab a.L fun x=>iV (a.nx q x)) ((tab a.L fun x=>iV (a.nx q x)).length:Int) k4 k5 l1 l2 k6 k7 k8 k9 l3 (cV a.n p) SN k11 l4 l5 l6 l7 l8 l9) (0,List.replicate (((a.L:Nat):Int).toNat) (V.int .i64 0))=
   some ((a.L:Int),false,(tab a.L fun x=>nV (p (a.nx q x)))):=by
 have h6:=h.l6
 rw[cL,Int.toNat_natCast,oI]
 refine (eW a.L (fun t=>((t:Int),(tab a.L fun x=>if x<t then nV (p (a.nx q x)) else nV 0))) _ (fun t ht=> ?_) ?_)
 ·simp only[K6,Fg,un,ar,aS]
  refine bT (cB ht) ?_
  refine bs (mP ht) ?_
  refine (dt (i:=a.nx q t) (h.ej hq ht)).trans ?_
  refine (dt ht).trans ?_
  rw[ca (by omega),Int.toNat_natCast,nK]
  refine congrArg (fun x=>some (Sum.inl (((t+1:Nat):Int),x))) (dZ fun j _=> ?_)
  by_cases hj:j=t
  ·rw[af hj,aZ,hj];rfl
  ·rw[ag hj]
   by_cases cK:j<t
   ·rw[af cK,aZ]
   ·rw[ag cK,bK]
 ·simp only[K6,Fg,un,ar,aS]
  refine bF (bm (aw _)) ?_
  rw[bm (aw _)]
  refine congrArg (fun x=>some (Sum.inr ((a.L:Int),false,x))) (dZ fun j hj=>af hj)
theorem alZ (ho:pK p a.n) {k3 k4 k5 k6 k7 k8 k9:Int} {l1 l2 l3 l4 l5:List V}:
  Loop (K7 CC ((cV a.n p).length:Int) (a.L:Int) k3 l1 l2 k4 k5 k6 k7 l3 (cV a.n p) k8 k9 l4 l5 a.cG a.cd) (0,([]:List V),([]:List V))=
   some ((a.n:Int),false,qF a p a.n,qN a p a.n):=by
 have h6:=h.l6
 have hm:=h.fc
 rw[show (cV a.n p).length=a.n by simp[cV]]
 refine (eW a.n (fun i=>((i:Int),qF a p i,qN a p i)) _ (fun q hq=> ?_) ?_)
 ·have hle:=SM p q
  have hF:(qF a p q).length=(Da.ez p q).length:=by simp[qF]
  have hN:(qN a p q).length=(Da.ez p q).length:=by simp[qN]
  simp only[K7,Fh,un,ar]
  refine bT (cB hq) ?_
  refine (dt (i:=q) hq).trans ?_
  rw[ca (by omega)]
  simp only[nV,V.toInt_int]
  by_cases hx:p q∈bA p q
  ·refine bT (b7 (by rw[hF];have:=(SK ho hq).1 hx;omega)) ?_
   unfold qF qN
   rw[Da.ez,af hx]
  ·refine bF (eB (by rw[hF];intro h2;exact hx ((SK ho hq).2 (by omega)))) ?_
   refine bT (mN (by omega) (by omega)) ?_
   refine (dt (i:=q) hq).trans ?_
   simp only[nL]
   refine bs (alY h hq) ?_
   refine (dt (i:=q) hq).trans ?_
   refine bT (cap (by rw[hF];simp;omega) (by omega)) ?_
   refine bT (cap (by rw[hN];simp;omega) (by omega)) ?_
   unfold qF qN
   rw[Da.ez,ag hx,nd,nd]
   rfl
 ·simp only[K7,Fh,un,ar]
  refine bF (bm (aw _)) ?_
  rw[bm (aw _)]
end
def uh (U U':List Nat) (p:Nat→Nat) (q:Nat):V:=if q∈U then iV ((if p (U.idxOf q)∈U' then nV (U'.idxOf (p (U.idxOf q))) else V.int .i64 (-1)).toInt) else V.int .i64 (-1)
theorem al0 {n m k:Nat} {U U':List Nat} {p:Nat→Nat} (hn:n≤512) (hU:U.length≤m) (hp: ∀q,q<m→p q<k) {k1 k2 k3 k4:Int} {l1 l2 l3 l4:List V}:
  ∃X,Loop (K8 CC ((ka U n).length:Int) k1 k2 (cV m p) k3 k4 (ka U' k) (ka U n) l1 l2 l3 l4) (0,List.replicate ((((ka U n).length:Int):Int).toNat) (V.int .i64 0))=some ((n:Int),false,X):=by
 rw[show (ka U n).length=n by simp[ka],Int.toNat_natCast,oI]
 refine ⟨tab n fun q=>if q<n then uh U U' p q else V.int .i64 0,eW n (fun i=>((i:Int),(tab n fun q=>if q<i then uh U U' p q else V.int .i64 0))) _ (fun q hq=> ?_) ?_⟩
 ·simp only[K8,Fi,un,ar,aS]
  refine bT (cB hq) ?_
  refine (dt (i:=q) hq).trans ?_
  refine (dt (i:=q) hq).trans ?_
  rw[ca (by omega)]
  have fin: ∀v,v=uh U U' p q→((tab n fun j=>if j<q then uh U U' p j else V.int .i64 0).set q v)=tab n fun j=>if j<q+1 then uh U U' p j else V.int .i64 0:=by
   rintro v rfl
   rw[nK]
   refine dZ fun j _=> ?_
   by_cases hj:j=q
   ·rw[af hj,af (show j<q+1 by omega),hj]
   ·rw[ag hj]
    by_cases cK:j<q
    ·rw[af cK,af (show j<q+1 by omega)]
    ·rw[ag cK,ag (show¬j<q+1 by omega)]
  by_cases hx:q∈U
  ·have es:uh U U' p q=iV ((if p (U.idxOf q)∈U' then nV (U'.idxOf (p (U.idxOf q))) else V.int .i64 (-1)).toInt):=by unfold uh;rw[af hx]
   have hi:=wx hx
   rw[af hx]
   refine bT (b7 (by simp only[nV,V.toInt_int];omega)) ?_
   simp only[nV,V.toInt_int]
   refine (dt (i:=U.idxOf q) (by omega)).trans ?_
   simp only[nV,V.toInt_int]
   refine (dt (i:=p (U.idxOf q)) (hp _ (by omega))).trans ?_
   refine bT (by rw[uC,cL];exact akO hq) ?_
   refine bs (a:= .int .i64 (-1)) (by rw[Int.toNat_natCast,wi];simp[hq]) ?_
   rw[Int.toNat_natCast,List.set_set,←fin _ es.symm]
  ·rw[ag hx]
   refine bF (eB (by simp)) ?_
   rw[Int.toNat_natCast,←fin _ (show V.int .i64 (-1)=uh U U' p q by unfold uh;rw[ag hx])]
 ·simp only[K8,Fi,un,ar,aS]
  refine bF (bm (aw _)) ?_
  rw[bm (aw _)]
theorem Canon.congr {m:Da} {L:Nat} {K K':List Nat→Bool} (h:m.Canon L K) (e: ∀w,WL L w→K w=K' w):m.Canon L K':=⟨h.ok,h.hL,h.st,h.num,h.red,fun w hw=>(h.nJ w hw).trans (e w hw)⟩
theorem al1 {a:Da} (h:a.Ok): ∃m X,CC JF (cY a)=some (cY m++[.list bJ X])∧m.Canon a.L (a.acc a.st):=by
 have ht:=h.abv
 have hm:=h.fc
 have hle:=h.lZ a.n
 have e3:a.trim.n=(ao a.L a.nx a.st a.n).length:=mK
 obtain ⟨p,c1,c2,c3⟩:=alP ht
 have hq:=Da.KS ht c2
 obtain ⟨q1,q2⟩:=acm (a:=a.trim) (p:=p)
 have al2:=Da.SC ht c2
 have bP:(a.trim.quo p).st=0:=alX c2.2 ht.s
 have z6:=ab2 hq
 obtain ⟨X,hX⟩:=al0 (n:=a.n) (m:=a.trim.n) (k:=(a.trim.quo p).n) (U:=ao a.L a.nx a.st a.n) (U':=ao (a.trim.quo p).L (a.trim.quo p).nx (a.trim.quo p).st (a.trim.quo p).n) (p:=p) hm (by omega) (fun q hq=>by rw[Da.ug];exact Da.E0 c2.2 hq) (k1:=0) (k2:=0) (k3:=((a.trim.quo p).trim.L:Int)) (k4:=((a.trim.quo p).trim.st:Int)) (l1:=[]) (l2:=[]) (l3:=(a.trim.quo p).trim.cG) (l4:=(a.trim.quo p).trim.cd)
 refine ⟨(a.trim.quo p).trim,X,alV ?_,Canon.congr al2 fun w hw=>h.abw hw⟩
 unfold aci
 refine bs (ab2 h) ?_
 refine bs c1 ?_
 refine bs (alZ ht c2.2) ?_
 simp only[un]
 rw[←q1,←q2]
 have al3:CC Ax [.int .i64 (a.L:Int),.int .i64 0,.list au (a.trim.quo p).cG,.list ax (a.trim.quo p).cd]=some (cY (a.trim.quo p).trim++[.list bJ (ka (ao (a.trim.quo p).L (a.trim.quo p).nx (a.trim.quo p).st (a.trim.quo p).n) (a.trim.quo p).n)]):=by
  rw[←z6]
  unfold cY fY
  rw[bP];rfl
 refine bs al3 ?_
 have e0:(ka (ao a.L a.nx a.st a.n) a.n).length=a.n:=by simp[ka]
 refine bT (show ((decide (0≤((ka (ao a.L a.nx a.st a.n) a.n).length:Int)))&&((decide (((ka (ao a.L a.nx a.st a.n) a.n).length:Int)≤((ka (ao a.L a.nx a.st a.n) a.n).length:Int)))&&(Nat.ble (((((ka (ao a.L a.nx a.st a.n) a.n).length:Nat):Int).toNat)*8) bM)))=true from mN (by rw[e0];omega) (by omega)) ?_
 refine bs hX ?_
 rfl
theorem acn {a:Da} (h:a.Ok): ∃m,CC Aw (cY a)=some (cY m)∧m.Canon a.L (a.acc a.st):=by
 obtain ⟨m,X,h1,h2⟩:=al1 h
 refine ⟨m,alW ?_,h2⟩
 unfold ack
 refine bs (AK h) ?_
 refine bF rfl ?_
 refine bs h1 ?_
 rfl
open Classical in
noncomputable def minD (a:Da):Da:=if h: ∃m:Da,m.Canon a.L (a.acc a.st) then Classical.choose h else a
theorem A1 {a:Da} (h:a.Ok):(minD a).Canon a.L (a.acc a.st):=by
 obtain ⟨m,_,h2⟩:=acn h
 have: ∃m:Da,m.Canon a.L (a.acc a.st):=⟨m,h2⟩
 unfold minD
 rw[qb this]
 exact Classical.choose_spec this
theorem A3 {a m:Da} (h:a.Ok) (hm:m.Canon a.L (a.acc a.st)):m=minD a:=hm.eq (A1 h)
theorem aco {a:Da} (h:a.Ok):CC Aw (cY a)=some (cY (minD a)):=by
 obtain ⟨m,h1,h2⟩:=acn h
 rw[h1,A3 h h2]
def zD:Da:=⟨0,0,[],[]⟩
def dB (m:Da) (e:Int):List V:=[.int .i64 (m.L:Int),.int .i64 (m.st:Int),.int .i64 e,.list au m.cG,.list ax m.cd]
end Go.AM
set_option maxRecDepth 100000
namespace Go.AM
section
variable {α:Type} [DecidableEq α] {L:Nat} {next:α→Nat→α} {a0:α}
theorem acp (S:List α) (a:α): ∀x,(bD next S a x).length≤S.length+x
 | 0=>aw _
 | x+1=>by
  have:=acp S a x
  rw[bD,qS]
  split<;>omega
theorem al4 {m:Nat} (h:(ao L next a0 m).length≤m) (i:Nat):(ao L next a0 i).length≤m:=by
 rcases eD m i with c|c
 ·rw[EB h (by omega)];exact h
 ·exact kh (lY c).length_le h
theorem acq {k:Nat} (hd:(ao L next a0 k).length≤k) (i:Nat):(ao L next a0 i).length≤(ao L next a0 k).length:=by
 rcases eD k i with c|c
 ·rw[EB hd (by omega)];exact aw _
 ·exact (lY c).length_le
theorem acr {k m:Nat} (h:m<(ao L next a0 k).length):m<(ao L next a0 m).length:=by
 rcases eD m (ao L next a0 m).length with c|c
 ·exact c
 ·have:=al4 c k
  omega
theorem acs {m:Nat} (h:m<(ao L next a0 m).length) (hm:1≤m): ∃i,i<m∧(∀j,j≤i→j<(ao L next a0 j).length∧(ao L next a0 j).length≤m)∧m<(ao L next a0 (i+1)).length:=by
 have key: ∀d k,k+d=m→(∀j,j≤k→(ao L next a0 j).length≤m)→∃i,i<m∧(∀j,j≤i→j<(ao L next a0 j).length∧(ao L next a0 j).length≤m)∧m<(ao L next a0 (i+1)).length:=by
  intro d
  induction d with
  | zero=>
   intro k hk hj
   have:=hj k (aw _)
   rw[show k=m by omega] at this
   omega
  | succ d ih=>
   intro k hk hj
   rcases eD m (ao L next a0 (k+1)).length with c|c
   ·refine ⟨k,by omega,fun j hjk=>⟨?_,hj j hjk⟩,c⟩
    rcases eD j (ao L next a0 j).length with c1|c1
    ·exact c1
    ·have h1:=hj j hjk
     rw[←EB c1 (show j≤m by omega)] at h1
     omega
   ·refine ih (k+1) (by omega) fun j cK=> ?_
    rcases eD j (k+1) with c1|c1
    ·exact hj j (by omega)
    ·rw[show j=k+1 by omega];exact c
 exact key m 0 (by omega) fun j hj=>by rw[wu.1 hj];simp[ao];omega
theorem al5 {S:List α} {a:α} {m:Nat} (hS:S.length≤m) (h:m<(bD next S a L).length): ∃x,x<L∧(bD next S a x).length=m∧next a x∉bD next S a x∧∀y,y≤x→(bD next S a y).length≤m:=by
 have key: ∀d k,k+d=L→(∀y,y≤k→(bD next S a y).length≤m)→∃x,x<L∧(bD next S a x).length=m∧next a x∉bD next S a x∧∀y,y≤x→(bD next S a y).length≤m:=by
  intro d
  induction d with
  | zero=>
   intro k hk hj
   have:=hj k (aw _)
   rw[show k=L by omega] at this
   omega
  | succ d ih=>
   intro k hk hj
   rcases eD m (bD next S a (k+1)).length with c|c
   ·have h0:=hj k (aw _)
    rw[bD,qS] at c
    split at c
    ·omega
    ·rename_i hn
     exact ⟨k,by omega,by omega,hn,hj⟩
   ·refine ih (k+1) (by omega) fun j cK=> ?_
    rcases eD j (k+1) with c1|c1
    ·exact hj j (by omega)
    ·rw[show j=k+1 by omega];exact c
 exact key L 0 (by omega) fun y hy=>by rw[wu.1 hy];exact hS
theorem al6 {P:α→Prop} (h0:P a0) (hP: ∀a,P a→∀x,x<L→P (next a x)) (i:Nat): ∀a∈ao L next a0 i,P a:=by
 intro a ha
 obtain ⟨w,hw,rfl⟩:=AH i a ha
 have: ∀(w:List Nat) (b:α),P b→WL L w→P (w.foldl next b):=by
  intro w
  induction w with
  | nil=>intro b hb _;exact hb
  | cons x w ih=>intro b hb hw;exact ih _ (hP b hb x hw.head) hw.tail
 exact this w a0 h0 hw
end
end Go.AM
set_option maxRecDepth 100000
namespace Go.AM
open Go.Proofs
noncomputable def acu (C:ab) (dL letter:Int) (Fk:LV):Option LV:=
 (idx Fk letter).bind fun x1=>
 (C JX [.list cp x1.toList,.int .u64 dL]).bind fun r2=>
 some [.int .u64 ((V.nth r2 0).toInt),.list fb Fk]
theorem al7 {dL letter:Int} {Fk:LV} {r:Option LV} (h:acu CC dL letter Fk=r):CC sg [.int .u64 dL,V.int .i64 letter,.list fb Fk]=r:=bu (L:=bw) ak h
noncomputable def acv (C:ab) (dL ud ue sr su:Int) (K9:LV):Option LV:=
 some [.bool (((IntKind.wrap .u64 ((BitVec.ofInt (IntKind.bits .u64) dL&&&BitVec.ofInt (IntKind.bits .u64) su).toNat)):Int) != 0),V.int .i64 ud,V.int .i64 ue,.int .u64 sr,.int .u64 su,.list aL K9]
theorem al8 {dL ud ue sr su:Int} {K9:LV} {r:Option LV} (h:acv CC dL ud ue sr su K9=r):CC tN [.int .u64 dL,V.int .i64 ud,V.int .i64 ue,.int .u64 sr,.int .u64 su,.list aL K9]=r:=bu (L:=bw) ak h
noncomputable def acw (C:ab) (x:Int) (bS:LV):Option LV:=
 bif dz .u64 x&&true then
  bif dz .u64 x&&true then
  bif Nat.ble ((bS.length+([.int .u64 x]:LV).length)*8) bM then
   some [V.int .i64 (bS.length:Int),.list cp (bS++([.int .u64 x]:LV)),.list jg (fL (.int .u64 x) (V.int .i64 (bS.length:Int)) ([]:LV))]
  else none
  else none
 else none
theorem al9 {x:Int} {bS:LV} {r:Option LV} (h:acw CC x bS=r):CC D1 [.int .u64 x,.list cp bS]=r:=bu (L:=bw) ak h
noncomputable def acx (C:ab) (x:Int) (bS di:LV):Option LV:=
 bif dz .u64 x&&true then
  bif !(gy (.int .u64 x) di) then
  bif dz .u64 x&&true then
   bif Nat.ble ((bS.length+([.int .u64 x]:LV).length)*8) bM then
   some [V.int .i64 (bS.length:Int),.list jg (fL (.int .u64 x) (V.int .i64 (bS.length:Int)) di),.list cp (bS++([.int .u64 x]:LV))]
   else none
  else none
  else
  some [V.int .i64 ((jo (.int .u64 x) di (V.int .i64 0)).toInt),.list jg di,.list cp bS]
 else none
theorem ama {x:Int} {bS di:LV} {r:Option LV} (h:acx CC x bS di=r):CC O6 [.int .u64 x,.list cp bS,.list jg di]=r:=bu (L:=bw) ak h
noncomputable def Fl (C:ab) (cE i state t36 nR nT nU nW:Int) (nX:LV) (oK oL aM aT:Int) (br bt gW oM:LV) (t37:Int) (nY rows bH cH:LV) {β:Type} (kn:(Int × LV × LV × LV × LV)→Option β) (kr:(Int × Bool × LV × LV × LV × LV)→Option β):Option β:=
 bif decide ((t37:Int)<t36) then
  (C sg [.int .u64 state,V.int .i64 t37,.list fb nY]).bind fun r3=>
  (C O6 [.int .u64 ((V.nth r3 0).toInt),.list cp bH,.list jg cH]).bind fun r4=>
  ar rows t37 fun x5=>
  kn (IntKind.wrap .i64 (t37+1),(V.nth (r3.drop 1) 0).toList,aS rows t37 (V.int .i64 ((V.nth r4 0).toInt)),(V.nth ((r4.drop 1).drop 1) 0).toList,(V.nth (r4.drop 1) 0).toList)
 else
  kr (t37,decide ((t37:Int)<t36),nY,rows,bH,cH)
noncomputable def La (C:ab) (cE i state t36 nR nT nU nW:Int) (nX:LV) (oK oL aM aT:Int) (br bt gW oM:LV):=un fun t37=>un fun nY=>un fun rows=>un fun bH cH=>Fl C cE i state t36 nR nT nU nW nX oK oL aM aT br bt gW oM t37 nY rows bH cH (fun y=>some (Sum.inl y)) (fun r=>some (Sum.inr r))
noncomputable def Fm (C:ab) (cE oK oL aM aT:Int) (bE br:LV) (i:Int) (nY:LV) (nR nT nU nW:Int) (nX bt bH cH gW:LV) {β:Type} (kn:(Int × LV × Int × Int × Int × Int × LV × LV × LV × LV × LV)→Option β) (kr:((Int × LV × Int × Int × Int × Int × LV × Int × Int × LV × LV × LV) ⊕ (Int × Bool × LV × Int × Int × Int × Int × LV × LV × LV × LV × LV))→Option β):Option β:=
 bif decide ((i:Int)<(bt.length:Int)) then
  ar bt i fun x2=>
  bif (decide (0≤cE))&&((decide (cE≤cE))&&(Nat.ble (((cE:Int).toNat)*8) bM)) then
  (Loop (La C cE i x2.toInt ((List.replicate ((cE:Int).toNat) (V.int .i64 0)).length:Int) nR nT nU nW nX oK oL aM aT bE br cH gW) (0,nY,List.replicate ((cE:Int).toNat) (V.int .i64 0),bt,bH)).bind (un fun (oF:Int)=>un fun (jE:Bool)=>un fun (EO:LV)=>un fun (Fo:LV)=>un fun (vO:LV) (SO:LV)=>
   bif decide (((vO.length:Int):Int)>512) then
    kr (.inl (3,EO,nR,nT,nU,nW,nX,0,0,([]:LV),([]:LV),([]:LV)))
   else
    bif Nat.ble ((gW.length+([.list bJ Fo]:LV).length)*24) bM then
    (C tN [.int .u64 x2.toInt,V.int .i64 nR,V.int .i64 nT,.int .u64 nU,.int .u64 nW,.list aL nX]).bind fun fg=>
    bif Nat.ble ((cH.length+([.bool ((V.nth fg 0).toBool)]:LV).length)*1) bM then
     kn (IntKind.wrap .i64 (i+1),EO,(V.nth (fg.drop 1) 0).toInt,(V.nth ((fg.drop 1).drop 1) 0).toInt,(V.nth (((fg.drop 1).drop 1).drop 1) 0).toInt,(V.nth ((((fg.drop 1).drop 1).drop 1).drop 1) 0).toInt,(V.nth (((((fg.drop 1).drop 1).drop 1).drop 1).drop 1) 0).toList,vO,SO,cH++([.bool ((V.nth fg 0).toBool)]:LV),gW++([.list bJ Fo]:LV))
    else none
    else none)
  else none
 else
  kr (.inr (i,decide ((i:Int)<(bt.length:Int)),nY,nR,nT,nU,nW,nX,bt,bH,cH,gW))
noncomputable def A4 (C:ab) (cE oK oL aM aT:Int) (bE br:LV):=un fun i=>un fun nY=>un fun nR=>un fun nT=>un fun nU=>un fun nW=>un fun nX=>un fun bt=>un fun bH=>un fun cH gW=>Fm C cE oK oL aM aT bE br i nY nR nT nU nW nX bt bH cH gW (fun y=>some (Sum.inl y)) (fun r=>some (Sum.inr r))
noncomputable def acy (C:ab):bR:=bd 161 QQ [false,false,false,false,true,true,false,false,false,false,false,false,false,false,false,true,false,false,true,true,false,false] [[1,2,3,4,0,0,0,7,8,9,10,11,12,13,14,15,0,17,18,0,0,21,22]] (@Fl C) (bd 81 QR [false,true,true,true,true,true,true,true,false,false,false,false,false,false,true,true,true,true] [[0,0,0,0,0,0,0,0,0,0,0,0],[1,0,0,0,0,0,0,0,0,9,10,11,12,13,14,0,0,0,0]] (@Fm C) bw)
theorem amb (C:ab):aQ C (acy C) 75 (Lp [1,1,1,1,0,1,0,0,1,0,0,1,1,0,1,0,0] 75):=bc QQ [false,false,false,false,true,true,false,false,false,false,false,false,false,false,false,true,false,false,true,true,false,false] [[1,2,3,4,0,0,0,7,8,9,10,11,12,13,14,15,0,17,18,0,0,21,22]] (@Fl C) (aA ak)
theorem amc (C:ab):aQ C (acy C) 75 (Lp [1,1,1,1,0,1,0,0] 75):=bc QR [false,true,true,true,true,true,true,true,false,false,false,false,false,false,true,true,true,true] [[0,0,0,0,0,0,0,0,0,0,0,0],[1,0,0,0,0,0,0,0,0,9,10,11,12,13,14,0,0,0,0]] (@Fm C) (aA (aO (amb C) ak))
noncomputable def SP (C:ab) (cE start:Int) (nY:LV) (nR nT nU nW:Int) (nX:LV):Option LV:=
 (C D1 [.int .u64 start,.list cp ([]:LV)]).bind fun r1=>
 (Loop (A4 C cE 0 0 cE 0 ([]:LV) ([]:LV)) (0,nY,nR,nT,nU,nW,nX,(V.nth (r1.drop 1) 0).toList,(V.nth ((r1.drop 1).drop 1) 0).toList,([]:LV),([]:LV))).bind (dI (un fun (pH:Int)=>un fun (yd:LV)=>un fun (xX:Int)=>un fun (yn:Int)=>un fun (ye:Int)=>un fun (ER:Int)=>un fun (Sp:LV)=>un fun (amd:Int)=>un fun (Sr:Int)=>un fun (Fp:LV)=>un fun (ES:LV) (ame:LV)=>
  some [V.int .i64 amd,V.int .i64 Sr,V.int .i64 pH,.list fb yd,V.int .i64 xX,V.int .i64 yn,.int .u64 ye,.int .u64 ER,.list aL Sp,.list au Fp,.list ax ES,.list cp ame]) (un fun (auq:Int)=>un fun (amf:Bool)=>un fun (amg:LV)=>un fun (amh:Int)=>un fun (ami:Int)=>un fun (amj:Int)=>un fun (amk:Int)=>un fun (aml:LV)=>un fun (AR:LV)=>un fun (KM:LV)=>un fun (yf:LV) (SQ:LV)=>
  some [V.int .i64 cE,V.int .i64 0,V.int .i64 0,.list fb amg,V.int .i64 amh,V.int .i64 ami,.int .u64 amj,.int .u64 amk,.list aL aml,.list au yf,.list ax SQ,.list cp AR]))
theorem acz {cE start:Int} {nY:LV} {nR nT nU nW:Int} {nX:LV} {r:Option LV} (h:SP CC cE start nY nR nT nU nW nX=r):CC xK [V.int .i64 cE,.int .u64 start,.list fb nY,V.int .i64 nR,V.int .i64 nT,.int .u64 nU,.int .u64 nW,.list aL nX]=r:=bu (aO (amc CC) ak) h
noncomputable def SR (C:ab) (cu cF cv cW:Int) (cw:LV):Option LV:=
 (C DU [V.int .i64 cu,V.int .i64 cF,.int .u64 cv,.int .u64 cW,.list aL cw]).bind fun r1=>
 bif (((V.nth r1 0).toInt):Int) != 0 then
  some [V.int .i64 0,V.int .i64 0,V.int .i64 ((V.nth r1 0).toInt),.list au ([]:LV),.list ax ([]:LV),.list cp ([]:LV)]
 else
  (C JK [V.int .i64 cu,V.int .i64 cF,.int .u64 cv,.int .u64 cW,.list aL cw]).bind fun r2=>
  (C xK [V.int .i64 cu,.int .u64 cv,.list fb ((V.nth r2 0).toList),V.int .i64 cu,V.int .i64 cF,.int .u64 cv,.int .u64 cW,.list aL cw]).bind fun r3=>
  some [V.int .i64 ((V.nth r3 0).toInt),V.int .i64 ((V.nth (r3.drop 1) 0).toInt),V.int .i64 ((V.nth (r3.drop 2) 0).toInt),.list au ((V.nth (((r3.drop 3).drop 1).drop 5) 0).toList),.list ax ((V.nth ((((r3.drop 3).drop 1).drop 5).drop 1) 0).toList),.list cp ((V.nth (((((r3.drop 3).drop 1).drop 5).drop 1).drop 1) 0).toList)]
theorem acA {cu cF cv cW:Int} {cw:LV} {r:Option LV} (h:SR CC cu cF cv cW cw=r):CC DT [V.int .i64 cu,V.int .i64 cF,.int .u64 cv,.int .u64 cW,.list aL cw]=r:=bu (L:=bw) ak h
def uV (q:Nat):V:= .int .u64 (q:Int)
def uM (S:List Nat):List V:=gH uV 0 S
theorem yo (a b:Nat):kp (uV a) (uV b)=decide (a=b):=ak6 a b
theorem Lb {S:List Nat} {i:Nat} (h:i<S.length):(U1 S)[i]? =some (uV S[i]):=xU (bU h)
theorem acB {x:Nat} (hx:x<2^64):CC D1 [uV x,.list cp []]=some [nV 0,.list cp (U1 [x]),.list jg (uM [x])]:=by
 refine al9 ?_
 unfold acw
 rw[AQ hx]
 exact bT rfl (bT rfl (bT (cap (by simp) (by omega)) rfl))
theorem amm {S:List Nat} {x:Nat} (hx:x<2^64) (hl:S.length≤1000000):CC O6 [uV x,.list cp (U1 S),.list jg (uM S)]=some [nV ((dw S x).idxOf x),.list jg (uM (dw S x)),.list cp (U1 (dw S x))]:=by
 refine ama ?_
 unfold acx
 have e1:=yc yo x S 0
 rw[AQ hx]
 refine bT rfl ?_
 rw[show (V.int .u64 (x:Int))=uV x from rfl,So]
 by_cases h:x∈S
 ·refine bF (by rw[show gy (uV x) (uM S)=_ from e1];simpa using h) ?_
  have e2:=AO yo x (.int .i64 0) S 0 h
  rw[show jo (uV x) (uM S) (.int .i64 0)=_ from e2,af h,dE,show dw S x=S by unfold dw;rw[af h]]
  rfl
 ·refine bT (by rw[show gy (uV x) (uM S)=_ from e1];simpa using h) ?_
  refine bT rfl ?_
  refine bT (cap (by rw[gG];simp;omega) (by omega)) ?_
  have e2:=AP yo x S 0 h
  rw[dE] at e2
  rw[gG,show fL (uV x) (.int .i64 (S.length:Int)) (uM S)=_ from e2,ag h,show dw S x=S++[x] by unfold dw;rw[ag h]]
  simp[U1,nV,uM,uV]
def sn (E:List Ed) (s x:Nat):Nat:=iL E s (x:Int)
def sf (fin s:Nat):Bool:= !((s&&&fin)==0)
structure Nat6 (n:Nf) (L S:Nat):Prop where
 code:n.code=0
 ok:n.Ok
 hL:n.L=(L:Int)
 hS:n.S=(S:Int)
namespace Nat6
variable {n:Nf} {L S:Nat} (h:Nat6 n L S)
include h
theorem good:n.Good:=Nf.ajj h.code
theorem l1:1≤L:=by have:=h.good.L1;have:=h.hL;omega
theorem l6:L≤6:=by have:=h.good.L6;have:=h.hL;omega
theorem lX:S≤64:=by have:=h.good.S64;have:=h.hS;omega
theorem sS:n.S.toNat=S:=by have:=h.hS;omega
theorem lL:n.L.toNat=L:=by have:=h.hL;omega
theorem edF: ∀e∈n.E,e.f.toNat<S:=fun e he=>by have:=h.good.E e he;have:=h.hS;unfold Ed.In at*;omega
theorem edT: ∀e∈n.E,e.t.toNat<S:=fun e he=>by have:=h.good.E e he;have:=h.hS;unfold Ed.In at*;omega
theorem st:n.st<2^S:=by have:=h.good.st;rwa [h.sS] at this
theorem fin:n.fin<2^S:=by have:=h.good.fin;rwa [h.sS] at this
theorem pow:2^S≤2^64:=o5 (by omega) h.lX
theorem next (s x:Nat):sn n.E s x<2^S:=RY h.edT
end Nat6
def eN (n:Nf) (L S:Nat):List Nat:=ao L (sn n.E) n.st (2^S)
def fx (n:Nf) (L S:Nat):Da:=fT L (sn n.E) (sf n.fin) (eN n L S)
def gX (n:Nf) (L S:Nat):Prop:=512<(eN n L S).length
def tV (n:Nf) (L S:Nat):List V:=U2 (lk L S n.E)
def Lc (m:Da) (e:Int) (X:V):List V:=[.int .i64 (m.L:Int),.int .i64 (m.st:Int),.int .i64 e,.list au m.cG,.list ax m.cd,X]
section
variable {n:Nf} {L S:Nat} (h:Nat6 n L S)
include h
theorem amn {s x:Nat} (hs:s<2^S) (hx:x<L):CC sg [uV s,nV x,.list fb (tV n L S)]=some [uV (sn n.E s x),.list fb (tV n L S)]:=by
 have hp:=h.pow
 refine al7 ?_
 unfold acu
 have e1:idx (tV n L S) (x:Int)=some (.list cp (U1 (nH S n.E (x:Int)))):=by
  rw[ON rfl]
  unfold tV U2
  rw[eZ,R5 hx];rfl
 refine bs e1 ?_
 have hr:jG (nH S n.E (x:Int)):=akq h.lX h.edT
 have e2:=akp hr (s:=s) (by omega)
 have hl:(nH S n.E (x:Int)).length=S:=by simp[nH]
 rw[hl,akr (by omega) h.lX h.edF] at e2
 refine bs e2 ?_
 rfl
theorem amo {s:Nat} (hs:s<2^S):CC tN (uV s::j6 n [])=some (.bool (sf n.fin s)::j6 n []):=by
 have hp:=h.pow
 have hf:=h.fin
 refine al8 ?_
 unfold acv
 have e:IntKind.wrap .u64 ((BitVec.ofInt (IntKind.bits .u64) (s:Int)&&&BitVec.ofInt (IntKind.bits .u64) (n.fin:Int)).toNat)=((s&&&n.fin:Nat):Int):=u64_and (by omega) (by omega)
 rw[e]
 have e2:(((s&&&n.fin:Nat):Int) != 0)=sf n.fin s:=by
  unfold sf
  rw[od]
  simp
 rw[e2];rfl
theorem sub_lt (i:Nat): ∀s∈ao L (sn n.E) n.st i,s<2^S:=al6 (P:=fun s=>s<2^S) h.st (fun s _ x _=>h.next s x) i
theorem yp (i:Nat):(ao L (sn n.E) n.st i).length≤2^S:=by
 have:=abu (L:=L) (next:=sn n.E) (a0:=n.st) (U:=List.range (2^S)) (ia.2 h.st) (fun s _ x _=>ia.2 (h.next s x)) i
 simpa using this
theorem amp {T U:List Nat} {s:Nat} (hs:s<2^S) (hT:T.length≤1000) (hp:bD (sn n.E) T s L <+: U) {i c1 c2:Int} {l1 l2 l3 l4:List V}:
  Loop (La CC (L:Int) i (s:Int) ((List.replicate (((L:Nat):Int).toNat) (V.int .i64 0)).length:Int) n.L n.S (n.st:Int) (n.fin:Int) (n.E.map Ed.enc) c1 c2 (L:Int) 0 l1 l2 l3 l4) (0,tV n L S,List.replicate (((L:Nat):Int).toNat) (V.int .i64 0),U1 T,uM T)=
   some ((L:Int),false,tV n L S,(tab L fun x=>nV (U.idxOf (sn n.E s x))),U1 (bD (sn n.E) T s L),uM (bD (sn n.E) T s L)):=by
 have h6:=h.l6
 have A5:=h.pow
 rw[Int.toNat_natCast,oI,cL]
 refine (eW L (fun x=>((x:Int),tV n L S,(tab L fun j=>if j<x then nV (U.idxOf (sn n.E s j)) else nV 0),U1 (bD (sn n.E) T s x),uM (bD (sn n.E) T s x))) _ (fun x hx=> ?_) ?_)
 ·simp only[La,Fl,un,ar,aS]
  refine bT (cB hx) ?_
  refine bs (amn h hs hx) ?_
  have hl:=acp (next:=sn n.E) T s x
  have hn:=h.next s x
  refine bs (amm (S:=bD (sn n.E) T s x) (x:=sn n.E s x) (by omega) (by omega)) ?_
  refine (dt hx).trans ?_
  rw[ca (by omega),Int.toNat_natCast,nK]
  have e:(dw (bD (sn n.E) T s x) (sn n.E s x)).idxOf (sn n.E s x)=U.idxOf (sn n.E s x):=(yb ((tZ T s (show x+1≤L by omega)).trans hp) xY).symm
  show some (Sum.inl _)=some (Sum.inl _)
  refine congrArg (fun x=>some (Sum.inl x)) ?_
  refine iW rfl (iW rfl (iW ?_ (iW rfl rfl)))
  refine dZ fun j _=> ?_
  by_cases hj:j=x
  ·rw[af hj,aZ,hj,←e];rfl
  ·rw[ag hj]
   by_cases cK:j<x
   ·rw[af cK,aZ]
   ·rw[ag cK,bK]
 ·simp only[La,Fl,un,ar,aS]
  refine bF (bm (aw _)) ?_
  rw[bm (aw _)]
  have:(tab L fun j=>if j<L then nV (U.idxOf (sn n.E s j)) else nV 0)=tab L fun j=>nV (U.idxOf (sn n.E s j)):=dZ fun j hj=>af hj
  rw[this]
theorem SS {i:Nat} (gl:i<(ao L (sn n.E) n.st i).length) (hlen:(ao L (sn n.E) n.st i).length≤512) {U:List Nat} (hp:ao L (sn n.E) n.st (i+1) <+: U) {l1 l2 l3 l4:List V} (hl3:l3.length≤1000) (hl4:l4.length≤1000):
  A4 CC (L:Int) 0 0 (L:Int) 0 l1 l2 ((i:Int),tV n L S,n.L,n.S,(n.st:Int),(n.fin:Int),n.E.map Ed.enc,U1 (ao L (sn n.E) n.st i),uM (ao L (sn n.E) n.st i),l3,l4)=
   if 512<(ao L (sn n.E) n.st (i+1)).length then some (.inr (.inl (3,tV n L S,n.L,n.S,(n.st:Int),(n.fin:Int),n.E.map Ed.enc,0,0,[],[],[])))
   else some (.inl (((i+1:Nat):Int),tV n L S,n.L,n.S,(n.st:Int),(n.fin:Int),n.E.map Ed.enc,U1 (ao L (sn n.E) n.st (i+1)),uM (ao L (sn n.E) n.st (i+1)),l3++[V.bool (sf n.fin (ao L (sn n.E) n.st i)[i])],l4++[V.list bJ (tab L fun x=>nV (U.idxOf (sn n.E (ao L (sn n.E) n.st i)[i] x)))])):=by
 have h6:=h.l6
 have hq:=sub_lt h i _ (ep gl)
 have jx:ao L (sn n.E) n.st (i+1)=bD (sn n.E) (ao L (sn n.E) n.st i) (ao L (sn n.E) n.st i)[i] L:=Sh (bU gl)
 simp only[A4,Fm,un,ar]
 refine bT (b7 (by rw[gG];omega)) ?_
 refine (mM (Lb gl)).trans ?_
 refine bT (mN (by omega) (by omega)) ?_
 refine bs (amp h hq (by omega) (U:=U) (by rw[←jx];exact hp)) ?_
 rw[←jx]
 by_cases qE:512<(ao L (sn n.E) n.st (i+1)).length
 ·rw[af qE]
  refine bT (b7 (by rw[gG];omega)) ?_
  rfl
 ·rw[ag qE]
  refine bF (eB (by rw[gG];omega)) ?_
  refine bT (cap (by simp;omega) (by omega)) ?_
  refine bs (amo h hq) ?_
  refine bT (cap (by simp;omega) (by omega)) ?_
  rw[ca (by omega)]
  rfl
theorem amq (hn: ¬gX n L S): ∃X,CC xK (nV L::uV n.st:: .list fb (tV n L S)::j6 n [])=some ([nV L,nV 0,.int .i64 0,.list fb (tV n L S)]++(j6 n []++[.list au (fx n L S).cG,.list ax (fx n L S).cd,X])):=by
 have h6:=h.l6
 have bP:=h.st
 have A5:=h.pow
 have hd:(ao L (sn n.E) n.st (2^S)).length≤2^S:=yp h _
 have hle: ∀i,(ao L (sn n.E) n.st i).length≤(eN n L S).length:=acq hd
 have amr:(eN n L S).length≤512:=by unfold gX at hn;omega
 refine ⟨.list cp (U1 (eN n L S)),acz ?_⟩
 unfold SP
 refine bs (acB (x:=n.st) (by omega)) ?_
 have key:Loop (A4 CC (L:Int) 0 0 (L:Int) 0 ([]:List V) ([]:List V)) (0,tV n L S,n.L,n.S,(n.st:Int),(n.fin:Int),n.E.map Ed.enc,U1 [n.st],uM [n.st],([]:List V),([]:List V))=
   some (.inr (((eN n L S).length:Int),false,tV n L S,n.L,n.S,(n.st:Int),(n.fin:Int),n.E.map Ed.enc,U1 (eN n L S),uM (eN n L S),(fx n L S).cG,(fx n L S).cd)):=by
  refine (eW (eN n L S).length (fun i=>((i:Int),tV n L S,n.L,n.S,(n.st:Int),(n.fin:Int),n.E.map Ed.enc,U1 (ao L (sn n.E) n.st i),uM (ao L (sn n.E) n.st i),(tab i fun j=>V.bool ((fx n L S).fin j)),(tab i fun j=>eX L ((fx n L S).nx j)))) _ (fun i hi=> ?_) ?_)
  ·have gl:=AI hd hi
   have hiK:i<2^S:=gd hi hd
   have yg:(ao L (sn n.E) n.st i)[i]=(eN n L S)[i]:=(lY (show i≤2^S by omega)).getElem gl
   have ams:=hle (i+1)
   have amt:=hle i
   have:=SS h gl (by omega) (U:=eN n L S) (lY (by omega)) (l1:=[]) (l2:=[]) (l3:=(tab i fun j=>V.bool ((fx n L S).fin j))) (l4:=(tab i fun j=>eX L ((fx n L S).nx j))) (by rw[cL];omega) (by rw[cL];omega)
   rw[bK,yg] at this
   rw[this,iN,iN]
   have e1:(fx n L S).fin i=sf n.fin (eN n L S)[i]:=ED hi
   have e2:eX L ((fx n L S).nx i)= .list bJ (tab L fun x=>nV ((eN n L S).idxOf (sn n.E (eN n L S)[i] x))):=by
    unfold eX
    refine congrArg _ (dZ fun x hx=> ?_)
    rw[show (fx n L S).nx i x=_ from ya hi hx];rfl
   rw[e1,e2]
  ·simp only[A4,Fm,un,ar]
   rw[show ao L (sn n.E) n.st (eN n L S).length=eN n L S from EE hd,gG]
   refine bF (bm (aw _)) ?_
   rw[bm (aw _)]
   have e3:(fx n L S).n=(eN n L S).length:=mK
   unfold Da.cG Da.cd
   rw[e3];rfl
 refine bs key ?_
 rfl
theorem amu (hn:gX n L S): ∃X,CC xK (nV L::uV n.st:: .list fb (tV n L S)::j6 n [])=some ([nV 0,nV 0,.int .i64 3,.list fb (tV n L S)]++(j6 n []++[.list au [],.list ax [],X])):=by
 have h6:=h.l6
 have bP:=h.st
 have A5:=h.pow
 obtain ⟨m,hm1,qs,hm3⟩:=acs (acr (show 512<(ao L (sn n.E) n.st (2^S)).length from hn)) (by omega)
 refine ⟨.list cp [],acz ?_⟩
 unfold SP
 refine bs (acB (x:=n.st) (by omega)) ?_
 have key: ∃r,Loop (A4 CC (L:Int) 0 0 (L:Int) 0 ([]:List V) ([]:List V)) (0,tV n L S,n.L,n.S,(n.st:Int),(n.fin:Int),n.E.map Ed.enc,U1 [n.st],uM [n.st],([]:List V),([]:List V))=some r∧r=(.inl (3,tV n L S,n.L,n.S,(n.st:Int),(n.fin:Int),n.E.map Ed.enc,0,0,[],[],[])):=by
  refine uc (fun i st=> ∃l3 l4:List V,l3.length=i∧l4.length=i∧st=((i:Int),tV n L S,n.L,n.S,(n.st:Int),(n.fin:Int),n.E.map Ed.enc,U1 (ao L (sn n.E) n.st i),uM (ao L (sn n.E) n.st i),l3,l4)) _ m 0 _ (fun i _ hi st bP=> ?_) (fun st bP=> ?_) ⟨[],[],rfl,rfl,rfl⟩
  ·obtain ⟨l3,l4,e3,e4,rfl⟩:=bP
   obtain ⟨h1,h2⟩:=qs i (by omega)
   have h3:=(qs (i+1) (by omega)).2
   have:=SS h h1 h2 (oe _) (l1:=[]) (l2:=[]) (l3:=l3) (l4:=l4) (by omega) (by omega)
   rw[bK] at this
   exact ⟨_,this,_,_,by simp[e3],by simp[e4],rfl⟩
  ·obtain ⟨l3,l4,e3,e4,rfl⟩:=bP
   rw[dE] at*
   obtain ⟨h1,h2⟩:=qs m (by omega)
   have:=SS h h1 h2 (oe _) (l1:=[]) (l2:=[]) (l3:=l3) (l4:=l4) (by omega) (by omega)
   rw[aZ] at this
   exact ⟨_,this,rfl⟩
 obtain ⟨r,h1,rfl⟩:=key
 refine bs h1 ?_
 rfl
theorem amv (hn: ¬gX n L S): ∃X,CC DT (j6 n [])=some (Lc (fx n L S) 0 (.list cp X)):=by
 obtain ⟨X,hX⟩:=amq h hn
 refine ⟨X.toList,acA ?_⟩
 unfold SR
 have hv:=R9 n h.ok
 rw[h.code] at hv
 refine bs hv (bF rfl ?_)
 have hs:=abg n h.ok h.good
 rw[h.lL,h.sS] at hs
 refine bs hs ?_
 refine bs ((congrArg (fun z=>CC xK (.int .i64 z::uV n.st:: .list fb (tV n L S)::j6 n [])) h.hL).trans hX) ?_
 rfl
theorem amw (hn:gX n L S): ∃X,CC DT (j6 n [])=some (Lc zD 3 (.list cp X)):=by
 obtain ⟨X,hX⟩:=amu h hn
 refine ⟨X.toList,acA ?_⟩
 unfold SR
 have hv:=R9 n h.ok
 rw[h.code] at hv
 refine bs hv (bF rfl ?_)
 have hs:=abg n h.ok h.good
 rw[h.lL,h.sS] at hs
 refine bs hs ?_
 refine bs ((congrArg (fun z=>CC xK (.int .i64 z::uV n.st:: .list fb (tV n L S)::j6 n [])) h.hL).trans hX) ?_
 rfl
theorem yq (hn: ¬gX n L S):(fx n L S).Ok:=by
 unfold gX at hn
 exact abr (yp h _) h.l1 h.l6 (show (eN n L S).length≤512 by omega)
theorem amx {w:List Nat} (hw:WL L w):(fx n L S).acc 0 w=sf n.fin (w.foldl (sn n.E) n.st):=by
 have h1:=abq (fin:=sf n.fin) (yp h _) (EC _) hw
 have h2:=Si (L:=L) (next:=sn n.E) (a0:=n.st) (2^S)
 rw[bU (EC _)] at h2
 rw[dD h2] at h1
 exact h1
end
noncomputable def A6 (C:ab) (i aM aT:Int) (aY aX:LV) (x:Int) (ff pM nZ:LV) {β:Type} (kn:(Int × LV × LV × LV)→Option β) (kr:(Int × Bool × LV × LV × LV)→Option β):Option β:=
 bif decide ((x:Int)<aM) then
  ar ff i fun x2=>
  (idx aX x2.toInt).bind fun x3=>
  (idx x3.toList x).bind fun x4=>
  bif (decide (0≤x4.toInt))&&(decide (x4.toInt<(nZ.length:Int))) then
  (nZ[(x4.toInt:Int).toNat]?).bind fun x5=>
  bif !x5.toBool then
   bif (decide (0≤x4.toInt))&&(decide (x4.toInt<(nZ.length:Int))) then
   (nZ[(x4.toInt:Int).toNat]?).bind fun x6=>
   bif Nat.ble ((ff.length+([V.int .i64 x4.toInt]:LV).length)*8) bM then
    ar pM i fun x7=>
    bif Nat.ble (x7.toStr.length+(ku ([.int .u8 (IntKind.wrap .u8 (IntKind.wrap .i64 (97+x)))]:LV)).length) wA then
    bif Nat.ble ((pM.length+([.str (x7.toStr++(ku ([.int .u8 (IntKind.wrap .u8 (IntKind.wrap .i64 (97+x)))]:LV)))]:LV).length)*16) bM then
     kn (IntKind.wrap .i64 (x+1),ff++([V.int .i64 x4.toInt]:LV),pM++([.str (x7.toStr++(ku ([.int .u8 (IntKind.wrap .u8 (IntKind.wrap .i64 (97+x)))]:LV)))]:LV),aS nZ (x4.toInt) (.bool true))
    else none
    else none
   else none
   else none
  else
   kn (IntKind.wrap .i64 (x+1),ff,pM,nZ)
  else none
 else
  kr (x,decide ((x:Int)<aM),ff,pM,nZ)
noncomputable def Fq (C:ab) (i aM aT:Int) (aY aX:LV):=un fun x=>un fun ff=>un fun pM nZ=>A6 C i aM aT aY aX x ff pM nZ (fun y=>some (Sum.inl y)) (fun r=>some (Sum.inr r))
noncomputable def Fs (C:ab) (aM aT:Int) (aY aX:LV) (i:Int) (ff pM nZ:LV) {β:Type} (kn:(Int × LV × LV × LV)→Option β) (kr:(Int × Bool × LV × LV × LV)→Option β):Option β:=
 bif decide ((i:Int)<(ff.length:Int)) then
  (Loop (Fq C i aM aT aY aX) (0,ff,pM,nZ)).bind (un fun (x_8:Int)=>un fun (sq:Bool)=>un fun (amy:LV)=>un fun (amz:LV) (amA:LV)=>
   kn (IntKind.wrap .i64 (i+1),amy,amz,amA))
 else
  kr (i,decide ((i:Int)<(ff.length:Int)),ff,pM,nZ)
noncomputable def Ld (C:ab) (aM aT:Int) (aY aX:LV):=un fun i=>un fun ff=>un fun pM nZ=>Fs C aM aT aY aX i ff pM nZ (fun y=>some (Sum.inl y)) (fun r=>some (Sum.inr r))
noncomputable def acC (C:ab):bR:=bd 129 Qd [false,true,false,false,false,false,true,true,true] [[1,0,0,3,4,5,6,0,0,0]] (@A6 C) (bd 81 Qe [true,false,false,false,false,true,true,true] [[0,0,2,3,4,5,0,0,0]] (@Fs C) bw)
theorem amB (C:ab):aQ C (acC C) 44 (Lp [1,1,1,1,0,1,0,0,1,0,0,1,0,0] 44):=bc Qd [false,true,false,false,false,false,true,true,true] [[1,0,0,3,4,5,6,0,0,0]] (@A6 C) (aA ak)
theorem amC (C:ab):aQ C (acC C) 44 (Lp [1,1,1,1,0,1,0,0] 44):=bc Qe [true,false,false,false,false,true,true,true] [[0,0,2,3,4,5,0,0,0]] (@Fs C) (aA (aO (amB C) ak))
noncomputable def acD (C:ab) (aB aC:Int) (av aF:LV):Option LV:=
 bif (decide (0≤(av.length:Int)))&&((decide ((av.length:Int)≤(av.length:Int)))&&(Nat.ble ((((av.length:Int):Int).toNat)*1) bM)) then
  ar (List.replicate (((av.length:Int):Int).toNat) (V.bool false)) aC fun x1=>
  (Loop (Ld C aB aC av aF) (0,([V.int .i64 aC]:LV),([.str []]:LV),aS (List.replicate (((av.length:Int):Int).toNat) (V.bool false)) aC (.bool true))).bind (un fun (aur:Int)=>un fun (sm:Bool)=>un fun (amD:LV)=>un fun (amE:LV) (aus:LV)=>
   some [.list bJ amD,.list D3 amE])
 else none
theorem amF {aB aC:Int} {av aF:LV} {r:Option LV} (h:acD CC aB aC av aF=r):CC xI [V.int .i64 aB,V.int .i64 aC,.list au av,.list ax aF]=r:=bu (aO (amC CC) ak) h
noncomputable def Ft (C:ab) (t26 aM aT:Int) (aY aX:LV) (bf bh:Int) (ff bI bE:LV) (t27:Int) (places:LV) {β:Type} (kn:(Int × LV)→Option β) (kr:(Int × Bool × LV)→Option β):Option β:=
 bif decide ((t27:Int)<t26) then
  ar places t27 fun x2=>
  kn (IntKind.wrap .i64 (t27+1),aS places t27 (V.int .i64 (-1)))
 else
  kr (t27,decide ((t27:Int)<t26),places)
noncomputable def Lf (C:ab) (t26 aM aT:Int) (aY aX:LV) (bf bh:Int) (ff bI bE:LV):=un fun t27 places=>Ft C t26 aM aT aY aX bf bh ff bI bE t27 places (fun y=>some (Sum.inl y)) (fun r=>some (Sum.inr r))
noncomputable def Fu (C:ab) (t35 aM aT:Int) (aY aX:LV) (bf bh:Int) (ff bI bE:LV) (t36:Int) (places:LV) {β:Type} (kn:(Int × LV)→Option β) (kr:(Int × Bool × LV)→Option β):Option β:=
 bif decide ((t36:Int)<t35) then
  ar ff t36 fun x6=>
  bif (decide (0≤x6.toInt))&&(decide (x6.toInt<(places.length:Int))) then
  (places[(x6.toInt:Int).toNat]?).bind fun x7=>
  kn (IntKind.wrap .i64 (t36+1),aS places (x6.toInt) (V.int .i64 t36))
  else none
 else
  kr (t36,decide ((t36:Int)<t35),places)
noncomputable def Lg (C:ab) (t35 aM aT:Int) (aY aX:LV) (bf bh:Int) (ff bI bE:LV):=un fun t36 places=>Fu C t35 aM aT aY aX bf bh ff bI bE t36 places (fun y=>some (Sum.inl y)) (fun r=>some (Sum.inr r))
noncomputable def Fv (C:ab) (q t50 t51:Int) (t59:LV) (t60 aM aT:Int) (aY aX:LV) (bf bh:Int) (places:LV) (iO iP:Int) (yr br bt bH cH:LV) (t61:Int) (rows:LV) {β:Type} (kn:(Int × LV)→Option β) (kr:(Int × Bool × LV)→Option β):Option β:=
 bif decide ((t61:Int)<t60) then
  (idx t59 t61).bind fun sx=>
  bif (decide (0≤sx.toInt))&&(decide (sx.toInt<(places.length:Int))) then
  (places[(sx.toInt:Int).toNat]?).bind fun sy=>
  bif Nat.ble ((rows.length+([V.int .i64 sy.toInt]:LV).length)*8) bM then
   kn (IntKind.wrap .i64 (t61+1),rows++([V.int .i64 sy.toInt]:LV))
  else none
  else none
 else
  kr (t61,decide ((t61:Int)<t60),rows)
noncomputable def Lh (C:ab) (q t50 t51:Int) (t59:LV) (t60 aM aT:Int) (aY aX:LV) (bf bh:Int) (places:LV) (iO iP:Int) (yr br bt bH cH:LV):=un fun t61 rows=>Fv C q t50 t51 t59 t60 aM aT aY aX bf bh places iO iP yr br bt bH cH t61 rows (fun y=>some (Sum.inl y)) (fun r=>some (Sum.inr r))
noncomputable def Fw (C:ab) (t50 aM aT:Int) (aY aX:LV) (bf bh:Int) (places:LV) (iO iP:Int) (yr bE br:LV) (t51:Int) (bt bH:LV) {β:Type} (kn:(Int × LV × LV)→Option β) (kr:(Int × Bool × LV × LV)→Option β):Option β:=
 bif decide ((t51:Int)<t50) then
  ar yr t51 fun iM=>
  (idx aX iM.toInt).bind fun oG=>
  (Loop (Lh C iM.toInt t50 t51 oG.toList (oG.toList.length:Int) aM aT aY aX bf bh places iO iP yr bE br bt bH) (0,([]:LV))).bind (un fun (Li:Int)=>un fun (EP:Bool) (acE:LV)=>
   bif Nat.ble ((bH.length+([.list bJ acE]:LV).length)*24) bM then
   (idx aY iM.toInt).bind fun vM=>
   bif Nat.ble ((bt.length+([.bool vM.toBool]:LV).length)*1) bM then
    kn (IntKind.wrap .i64 (t51+1),bt++([.bool vM.toBool]:LV),bH++([.list bJ acE]:LV))
   else none
   else none)
 else
  kr (t51,decide ((t51:Int)<t50),bt,bH)
noncomputable def Lj (C:ab) (t50 aM aT:Int) (aY aX:LV) (bf bh:Int) (places:LV) (iO iP:Int) (yr bE br:LV):=un fun t51=>un fun bt bH=>Fw C t50 aM aT aY aX bf bh places iO iP yr bE br t51 bt bH (fun y=>some (Sum.inl y)) (fun r=>some (Sum.inr r))
noncomputable def Lk (C:ab):bR:=bd 65 Qs [false,true,false,false,false,false,false,false,false,true,false,false] [[1,0,0,3,4,5,6,7,8,9,0,11,12]] (@Ft C) (bd 145 Qt [false,true,false,false,false,false,false,false,false,true,false,false] [[1,0,0,3,4,5,6,7,8,9,0,11,12]] (@Fu C) (bd 305 Qu [false,false,false,false,false,true,false,false,false,false,false,false,false,false,false,true,false,false,false,false,false] [[1,2,3,4,5,0,0,7,8,9,10,11,12,13,14,15,0,17,18,19,20,21]] (@Fv C) (bd 241 Qv [false,true,false,false,false,false,false,false,false,false,false,false,false,false,true,true] [[1,0,0,3,4,5,6,7,8,9,10,11,12,13,14,0,0]] (@Fw C) bw)))
theorem amG (C:ab):aQ C (Lk C) 56 (Lp [1,1,1,0,1,0,0] 56):=bc Qs [false,true,false,false,false,false,false,false,false,true,false,false] [[1,0,0,3,4,5,6,7,8,9,0,11,12]] (@Ft C) (aA ak)
theorem amH (C:ab):aQ C (Lk C) 56 (Lp [1,1,1,1,0,1,0,0] 56):=bc Qt [false,true,false,false,false,false,false,false,false,true,false,false] [[1,0,0,3,4,5,6,7,8,9,0,11,12]] (@Fu C) (aA ak)
theorem amI (C:ab):aQ C (Lk C) 56 (Lp [1,1,1,1,1,1,0,1,0,0,1,1,0,0,1,1,0,1,0,0] 56):=bc Qu [false,false,false,false,false,true,false,false,false,false,false,false,false,false,false,true,false,false,false,false,false] [[1,2,3,4,5,0,0,7,8,9,10,11,12,13,14,15,0,17,18,19,20,21]] (@Fv C) (aA ak)
theorem amJ (C:ab):aQ C (Lk C) 56 (Lp [1,1,1,1,1,1,0,1,0,0] 56):=bc Qv [false,true,false,false,false,false,false,false,false,false,false,false,false,false,true,true] [[1,0,0,3,4,5,6,7,8,9,10,11,12,13,14,0,0]] (@Fw C) (aA (aO (amI C) ak))
noncomputable def acF (C:ab) (aB aC:Int) (av aF:LV):Option LV:=
 (C xI [V.int .i64 aB,V.int .i64 aC,.list au av,.list ax aF]).bind fun r1=>
 bif (decide (0≤(av.length:Int)))&&((decide ((av.length:Int)≤(av.length:Int)))&&(Nat.ble ((((av.length:Int):Int).toNat)*8) bM)) then
  (Loop (Lf C ((List.replicate (((av.length:Int):Int).toNat) (V.int .i64 0)).length:Int) aB aC av aF 0 0 ((V.nth r1 0).toList) ([]:LV) ([]:LV)) (0,List.replicate (((av.length:Int):Int).toNat) (V.int .i64 0))).bind (un fun (kJ:Int)=>un fun (jh:Bool) (amK:LV)=>
   (Loop (Lg C (((V.nth r1 0).toList).length:Int) aB aC av aF 0 0 ((V.nth r1 0).toList) ([]:LV) ([]:LV)) (0,amK)).bind (un fun (mJ:Int)=>un fun (sq:Bool) (acG:LV)=>
    (Loop (Lj C (((V.nth r1 0).toList).length:Int) aB aC av aF 0 0 acG aB 0 ((V.nth r1 0).toList) ([]:LV) ([]:LV)) (0,([]:LV),([]:LV))).bind (un fun (aut:Int)=>un fun (acH:Bool)=>un fun (amL:LV) (Fp:LV)=>
     some [V.int .i64 aB,V.int .i64 0,.list au amL,.list ax Fp,.list bJ acG])))
 else none
theorem amM {aB aC:Int} {av aF:LV} {r:Option LV} (h:acF CC aB aC av aF=r):CC JC [V.int .i64 aB,V.int .i64 aC,.list au av,.list ax aF]=r:=bu (aO (amG CC) (aO (amH CC) (aO (amJ CC) ak))) h
def qY (n:Nat) (S:List Nat):List V:=tab n fun q=>V.bool (decide (q∈S))
def Ll (S:List Nat) (ws:List (List UInt8)):Prop:=ws.length=S.length∧∀j (hj:j<ws.length),ws[j].length≤j
section
variable {a:Da} (h:a.Ok)
include h
theorem amN {S:List Nat} {i:Nat} (hi:i<S.length) (hS: ∀s∈S,s<a.n) (hSn:S.length≤1000) {ws:List (List UInt8)} (hw:Ll S ws) {l2:List V} {c1:Int}:
  ∃r,Loop (Fq CC (i:Int) (a.L:Int) c1 l2 a.cd) (0,nS S,ws.map V.str,qY a.n S)=some r∧∃gY,r=((a.L:Int),false,nS (bD a.nx S S[i] a.L),List.map V.str gY,qY a.n (bD a.nx S S[i] a.L))∧Ll (bD a.nx S S[i] a.L) gY:=by
 have h6:=h.l6
 have hq:=hS _ (ep hi)
 have hlen: ∀x,(bD a.nx S S[i] x).length≤S.length+x:=by
  intro x
  induction x with
  | zero=>exact aw _
  | succ x ih=>rw[bD,qS];split<;>omega
 refine uc (fun x st=> ∃gY,st=((x:Int),nS (bD a.nx S S[i] x),List.map V.str gY,qY a.n (bD a.nx S S[i] x))∧Ll (bD a.nx S S[i] x) gY) _ a.L 0 _ (fun x _ hx st bP=> ?_) (fun st bP=> ?_) ⟨ws,rfl,hw⟩
 ·obtain ⟨gY,rfl,la⟩:=bP
  rw[dE] at hx
  have hT:=hlen x
  have mC:=EA (next:=a.nx) S S[i] x
  have SU:i<(bD a.nx S S[i] x).length:=gd hi mC.length_le
  have A7:(bD a.nx S S[i] x)[i]=S[i]:=(mC.getElem hi).symm
  have lM:=h.ej hq hx
  have hm:=h.fc
  by_cases mB:a.nx S[i] x∈bD a.nx S S[i] x
  ·have e:bD a.nx S S[i] (x+1)=bD a.nx S S[i] x:=by rw[bD];unfold dw;rw[af mB]
   refine ⟨_,?_,gY,rfl,by rw[e];exact la⟩
   simp only[Fq,A6,un,ar,aS]
   refine bT (cB hx) ?_
   refine (mM (AU SU)).trans ?_
   rw[A7]
   refine bs (Da.mO hq) ?_
   simp only[nL]
   refine bs (mP hx) ?_
   refine (dt (i:=a.nx S[i] x) lM).trans ?_
   refine bF (by simp[mB]) ?_
   rw[ca (by omega),e]
  ·have e:bD a.nx S S[i] (x+1)=bD a.nx S S[i] x++[a.nx S[i] x]:=by rw[bD];unfold dw;rw[ag mB]
   have hiW:i<gY.length:=by rw[la.1];exact SU
   have hwi:=la.2 i hiW
   refine ⟨(((x+1:Nat):Int),nS (bD a.nx S S[i] (x+1)),List.map V.str (gY++[gY[i]++ku [.int .u8 (IntKind.wrap .u8 (IntKind.wrap .i64 (97+(x:Int))))]]),qY a.n (bD a.nx S S[i] (x+1))),?_,_,rfl,?_⟩
   ·simp only[Fq,A6,un,ar,aS]
    refine bT (cB hx) ?_
    refine (mM (AU SU)).trans ?_
    rw[A7]
    refine bs (Da.mO hq) ?_
    simp only[nL]
    refine bs (mP hx) ?_
    refine (dt (i:=a.nx S[i] x) lM).trans ?_
    refine bT (by simp[mB]) ?_
    refine (dt (i:=a.nx S[i] x) lM).trans ?_
    refine bT (cap (by rw[qV];simp;omega) (by omega)) ?_
    refine (mM (v:= .str gY[i]) (by simp[hiW])).trans ?_
    refine bT (by
     rw[fC]
     simp only[V.toStr,ku,bX,List.length_cons,List.length_nil,wA]
     omega) ?_
    refine bT (cap (by rw[bX,la.1];simp;omega) (by omega)) ?_
    rw[ca (by omega),e]
    refine congrArg (fun x=>some (Sum.inl x)) (iW rfl (iW ?_ (iW ?_ ?_)))
    ·simp[nS,nV]
    ·simp[V.toStr]
    ·show (qY a.n (bD a.nx S S[i] x)).set _ _=qY a.n _
     unfold qY
     rw[V.toInt_int,Int.toNat_natCast,nK]
     refine dZ fun j _=> ?_
     by_cases hj:j=a.nx S[i] x
     ·rw[af hj,b7 (by rw[hj];simp)]
     ·rw[ag hj]
      congr 1
      rw[B0,eP,iA]
      exact ⟨.inl,fun h=>h.resolve_right hj⟩
   ·rw[e]
    refine ⟨by simp[la.1],fun j hj=> ?_⟩
    rw[cX,List.length_singleton] at hj
    rcases eD j gY.length with c|c
    ·rw[List.getElem_append_left c];exact la.2 j c
    ·rw[List.getElem_append_right c]
     simp only[List.getElem_singleton,cX,ku,bX,List.length_cons,List.length_nil]
     omega
 ·obtain ⟨gY,rfl,la⟩:=bP
  rw[dE] at*
  refine ⟨_,?_,gY,rfl,la⟩
  simp only[Fq,A6,un,ar,aS]
  refine bF (bm (aw _)) ?_
  rw[bm (aw _)]
theorem acI: ∃W,CC xI (cY a)=some [.list bJ (nS (ao a.L a.nx a.st a.n)),W]:=by
 have hm:=h.fc
 have hd:=h.lZ a.n
 have key: ∃r,Loop (Ld CC (a.L:Int) (a.st:Int) a.cG a.cd) (0,nS [a.st],[[]].map V.str,qY a.n [a.st])=some r∧∃gY,r=(((ao a.L a.nx a.st a.n).length:Int),false,nS (ao a.L a.nx a.st a.n),List.map V.str gY,qY a.n (ao a.L a.nx a.st a.n)):=by
  refine uc (fun i st=> ∃gY,st=((i:Int),nS (ao a.L a.nx a.st i),List.map V.str gY,qY a.n (ao a.L a.nx a.st i))∧Ll (ao a.L a.nx a.st i) gY) _ (ao a.L a.nx a.st a.n).length 0 _ (fun i _ hi st bP=> ?_) (fun st bP=> ?_) ⟨[[]],rfl,⟨rfl,fun j hj=>by simp at hj;subst hj;simp⟩⟩
  ·obtain ⟨gY,rfl,la⟩:=bP
   rw[dE] at hi
   have gl:=AI hd hi
   have yg:(ao a.L a.nx a.st i)[i]=(ao a.L a.nx a.st a.n)[i]:=(lY (show i≤a.n by omega)).getElem gl
   have hlen:(ao a.L a.nx a.st i).length≤512:=kh (h.lZ i) hm
   have jx:=AJ hd hi
   obtain ⟨r,h1,ws2,rfl,h3⟩:=amN h gl (h.vJ i) (by omega) la (l2:=a.cG) (c1:=(a.st:Int))
   rw[yg,←jx] at h1 h3
   refine ⟨_,?_,ws2,rfl,h3⟩
   simp only[Ld,Fs,un]
   refine bT (b7 (by rw[qV];omega)) ?_
   refine bs h1 ?_
   rw[ca (by omega)]
   rfl
  ·obtain ⟨gY,rfl,la⟩:=bP
   rw[dE,EE hd] at*
   refine ⟨_,?_,gY,rfl⟩
   simp only[Ld,Fs,un]
   rw[qV]
   refine bF (bm (aw _)) ?_
   rw[bm (aw _)]
 obtain ⟨r,h1,gY,rfl⟩:=key
 refine ⟨.list D3 (gY.map V.str),amF ?_⟩
 unfold acD ar aS
 rw[Da.mb,Int.toNat_natCast,oI]
 refine bT (by have:=mN (n:=a.n) (m:=1) (by omega) (by omega);rwa [Int.toNat_natCast] at this) ?_
 refine (dt (i:=a.st) h.s).trans ?_
 have e:(tab a.n fun _=>V.bool false).set (((a.st:Nat):Int).toNat) (.bool true)=qY a.n [a.st]:=by
  rw[Int.toNat_natCast,nK]
  refine dZ fun j _=> ?_
  by_cases hj:j=a.st
  ·rw[af hj,b7 (by rw[hj];simp)]
  ·rw[ag hj,eB (by simpa using hj)]
 rw[e]
 refine bs h1 ?_
 rfl
theorem amO {q:Nat} (hq:q<a.n) (hU: ∀x,x<a.L→a.nx q x∈ao a.L a.nx a.st a.n) {c1 c2 c3 c4 c5 c6 c7 c8 c9:Int} {l1 l2 l3 l4 l5 l6 l7:List V}:
  Loop (Lh CC c1 c2 c3 (tab a.L fun x=>iV (a.nx q x)) ((tab a.L fun x=>iV (a.nx q x)).length:Int) c4 c5 l1 l2 c6 c7 (ka (ao a.L a.nx a.st a.n) a.n) c8 c9 l3 l4 l5 l6 l7) (0,([]:List V))=
   some ((a.L:Int),false,tab a.L fun x=>nV ((ao a.L a.nx a.st a.n).idxOf (a.nx q x))):=by
 have h6:=h.l6
 rw[cL]
 refine (eW a.L (fun t=>((t:Int),(tab t fun x=>nV ((ao a.L a.nx a.st a.n).idxOf (a.nx q x))))) _ (fun t ht=> ?_) ?_)
 ·simp only[Lh,Fv,un]
  refine bT (cB ht) ?_
  refine bs (mP ht) ?_
  refine (dt (i:=a.nx q t) (h.ej hq ht)).trans ?_
  refine bT (cap (by rw[cL];simp;omega) (by omega)) ?_
  rw[ca (by omega),af (hU t ht),iN]
  rfl
 ·simp only[Lh,Fv,un]
  refine bF (bm (aw _)) ?_
  rw[bm (aw _)]
theorem amP:CC JC (cY a)=some (cY a.trim++[.list bJ (ka (ao a.L a.nx a.st a.n) a.n)]):=by
 have h6:=h.l6
 have hm:=h.fc
 have hU:=h.vJ a.n
 have hle:=h.lZ a.n
 obtain ⟨W,hW⟩:=acI h
 refine amM ?_
 unfold acF
 refine bs hW ?_
 rw[Da.mb]
 refine bT (mN (by omega) (by omega)) ?_
 rw[Int.toNat_natCast,oI,cL]
 have row:=fun {q:Nat} (hq:q<a.n) hU=> @amO a h q hq hU
 have e1: ∀{i:Nat} (hi:i<(ao a.L a.nx a.st a.n).length),a.trim.fin i=a.fin (ao a.L a.nx a.st a.n)[i]:=fun hi=>ED hi
 have e2: ∀{i:Nat} (hi:i<(ao a.L a.nx a.st a.n).length),eX a.L (a.trim.nx i)= .list bJ (tab a.L fun x=>nV ((ao a.L a.nx a.st a.n).idxOf (a.nx (ao a.L a.nx a.st a.n)[i] x))):=fun hi=>by
  unfold eX
  refine congrArg _ (dZ fun x hx=> ?_)
  rw[show a.trim.nx _ x=_ from ya hi hx];rfl
 have e3:a.trim.n=(ao a.L a.nx a.st a.n).length:=mK
 have fl: ∀q∈ao a.L a.nx a.st a.n,∀x,x<a.L→a.nx q x∈ao a.L a.nx a.st a.n:=fun q hq x hx=>KA hle hq hx
 have Sw:(ao a.L a.nx a.st a.n).Nodup:=xZ _
 have er:a.trim.cG=(tab (ao a.L a.nx a.st a.n).length fun i=>V.bool (a.trim.fin i)):=by unfold Da.cG;rw[e3]
 have en:a.trim.cd=(tab (ao a.L a.nx a.st a.n).length fun i=>eX a.L (a.trim.nx i)):=by unfold Da.cd;rw[e3];rfl
 have eL:a.trim.L=a.L:=rfl
 unfold cY fY
 rw[er,en,eL]
 generalize ao a.L a.nx a.st a.n=U at*
 have l1: ∀{c1 c2 c3 c4:Int} {s1 s2 s3 s4 s5:List V},Loop (Lf CC (a.n:Int) c1 c2 s1 s2 c3 c4 s3 s4 s5) (0,tab a.n fun _=>V.int .i64 0)=some ((a.n:Int),false,tab a.n fun q=>if q∈U.take 0 then nV (U.idxOf q) else V.int .i64 (-1)):=by
  intro c1 c2 c3 c4 s1 s2 s3 s4 s5
  refine (eW a.n (fun i=>((i:Int),(tab a.n fun j=>if j<i then V.int .i64 (-1) else V.int .i64 0))) _ (fun i hi=> ?_) ?_)
  ·simp only[Lf,Ft,un,ar,aS]
   refine bT (cB hi) ?_
   refine (dt hi).trans ?_
   rw[ca (by omega),Int.toNat_natCast,nK]
   refine congrArg (fun x=>some (Sum.inl (((i+1:Nat):Int),x))) (dZ fun j _=> ?_)
   by_cases hj:j=i
   ·rw[af hj,aZ]
   ·rw[ag hj]
    by_cases cK:j<i
    ·rw[af cK,aZ]
    ·rw[ag cK,bK]
  ·simp only[Lf,Ft,un,ar,aS]
   refine bF (bm (aw _)) ?_
   rw[bm (aw _)]
   refine congrArg (fun x=>some (Sum.inr ((a.n:Int),false,x))) (dZ fun j hj=> ?_)
   rw[af hj,List.take_zero,ag (by simp)]
 refine bs l1 ?_
 simp only[un]
 have l2: ∀{c1 c2 c3 c4:Int} {s1 s2 s3 s4:List V},Loop (Lg CC ((nS U).length:Int) c1 c2 s1 s2 c3 c4 (nS U) s3 s4) (0,tab a.n fun q=>if q∈U.take 0 then nV (U.idxOf q) else V.int .i64 (-1))=some ((U.length:Int),false,ka U a.n):=by
  intro c1 c2 c3 c4 s1 s2 s3 s4
  rw[qV]
  refine (eW U.length (fun i=>((i:Int),(tab a.n fun q=>if q∈U.take i then nV (U.idxOf q) else V.int .i64 (-1)))) _ (fun i hi=> ?_) ?_)
  ·have hq:=hU U[i] (ep hi)
   simp only[Lg,Fu,un,ar,aS]
   refine bT (cB hi) ?_
   refine (mM (AU hi)).trans ?_
   refine (dt (i:=U[i]) hq).trans ?_
   rw[ca (by omega)]
   refine congrArg (fun x=>some (Sum.inl (((i+1:Nat):Int),x))) ?_
   exact ab1 Sw hi
  ·simp only[Lg,Fu,un,ar,aS]
   refine bF (bm (aw _)) ?_
   rw[bm (aw _),oa]
   rfl
 refine bs l2 ?_
 have l4: ∀{c1 c2 c3 c4:Int} {s1 s2:List V},Loop (Lj CC ((nS U).length:Int) (a.L:Int) (a.st:Int) a.cG a.cd c1 c2 (ka U a.n) c3 c4 (nS U) s1 s2) (0,([]:List V),([]:List V))=some ((U.length:Int),false,(tab U.length fun i=>V.bool (a.trim.fin i)),(tab U.length fun i=>eX a.L (a.trim.nx i))):=by
  intro c1 c2 c3 c4 s1 s2
  rw[qV]
  refine (eW U.length (fun i=>((i:Int),(tab i fun i=>V.bool (a.trim.fin i)),(tab i fun i=>eX a.L (a.trim.nx i)))) _ (fun i hi=> ?_) ?_)
  ·have hq:=hU U[i] (ep hi)
   simp only[Lj,Fw,un,ar]
   refine bT (cB hi) ?_
   refine (mM (AU hi)).trans ?_
   refine bs (Da.mO hq) ?_
   simp only[nL]
   refine bs (row hq (fl _ (ep hi))) ?_
   refine bT (cap (by rw[cL];simp;omega) (by omega)) ?_
   refine bs (Da.vK hq) ?_
   refine bT (cap (by rw[cL];simp;omega) (by omega)) ?_
   rw[ca (by omega),iN,iN,e1 hi,e2 hi]
   rfl
  ·simp only[Lj,Fw,un,ar]
   refine bF (bm (aw _)) ?_
   rw[bm (aw _)]
 refine bs l4 ?_
 rfl
end
noncomputable def Fx (C:ab) (a b':LV) (t12 t13:Int) {β:Type} (kn:Int→Option β) (kr:((Bool) ⊕ (Int × Bool))→Option β):Option β:=
 bif decide ((t13:Int)<t12) then
  (idx a t13).bind fun x1=>
  (idx b' t13).bind fun x2=>
  bif (x1.toInt:Int) != x2.toInt then
  kr (.inl false)
  else
  kn (IntKind.wrap .i64 (t13+1))
 else
  kr (.inr (t13,decide ((t13:Int)<t12)))
noncomputable def SV (C:ab) (a b':LV) (t12:Int):=fun t13=>Fx C a b' t12 t13 (fun y=>some (Sum.inl y)) (fun r=>some (Sum.inr r))
noncomputable def amQ (C:ab):bR:=bd 65 QN [false,false,false,true] [[0],[1,2,3,0,0]] (@Fx C) bw
theorem amR (C:ab):aQ C (amQ C) 71 (Lp [1,1,0,1,0,0] 71):=bc QN [false,false,false,true] [[0],[1,2,3,0,0]] (@Fx C) (aA ak)
noncomputable def acJ (C:ab) (a b':LV):Option LV:=
 bif ((a.length:Int):Int) != (b'.length:Int) then
  some [.bool false]
 else
  (Loop (SV C a b' (a.length:Int)) 0).bind (dI (fun (kJ:Bool)=>
   some [.bool kJ]) (un fun (jh:Int) (lj:Bool)=>
   some [.bool true]))
theorem amS {a b':LV} {r:Option LV} (h:acJ CC a b'=r):CC JI [.list bJ a,.list bJ b']=r:=bu (aO (amR CC) ak) h
noncomputable def Fy (C:ab) (t13:LV) (t14 t15:Int) (ui outs:LV) {β:Type} (kn:(Int × LV × LV)→Option β) (kr:(Int × Bool × LV × LV)→Option β):Option β:=
 bif decide ((t15:Int)<t14) then
  (idx t13 t15).bind fun x1=>
  bif dz .i64 x1.toInt&&true then
  bif !(gy (V.int .i64 x1.toInt) ui) then
   bif dz .i64 x1.toInt&&true then
   ar outs t15 fun x2=>
   kn (IntKind.wrap .i64 (t15+1),fL (V.int .i64 x1.toInt) (V.int .i64 (ui.length:Int)) ui,aS outs t15 (V.int .i64 (ui.length:Int)))
   else none
  else
   ar outs t15 fun x3=>
   kn (IntKind.wrap .i64 (t15+1),ui,aS outs t15 (V.int .i64 ((jo (V.int .i64 x1.toInt) ui (V.int .i64 0)).toInt)))
  else none
 else
  kr (t15,decide ((t15:Int)<t14),ui,outs)
noncomputable def SW (C:ab) (t13:LV) (t14:Int):=un fun t15=>un fun ui outs=>Fy C t13 t14 t15 ui outs (fun y=>some (Sum.inl y)) (fun r=>some (Sum.inr r))
noncomputable def amT (C:ab):bR:=bd 65 QL [false,false,true,true,true] [[1,2,0,0,0,0]] (@Fy C) bw
theorem amU (C:ab):aQ C (amT C) 69 (Lp [1,1,1,0,1,0,0] 69):=bc QL [false,false,true,true,true] [[1,2,0,0,0,0]] (@Fy C) (aA ak)
noncomputable def acK (C:ab) (l:LV):Option LV:=
 bif (decide (0≤(l.length:Int)))&&((decide ((l.length:Int)≤(l.length:Int)))&&(Nat.ble ((((l.length:Int):Int).toNat)*8) bM)) then
  (Loop (SW C l (l.length:Int)) (0,([]:LV),List.replicate (((l.length:Int):Int).toNat) (V.int .i64 0))).bind (un fun (jh:Int)=>un fun (lj:Bool)=>un fun (auu:LV) (amV:LV)=>
   some [.list bJ amV])
 else none
theorem amW {l:LV} {r:Option LV} (h:acK CC l=r):CC DY [.list bJ l]=r:=bu (aO (amU CC) ak) h
noncomputable def Fz (C:ab) (p q:LV) (t11 t12:Int) (outs:LV) {β:Type} (kn:(Int × LV)→Option β) (kr:(Int × Bool × LV)→Option β):Option β:=
 bif decide ((t12:Int)<t11) then
  (idx p t12).bind fun x1=>
  (idx q t12).bind fun x2=>
  ar outs t12 fun x3=>
  kn (IntKind.wrap .i64 (t12+1),aS outs t12 (V.int .i64 (IntKind.wrap .i64 ((IntKind.wrap .i64 ((IntKind.wrap .i64 ((p.length:Int)+1))*x1.toInt))+x2.toInt))))
 else
  kr (t12,decide ((t12:Int)<t11),outs)
noncomputable def SX (C:ab) (p q:LV) (t11:Int):=un fun t12 outs=>Fz C p q t11 t12 outs (fun y=>some (Sum.inl y)) (fun r=>some (Sum.inr r))
noncomputable def amX (C:ab):bR:=bd 49 QM [false,false,false,true,true] [[1,2,3,0,0,0]] (@Fz C) bw
theorem amY (C:ab):aQ C (amX C) 70 (Lp [1,1,0,1,0,0] 70):=bc QM [false,false,false,true,true] [[1,2,3,0,0,0]] (@Fz C) (aA ak)
noncomputable def acL (C:ab) (p q:LV):Option LV:=
 bif (decide (0≤(p.length:Int)))&&((decide ((p.length:Int)≤(p.length:Int)))&&(Nat.ble ((((p.length:Int):Int).toNat)*8) bM)) then
  (Loop (SX C p q (p.length:Int)) (0,List.replicate (((p.length:Int):Int).toNat) (V.int .i64 0))).bind (un fun (jh:Int)=>un fun (lj:Bool) (amZ:LV)=>
   (C DY [.list bJ amZ]).bind fun r7=>
   some [.list bJ ((V.nth r7 0).toList)])
 else none
theorem am0 {p q:LV} {r:Option LV} (h:acL CC p q=r):CC JH [.list bJ p,.list bJ q]=r:=bu (aO (amY CC) ak) h
noncomputable def FA (C:ab) (t14 aM aT:Int) (aY aX:LV) (t15:Int) (ps:LV) {β:Type} (kn:(Int × LV)→Option β) (kr:(Int × Bool × LV)→Option β):Option β:=
 bif decide ((t15:Int)<t14) then
  (idx aY t15).bind fun x1=>
  bif x1.toBool then
  ar ps t15 fun x2=>
  kn (IntKind.wrap .i64 (t15+1),aS ps t15 (V.int .i64 1))
  else
  kn (IntKind.wrap .i64 (t15+1),ps)
 else
  kr (t15,decide ((t15:Int)<t14),ps)
noncomputable def SY (C:ab) (t14 aM aT:Int) (aY aX:LV):=un fun t15 ps=>FA C t14 aM aT aY aX t15 ps (fun y=>some (Sum.inl y)) (fun r=>some (Sum.inr r))
noncomputable def FB (C:ab) (p next':LV) (x t37 aM aT:Int) (aY aX:LV) (t38:Int) (FC:LV) {β:Type} (kn:(Int × LV)→Option β) (kr:(Int × Bool × LV)→Option β):Option β:=
 bif decide ((t38:Int)<t37) then
  (idx aX t38).bind fun x7=>
  (idx x7.toList x).bind fun x8=>
  (idx p x8.toInt).bind fun x9=>
  bif Nat.ble ((FC.length+([V.int .i64 x9.toInt]:LV).length)*8) bM then
  kn (IntKind.wrap .i64 (t38+1),FC++([V.int .i64 x9.toInt]:LV))
  else none
 else
  kr (t38,decide ((t38:Int)<t37),FC)
noncomputable def Lm (C:ab) (p next':LV) (x t37 aM aT:Int) (aY aX:LV):=un fun t38 FC=>FB C p next' x t37 aM aT aY aX t38 FC (fun y=>some (Sum.inl y)) (fun r=>some (Sum.inr r))
noncomputable def FD (C:ab) (p:LV) (aM aT:Int) (aY aX next':LV) (x:Int) {β:Type} (kn:(LV × Int)→Option β) (kr:(LV × Int × Bool)→Option β):Option β:=
 bif decide ((x:Int)<aM) then
  (Loop (Lm C p next' x (p.length:Int) aM aT aY aX) (0,([]:LV))).bind (un fun (AS:Int)=>un fun (uj:Bool) (am1:LV)=>
   (C JH [.list bJ next',.list bJ am1]).bind fun pN=>
   kn ((V.nth pN 0).toList,IntKind.wrap .i64 (x+1)))
 else
  kr (next',x,decide ((x:Int)<aM))
noncomputable def Ln (C:ab) (p:LV) (aM aT:Int) (aY aX:LV):=un fun next' x=>FD C p aM aT aY aX next' x (fun y=>some (Sum.inl y)) (fun r=>some (Sum.inr r))
noncomputable def FE (C:ab) (aM aT:Int) (aY aX p:LV) {β:Type} (kn:LV→Option β) (kr:LV→Option β):Option β:=
 (Loop (Ln C p aM aT aY aX) (p,0)).bind (un fun (acM:LV)=>un fun (auv:Int) (EP:Bool)=>
  (C JI [.list bJ acM,.list bJ p]).bind fun eO=>
  bif (V.nth eO 0).toBool then
   kr p
  else
   kn acM)
noncomputable def FF (C:ab) (aM aT:Int) (aY aX:LV):=fun p=>FE C aM aT aY aX p (fun y=>some (Sum.inl y)) (fun r=>some (Sum.inr r))
noncomputable def Lo (C:ab):bR:=bd 49 Qo [false,true,false,false,false,false,true] [[1,0,0,3,4,5,6,0]] (@FA C) (bd 241 Qp [false,false,false,false,true,false,false,false,false,true] [[1,2,3,4,0,0,6,7,8,9,0]] (@FB C) (bd 177 Qq [false,true,true,false,false,false,false] [[1,0,0,0,4,5,6,7]] (@FD C) (bd 145 Qr [true,false,false,false,false] [[0]] (@FE C) bw)))
theorem am2 (C:ab):aQ C (Lo C) 55 (Lp [1,1,0,1,0,0] 55):=bc Qo [false,true,false,false,false,false,true] [[1,0,0,3,4,5,6,0]] (@FA C) (aA ak)
theorem am3 (C:ab):aQ C (Lo C) 55 (Lp [1,1,1,1,0,0,0,1,0,1,0,0,1,0,0,1,0,1,0,0] 55):=bc Qp [false,false,false,false,true,false,false,false,false,true] [[1,2,3,4,0,0,6,7,8,9,0]] (@FB C) (aA ak)
theorem am4 (C:ab):aQ C (Lo C) 55 (Lp [1,1,1,1,0,0,0,1,0,1,0,0] 55):=bc Qq [false,true,true,false,false,false,false] [[1,0,0,0,4,5,6,7]] (@FD C) (aA (aO (am3 C) ak))
theorem am5 (C:ab):aQ C (Lo C) 55 (Lp [1,1,1,1,0,0] 55):=bc Qr [true,false,false,false,false] [[0]] (@FE C) (aA (aO (am4 C) ak))
noncomputable def acN (C:ab) (aB aC:Int) (av aF:LV):Option LV:=
 bif (decide (0≤(av.length:Int)))&&((decide ((av.length:Int)≤(av.length:Int)))&&(Nat.ble ((((av.length:Int):Int).toNat)*8) bM)) then
  (Loop (SY C ((List.replicate (((av.length:Int):Int).toNat) (V.int .i64 0)).length:Int) aB aC av aF) (0,List.replicate (((av.length:Int):Int).toNat) (V.int .i64 0))).bind (un fun (kJ:Int)=>un fun (jh:Bool) (am6:LV)=>
   (C DY [.list bJ am6]).bind fun r6=>
   (Loop (FF C aB aC av aF) ((V.nth r6 0).toList)).bind (fun (SZ:LV)=>
    some [.list bJ SZ]))
 else none
theorem am7 {aB aC:Int} {av aF:LV} {r:Option LV} (h:acN CC aB aC av aF=r):CC JB [V.int .i64 aB,V.int .i64 aC,.list au av,.list ax aF]=r:=bu (aO (am2 CC) (aO (am5 CC) ak)) h
noncomputable def FG (C:ab) (p:LV) (sA q:Int) (t21:LV) (t22 t23:Int) (t37:LV) (t38 aM aT:Int) (aY aX:LV) (bf bh iO iP:Int) (bI bE br bt:LV) (t39:Int) (rows:LV) {β:Type} (kn:(Int × LV)→Option β) (kr:(Int × Bool × LV)→Option β):Option β:=
 bif decide ((t39:Int)<t38) then
  (idx t37 t39).bind fun x5=>
  (idx p x5.toInt).bind fun x6=>
  bif Nat.ble ((rows.length+([V.int .i64 x6.toInt]:LV).length)*8) bM then
  kn (IntKind.wrap .i64 (t39+1),rows++([V.int .i64 x6.toInt]:LV))
  else none
 else
  kr (t39,decide ((t39:Int)<t38),rows)
noncomputable def Lq (C:ab) (p:LV) (sA q:Int) (t21:LV) (t22 t23:Int) (t37:LV) (t38 aM aT:Int) (aY aX:LV) (bf bh iO iP:Int) (bI bE br bt:LV):=un fun t39 rows=>FG C p sA q t21 t22 t23 t37 t38 aM aT aY aX bf bh iO iP bI bE br bt t39 rows (fun y=>some (Sum.inl y)) (fun r=>some (Sum.inr r))
noncomputable def FH (C:ab) (p t21:LV) (t22 aM aT:Int) (aY aX:LV) (bf bh iO iP:Int) (cz bI:LV) (sA t23:Int) (bE br:LV) {β:Type} (kn:(Int × Int × LV × LV)→Option β) (kr:(Int × Int × Bool × LV × LV)→Option β):Option β:=
 bif decide ((t23:Int)<t22) then
  (idx t21 t23).bind fun x3=>
  bif (x3.toInt:Int) != sA then
  kn (sA,IntKind.wrap .i64 (t23+1),bE,br)
  else
  (idx aX t23).bind fun x4=>
  (Loop (Lq C p (IntKind.wrap .i64 (sA+1)) t23 t21 t22 t23 x4.toList (x4.toList.length:Int) aM aT aY aX bf bh iO iP cz bI bE br) (0,([]:LV))).bind (un fun (jE:Int)=>un fun (mJ:Bool) (Fo:LV)=>
   bif Nat.ble ((br.length+([.list bJ Fo]:LV).length)*24) bM then
    (idx aY t23).bind fun j8=>
    bif Nat.ble ((bE.length+([.bool j8.toBool]:LV).length)*1) bM then
    kn (IntKind.wrap .i64 (sA+1),IntKind.wrap .i64 (t23+1),bE++([.bool j8.toBool]:LV),br++([.list bJ Fo]:LV))
    else none
   else none)
 else
  kr (sA,t23,decide ((t23:Int)<t22),bE,br)
noncomputable def Lr (C:ab) (p t21:LV) (t22 aM aT:Int) (aY aX:LV) (bf bh iO iP:Int) (cz bI:LV):=un fun sA=>un fun t23=>un fun bE br=>FH C p t21 t22 aM aT aY aX bf bh iO iP cz bI sA t23 bE br (fun y=>some (Sum.inl y)) (fun r=>some (Sum.inr r))
noncomputable def acO (C:ab):bR:=bd 177 PR [false,false,false,false,false,false,false,false,true,false,false,false,false,false,false,false,false,true,false,false,false,false] [[1,2,3,4,5,6,7,8,0,0,10,11,12,13,14,15,16,17,0,19,20,21,22]] (@FG C) (bd 81 PS [false,true,false,false,true,false,false,false,false,false,false,false,false,false,false,true,true] [[1,0,3,4,0,0,6,7,8,9,10,11,12,13,14,15,0,0]] (@FH C) bw)
theorem am8 (C:ab):aQ C (acO C) 30 (Lp [1,1,1,1,0,1,0,0,1,1,0,0,1,1,1,1,0,1,0,0] 30):=bc PR [false,false,false,false,false,false,false,false,true,false,false,false,false,false,false,false,false,true,false,false,false,false] [[1,2,3,4,5,6,7,8,0,0,10,11,12,13,14,15,16,17,0,19,20,21,22]] (@FG C) (aA ak)
theorem am9 (C:ab):aQ C (acO C) 30 (Lp [1,1,1,1,0,1,0,0] 30):=bc PS [false,true,false,false,true,false,false,false,false,false,false,false,false,false,false,true,true] [[1,0,3,4,0,0,6,7,8,9,10,11,12,13,14,15,0,0]] (@FH C) (aA (aO (am8 C) ak))
noncomputable def acP (C:ab) (aB aC:Int) (av aF:LV):Option LV:=
 (C JB [V.int .i64 aB,V.int .i64 aC,.list au av,.list ax aF]).bind fun r1=>
 (idx ((V.nth r1 0).toList) aC).bind fun x2=>
 (Loop (Lr C ((V.nth r1 0).toList) ((V.nth r1 0).toList) (((V.nth r1 0).toList).length:Int) aB aC av aF 0 0 aB x2.toInt ([]:LV) ([]:LV)) (0,0,([]:LV),([]:LV))).bind (un fun (auw:Int)=>un fun (vN:Int)=>un fun (pH:Bool)=>un fun (yd:LV) (xX:LV)=>
  (C JC [V.int .i64 aB,V.int .i64 x2.toInt,.list au yd,.list ax xX]).bind fun iw=>
  some [V.int .i64 ((V.nth iw 0).toInt),V.int .i64 ((V.nth (iw.drop 1) 0).toInt),.list au ((V.nth (iw.drop 2) 0).toList),.list ax ((V.nth ((iw.drop 2).drop 1) 0).toList)])
theorem ana {aB aC:Int} {av aF:LV} {r:Option LV} (h:acP CC aB aC av aF=r):CC tJ [V.int .i64 aB,V.int .i64 aC,.list au av,.list ax aF]=r:=bu (aO (am9 CC) ak) h
theorem yu {n:Nat} {c:Nat→Nat}:(cV n c).length=n:=by simp[cV]
theorem uk {n q:Nat} {c:Nat→Nat} (h:q<n):idx (cV n c) (q:Int)=some (nV (c q)):=j9 h
theorem Ls {n q:Nat} {f:Nat→V} {z v:V} (hv:v=f q):(tab n fun j=>if j<q then f j else z).set q v=tab n fun j=>if j<q+1 then f j else z:=by
 rw[hv,nK]
 refine dZ fun j _=> ?_
 by_cases hj:j=q
 ·rw[af hj,aZ,hj]
 ·rw[ag hj]
  by_cases cK:j<q
  ·rw[af cK,aZ]
  ·rw[ag cK,bK]
theorem S3 {n:Nat} {f:Nat→V} {z:V}:(tab n fun j=>if j<n then f j else z)=tab n f:=dZ fun j hj=>af hj
theorem acQ {n:Nat} {g:Nat→Nat} (hn:n≤1000) (hg: ∀q,q<n→g q≤1000000000):CC DY [.list bJ (cV n g)]=some [.list bJ (cV n (da g n))]:=by
 refine amW ?_
 unfold acK
 rw[yu]
 refine bT (mN (by omega) (by omega)) ?_
 rw[Int.toNat_natCast,oI]
 refine bs (eW n (fun i=>((i:Int),gH nV 0 (bA g i),(tab n fun q=>if q<i then nV (da g n q) else nV 0))) ((n:Int),false,gH nV 0 (bA g n),cV n (da g n)) (fun q hq=> ?_) ?_) ?_
 ·have hle:=uf g q
  simp only[SW,Fy,un,ar,aS]
  refine bT (cB hq) ?_
  refine bs (uk hq) ?_
  have hk:dz .i64 (g q:Int)=true:=KJ (by have:=hg q hq;omega)
  refine bT (by simp only[nV,V.toInt_int,hk,BR]) ?_
  have e1:=yc AT (g q) (bA g q) 0
  rw[ca (by omega)]
  simp only[nV,V.toInt_int]
  rw[show (V.int .i64 (g q:Int))=nV (g q) from rfl]
  by_cases hx:g q∈bA g q
  ·refine bF (by rw[show gy (nV (g q)) _=_ from e1];simpa using hx) ?_
   refine (dt hq).trans ?_
   have e2:=AO AT (g q) (.int .i64 0) (bA g q) 0 hx
   rw[dE,←ab3 hq hx] at e2
   rw[show jo (nV (g q)) _ (.int .i64 0)=_ from e2,V.toInt_int,Int.toNat_natCast,Sz hx]
   exact congrArg (fun x=>some (Sum.inl (((q+1:Nat):Int),gH nV 0 (bA g q),x))) (Ls (f:=fun j=>nV (da g n j)) rfl)
  ·refine bT (by rw[show gy (nV (g q)) _=_ from e1];simpa using hx) ?_
   refine bT (by simp only[hk,BR]) ?_
   refine (dt hq).trans ?_
   have e2:=AP AT (g q) (bA g q) 0 hx
   rw[dE] at e2
   rw[show List.length (gH nV 0 (bA g q))=(bA g q).length from AN _ _,show fL (nV (g q)) _ _=_ from e2,Int.toNat_natCast,←ab4 hq hx,KP hx]
   exact congrArg (fun x=>some (Sum.inl (((q+1:Nat):Int),gH nV 0 (bA g q++[g q]),x))) (Ls (f:=fun j=>nV (da g n j)) rfl)
 ·simp only[SW,Fy,un,ar,aS]
  refine bF (bm (aw _)) ?_
  rw[bm (aw _)]
  exact congrArg (fun x=>some (Sum.inr ((n:Int),false,gH nV 0 (bA g n),x))) (S3 (f:=fun j=>nV (da g n j)))
 ·rfl
def mR (n:Nat) (p q:Nat→Nat) (i:Nat):Nat:=p i*(n+1)+q i
theorem anb {n:Nat} {p q:Nat→Nat} (hn:n≤512) (hp: ∀i,i<n→p i≤1000) (hq: ∀i,i<n→q i≤1000):CC JH [.list bJ (cV n p),.list bJ (cV n q)]=some [.list bJ (cV n (da (mR n p q) n))]:=by
 have hb: ∀i,i<n→mR n p q i≤1000000000:=fun i hi=>by
  have h1:=hp i hi
  have h2:=hq i hi
  have:=Nat.mul_le_mul h1 (show n+1≤513 by omega)
  unfold mR
  omega
 refine am0 ?_
 unfold acL
 rw[yu]
 refine bT (mN (by omega) (by omega)) ?_
 rw[Int.toNat_natCast,oI]
 refine bs (eW n (fun i=>((i:Int),(tab n fun j=>if j<i then nV (mR n p q j) else nV 0))) ((n:Int),false,cV n (mR n p q)) (fun i hi=> ?_) ?_) ?_
 ·simp only[SX,Fz,un,ar,aS]
  refine bT (cB hi) ?_
  refine bs (uk hi) ?_
  refine bs (uk hi) ?_
  refine (dt hi).trans ?_
  have h1:=hp i hi
  have h2:=hq i hi
  have h3:=hb i hi
  have h4:IntKind.wrap .i64 ((IntKind.wrap .i64 ((IntKind.wrap .i64 (((cV n p).length:Int)+1))*(p i:Int)))+(q i:Int))=(mR n p q i:Int):=by
   rw[yu,ca (by omega)]
   have e:((n+1:Nat):Int)*(p i:Int)=((p i*(n+1):Nat):Int):=by rw[jm];push_cast;rfl
   unfold mR at*
   rw[e]
   have h5:p i*(n+1)≤1000000000:=by omega
   generalize p i*(n+1)=z at*
   rw[wrap64 (x:=(z:Int)) (by omega) (by omega),dr]
   push_cast;rfl
  simp only[nV,V.toInt_int]
  rw[h4,ca (by omega),Int.toNat_natCast]
  exact congrArg (fun x=>some (Sum.inl (((i+1:Nat):Int),x))) (Ls (f:=fun j=>nV (mR n p q j)) rfl)
 ·simp only[SX,Fz,un,ar,aS]
  refine bF (bm (aw _)) ?_
  rw[bm (aw _)]
  exact congrArg (fun x=>some (Sum.inr ((n:Int),false,x))) (S3 (f:=fun j=>nV (mR n p q j)))
 ·simp only[un]
  refine bs (acQ (by omega) hb) ?_
  rfl
theorem acR {n:Nat} {p q:Nat→Nat} (hn:n≤1000):CC JI [.list bJ (cV n p),.list bJ (cV n q)]=some [.bool (decide (∀i,i<n→p i=q i))]:=by
 refine amS ?_
 unfold acJ
 rw[yu,yu]
 refine bF (by simp) ?_
 refine bs (vH (fun i=>p i=q i) n (fun i=>(i:Int)) (.inl false:Bool ⊕ (Int × Bool)) (.inr ((n:Int),false)) (fun i hi=> ?_) ?_) ?_
 ·simp only[SV,Fx]
  refine bT (cB hi) ?_
  refine bs (uk hi) ?_
  refine bs (uk hi) ?_
  simp only[nV,V.toInt_int]
  by_cases h:p i=q i
  ·refine bF (by simp[h]) ?_
   rw[af h,ca (by omega)]
  ·refine bT (by simp;omega) ?_
   rw[ag h]
 ·simp only[SV,Fx]
  refine bF (bm (aw _)) ?_
  rw[bm (aw _)]
 ·by_cases h: ∀i,i<n→p i=q i
  ·rw[af h,b7 h];rfl
  ·rw[ag h,eB h];rfl
theorem anc {n:Nat} {p q:Nat→Nat} {i j:Nat} (hi:q i≤n) (hj:q j≤n):mR n p q i=mR n p q j↔p i=p j∧q i=q j:=by
 unfold mR
 constructor
 ·intro h
  have h1:(p i*(n+1)+q i)/(n+1)=p i:=by rw[jm,BP (by omega),BQ (by omega)];rfl
  have h2:(p j*(n+1)+q j)/(n+1)=p j:=by rw[jm,BP (by omega),BQ (by omega)];rfl
  have h3:p i=p j:=by rw[←h1,←h2,h]
  rw[h3] at h
  exact ⟨h3,by omega⟩
 ·rintro ⟨h1,h2⟩
  rw[h1,h2]
section
variable {a:Da} (h:a.Ok)
def kM (a:Da) (c:Nat→Nat):Nat→Nat→Nat
 | 0=>c
 | x+1=>da (mR a.n (kM a c x) fun q=>c (a.nx q x)) a.n
theorem acS {c:Nat→Nat} (hc: ∀q,q<a.n→c q<a.n): ∀x q,q<a.n→kM a c x q<a.n
 | 0,q,hq=>hc q hq
 | x+1,q,hq=>by
  have h1:=EX (g:=mR a.n (kM a c x) fun q=>c (a.nx q x)) hq
  have h2:=uf (mR a.n (kM a c x) fun q=>c (a.nx q x)) a.n
  show da _ _ _<_
  omega
include h
theorem ane {c:Nat→Nat} (hc: ∀q,q<a.n→c q<a.n): ∀x,x≤a.L→∀q q',q<a.n→q'<a.n→(kM a c x q=kM a c x q'↔c q=c q'∧∀y,y<x→c (a.nx q y)=c (a.nx q' y)):=by
 intro x
 induction x with
 | zero=>intro _ q q' _ _;exact ⟨fun e=>⟨e,fun y hy=>by omega⟩,fun e=>e.1⟩
 | succ x ih=>
  intro hx q q' hq cQ
  show da _ _ _=da _ _ _↔_
  rw[EY hq cQ,anc (by have:=hc _ (h.ej hq (show x<a.L by omega));omega) (by have:=hc _ (h.ej cQ (show x<a.L by omega));omega),ih (by omega) q q' hq cQ]
  constructor
  ·rintro ⟨⟨e1,e2⟩,e3⟩
   refine ⟨e1,fun y hy=> ?_⟩
   rcases eD y x with c1|c1
   ·exact e2 y c1
   ·rw[show y=x by omega];exact e3
  ·rintro ⟨e1,e2⟩
   exact ⟨⟨e1,fun y hy=>e2 y (by omega)⟩,e2 x (by omega)⟩
theorem anf {c:Nat→Nat} {x:Nat} (hx:x<a.L) {k1 k2:Int} {l1 l2:List V}:
  Loop (Lm CC (cV a.n c) l1 (x:Int) ((cV a.n c).length:Int) k1 k2 l2 a.cd) (0,([]:List V))=some ((a.n:Int),false,cV a.n fun q=>c (a.nx q x)):=by
 have hm:=h.fc
 rw[yu]
 refine (eW a.n (fun t=>((t:Int),(tab t fun q=>nV (c (a.nx q x))))) _ (fun q hq=> ?_) ?_)
 ·simp only[Lm,FB,un]
  refine bT (cB hq) ?_
  refine bs (Da.mO hq) ?_
  simp only[nL]
  refine bs (mP hx) ?_
  refine bs (uk (h.ej hq hx)) ?_
  refine bT (cap (by rw[cL];simp;omega) (by omega)) ?_
  rw[ca (by omega),iN]
  rfl
 ·simp only[Lm,FB,un]
  refine bF (bm (aw _)) ?_
  rw[bm (aw _)]
  rfl
theorem acT {c:Nat→Nat} (hc: ∀q,q<a.n→c q<a.n) {k2:Int} {l2:List V}:
  Loop (Ln CC (cV a.n c) (a.L:Int) k2 l2 a.cd) (cV a.n c,0)=some (cV a.n (kM a c a.L),(a.L:Int),false):=by
 have hm:=h.fc
 have h6:=h.l6
 refine (eW a.L (fun x=>(cV a.n (kM a c x),(x:Int))) _ (fun x hx=> ?_) ?_)
 ·simp only[Ln,FD,un]
  refine bT (cB hx) ?_
  refine bs (anf h hx) ?_
  refine bs (anb hm (fun q hq=>by have:=acS hc x q hq;omega) fun q hq=>by have:=hc _ (h.ej hq hx);omega) ?_
  rw[ca (by omega)]
  rfl
 ·simp only[Ln,FD,un]
  refine bF (bm (aw _)) ?_
  rw[bm (aw _)]
theorem ang {c0:Nat→Nat} (hp0:a.Part c0) (ho0:pK c0 a.n) (Iy: ∀q,q<a.n→c0 q<a.n) {k2:Int} {l2:List V}: ∃p,Loop (FF CC (a.L:Int) k2 l2 a.cd) (cV a.n c0)=some (cV a.n p)∧a.yi p∧∀q,q<a.n→p q<a.n:=by
 have hm:=h.fc
 have:=OO (step:=FF CC (a.L:Int) k2 l2 a.cd)
  (fun x=> ∃c,x=cV a.n c∧a.Part c∧pK c a.n∧∀q,q<a.n→c q<a.n)
  (fun x=>a.n-(bA (fun q=>(x.getD q (nV 0)).toInt) a.n).length)
  (fun r=> ∃p,r=cV a.n p∧a.yi p∧∀q,q<a.n→p q<a.n) (fun x hx=> ?_) (cV a.n c0) ⟨c0,rfl,hp0,ho0,Iy⟩
 ·obtain ⟨r,h1,p,rfl,h2,h3⟩:=this
  exact ⟨p,h1,h2,h3⟩
 ·obtain ⟨c,rfl,hp,ho,hc⟩:=hx
  have pL:a.KQ c (kM a c a.L):=fun q q' hq cQ=>(ane h hc a.L (aw _) q q' hq cQ).trans Da.yh.symm
  have hb:=acS hc a.L
  have yl: ∀q q',q<a.n→q'<a.n→kM a c a.L q=kM a c a.L q'→c q=c q':=fun q q' hq cQ e=>(Da.yh.1 ((pL q q' hq cQ).1 e)).1
  have jU:pK (kM a c a.L) a.n:=by
   have h1:=h.l1
   obtain ⟨m,hm⟩: ∃m,a.L=m+1:=⟨a.L-1,by omega⟩
   rw[hm]
   exact SA _ _
  by_cases he: ∀q,q<a.n→kM a c a.L q=c q
  ·right
   refine ⟨_,?_,c,rfl,⟨hp.ab7 h fun q q' hq cQ e=>(pL q q' hq cQ).1 (by rw[he q hq,he q' cQ,e]),ho⟩,hc⟩
   simp only[FF,FE,un]
   refine bs (acT h hc) ?_
   refine bs (acR (by omega)) ?_
   refine bT (by simpa using he) ?_
   rfl
  ·left
   refine ⟨cV a.n (kM a c a.L),?_,⟨kM a c a.L,rfl,pL.part h hp,jU,hb⟩,?_⟩
   ·simp only[FF,FE,un]
    refine bs (acT h hc) ?_
    refine bs (acR (by omega)) ?_
    refine bF (by rw[V.bZ,V.kG];exact eB he) ?_
    rfl
   ·have ec: ∀d:Nat→Nat,(bA (fun q=>((cV a.n d).getD q (nV 0)).toInt) a.n).length=(bA d a.n).length:=fun d=>by
     have key: ∀m,m≤a.n→bA (fun q=>((cV a.n d).getD q (nV 0)).toInt) m=(bA d m).map fun n:Nat=>(n:Int):=by
      intro m
      induction m with
      | zero=>intro _;rfl
      | succ m ih=>
       intro hm
       have e:((cV a.n d).getD m (nV 0)).toInt=(d m:Int):=by unfold cV;rw[ua (by omega)];rfl
       rw[bA,bA,ih (by omega),e]
       unfold dw
       by_cases hx:d m∈bA d m
       ·rw[af hx,af (gf.2 ⟨d m,hx,rfl⟩)]
       ·rw[ag hx,ag]
        ·simp
        ·intro h2
         obtain ⟨y,h3,h4⟩:=gf.1 h2
         exact hx ((show y=d m by omega)▸h3)
     rw[key a.n (aw _),bX]
    simp only[ec]
    have alO:=ab6 yl
    have hle:=uf (kM a c a.L) a.n
    have ct:(bA c a.n).length≠(bA (kM a c a.L) a.n).length:=by
     intro e
     have bP:=SB yl (by omega)
     refine he fun q hq=> ?_
     have h1:=aly (f:=kM a c a.L) (c:=c) (fun s s' hs vg=>⟨yl s s' hs vg,bP s s' hs vg⟩) q hq
     have own: ∀(d:Nat→Nat),pK d a.n→da d a.n q=d q:=fun d hd=>by
      have h2:d q∈bA d a.n:=kb.2 ⟨q,hq,rfl⟩
      unfold da
      rw[hd a.n (aw _)] at h2⊢
      have h3:=ia.1 h2
      have h4:=(List.nodup_range (n:=(bA d a.n).length)).idxOf_getElem (d q) (by rw[Hr];exact h3)
      rwa [List.getElem_range] at h4
     rw[own _ jU,own _ ho] at h1
     exact h1
    omega
theorem acU: ∃p,CC JB (cY a)=some [.list bJ (cV a.n p)]∧a.yi p∧∀q,q<a.n→p q<a.n:=by
 have hm:=h.fc
 have hf0: ∀q,q<a.n→(if a.fin q=true then 1 else 0)≤1000000000:=fun q _=>by split<;>omega
 have hb: ∀q,q<a.n→da (fun q=>if a.fin q=true then 1 else 0) a.n q<a.n:=fun q hq=>by
  have h1:=EX (g:=fun q=>if a.fin q=true then 1 else 0) hq
  have h2:=uf (fun q=>if a.fin q=true then 1 else 0) a.n
  omega
 obtain ⟨p,h1,h2,h3⟩:=ang h (c0:=da (fun q=>if a.fin q=true then 1 else 0) a.n)
  ⟨fun q q' hq cQ he=>(EY hq cQ).2 (by have:=he [] WL.nil;rw[Da.pJ,Da.pJ] at this;rw[this]),
   fun q q' hq cQ he=>by
   have h1:=(EY hq cQ).1 he
   revert h1
   cases a.fin q<;>cases a.fin q'<;>simp⟩ (SA _ _) hb (k2:=(a.st:Int)) (l2:=a.cG)
 refine ⟨p,am7 ?_,h2,h3⟩
 unfold acN
 rw[Da.mb]
 refine bT (mN (by omega) (by omega)) ?_
 rw[Int.toNat_natCast,oI,cL]
 refine bs (eW a.n (fun i=>((i:Int),(tab a.n fun j=>if j<i then nV (if a.fin j=true then 1 else 0) else nV 0))) ((a.n:Int),false,cV a.n fun q=>if a.fin q=true then 1 else 0) (fun q hq=> ?_) ?_) ?_
 ·simp only[SY,FA,un,ar,aS]
  refine bT (cB hq) ?_
  refine bs (Da.vK hq) ?_
  rw[ca (by omega),V.kG]
  cases hf:a.fin q with
  | true=>
   refine bT rfl ?_
   refine (dt hq).trans ?_
   rw[Int.toNat_natCast]
   exact congrArg (fun x=>some (Sum.inl (((q+1:Nat):Int),x))) (Ls (f:=fun j=>nV (if a.fin j=true then 1 else 0)) (by rw[hf];rfl))
  | false=>
   refine bF rfl ?_
   refine congrArg (fun x=>some (Sum.inl (((q+1:Nat):Int),x))) (dZ fun j _=> ?_)
   by_cases hj:j=q
   ·rw[ag (show¬j<q by omega),af (show j<q+1 by omega),hj,hf];rfl
   ·by_cases cK:j<q
    ·rw[af cK,af (show j<q+1 by omega)]
    ·rw[ag cK,ag (show¬j<q+1 by omega)]
 ·simp only[SY,FA,un,ar,aS]
  refine bF (bm (aw _)) ?_
  rw[bm (aw _)]
  exact congrArg (fun x=>some (Sum.inr ((a.n:Int),false,x))) (S3 (f:=fun j=>nV (if a.fin j=true then 1 else 0)))
 ·simp only[un]
  refine bs (acQ (by omega) hf0) ?_
  refine bs h1 ?_
  rfl
theorem anh {p:Nat→Nat} {q:Nat} (hq:q<a.n) {k1 k2 k3 k4 k5 k6 k7 k8 k9 SN:Int} {l1 l2 l3 l4 l5 l6 l7:List V}:
  Loop (Lq CC (cV a.n p) k1 k2 l1 k3 k4 (tab a.L fun x=>iV (a.nx q x)) ((tab a.L fun x=>iV (a.nx q x)).length:Int) k5 k6 l2 l3 k7 k8 k9 SN l4 l5 l6 l7) (0,([]:List V))=
   some ((a.L:Int),false,(tab a.L fun x=>nV (p (a.nx q x)))):=by
 have h6:=h.l6
 rw[cL]
 refine (eW a.L (fun t=>((t:Int),(tab t fun x=>nV (p (a.nx q x))))) _ (fun t ht=> ?_) ?_)
 ·simp only[Lq,FG,un]
  refine bT (cB ht) ?_
  refine bs (mP ht) ?_
  refine bs (uk (h.ej hq ht)) ?_
  refine bT (cap (by rw[cL];simp;omega) (by omega)) ?_
  rw[ca (by omega),iN]
  rfl
 ·simp only[Lq,FG,un]
  refine bF (bm (aw _)) ?_
  rw[bm (aw _)]
theorem ani {p:Nat→Nat} (ho:pK p a.n) {k2 k3 k4 k5 k6:Int} {l4 l5:List V}:
  Loop (Lr CC (cV a.n p) (cV a.n p) ((cV a.n p).length:Int) (a.L:Int) k2 a.cG a.cd k3 k4 k5 k6 l4 l5) (0,0,([]:List V),([]:List V))=
   some (((Da.ez p a.n).length:Int),(a.n:Int),false,qF a p a.n,qN a p a.n):=by
 have h6:=h.l6
 have hm:=h.fc
 rw[yu]
 refine (eW a.n (fun i=>(((Da.ez p i).length:Int),(i:Int),qF a p i,qN a p i)) _ (fun q hq=> ?_) ?_)
 ·have hle:=SM p q
  have hF:(qF a p q).length=(Da.ez p q).length:=by simp[qF]
  have hN:(qN a p q).length=(Da.ez p q).length:=by simp[qN]
  simp only[Lr,FH,un]
  refine bT (cB hq) ?_
  refine bs (uk hq) ?_
  rw[ca (by omega)]
  simp only[nV,V.toInt_int]
  by_cases hx:p q∈bA p q
  ·have:=(SK ho hq).1 hx
   refine bT (by simp;omega) ?_
   unfold qF qN
   rw[Da.ez,af hx]
  ·have e:p q=(Da.ez p q).length:=by
    have h1:=ho (q+1) (by omega)
    rw[KP hx,cX,List.length_singleton,sO] at h1
    rw[Da.AV]
    exact List.singleton_inj.1 (List.append_inj_right h1 (by simp))
   refine bF (by rw[e];simp) ?_
   refine bs (Da.mO hq) ?_
   simp only[nL]
   refine bs (anh h hq) ?_
   refine bT (cap (by rw[hN];simp;omega) (by omega)) ?_
   refine bs (Da.vK hq) ?_
   refine bT (cap (by rw[hF];simp;omega) (by omega)) ?_
   unfold qF qN
   rw[Da.ez,ag hx,nd,nd,cX,ca (by omega)]
   rfl
 ·simp only[Lr,FH,un]
  refine bF (bm (aw _)) ?_
  rw[bm (aw _)]
theorem A8:CC tJ (cY a)=some (cY (minD a)):=by
 obtain ⟨p,c1,c2,c3⟩:=acU h
 have hq:=Da.KS h c2
 obtain ⟨q1,q2⟩:=acm (a:=a) (p:=p)
 rw[←A3 h (Da.SC h c2)]
 refine ana ?_
 unfold acP
 refine bs c1 ?_
 refine bs (uk h.s) ?_
 refine bs (ani h c2.2) ?_
 simp only[un]
 rw[←q1,←q2]
 have z6:=amP hq
 refine bs z6 ?_
 rfl
end
end Go.AM
set_option maxRecDepth 100000
namespace Go.AM
open Go.Proofs Go.Sort
section
variable {α:Type} {enc:α→V}
def sB (enc:α→V) (d:Array α):List V:=d.toList.map enc
theorem iy (d:Array α):(sB enc d).length=d.size:=by simp[sB]
theorem gZ (d:Array α) (i:Nat) (x:α):(sB enc d).set i (enc x)=sB enc (d.setIfInBounds i x):=by
 unfold sB;rw[Array.toList_setIfInBounds,List.map_set]
variable [Inhabited α]
theorem iz {d:Array α} {i:Nat} (h:i<d.size):(sB enc d)[i]? =some (enc d[i]!):=by
 unfold sB;rw[eZ,ry,mj h,getElem!_pos d i h];rfl
theorem jI {d:Array α} {i j:Nat} {x:α} (h:i<d.size):(sB enc (d.setIfInBounds j x))[i]? =some (enc (d.setIfInBounds j x)[i]!):=iz (by rw[iX];exact h)
theorem g9 (a b:Nat):(a:Int)+(b:Int)=((a+b:Nat):Int):=(Int.natCast_add a b).symm
theorem dP (a:Nat):(a:Int)+1=((a+1:Nat):Int):=rfl
theorem vP (a:Nat):((a+1:Nat):Int)-1=(a:Int):=by omega
theorem FI (a:Nat):(a:Int)*2=((a*2:Nat):Int):=by omega
theorem oN {a b:Nat} (h:b≤a):(a:Int)-(b:Int)=((a-b:Nat):Int):=by omega
theorem ll {a:Nat} (h:1≤a):(a:Int)-1=((a-1:Nat):Int):=by omega
theorem divC (a b:Nat):Int.tdiv (a:Int) (b:Int)=((a/b:Nat):Int):=by rw[Int.tdiv_eq_ediv_of_nonneg (by omega)];rfl
theorem pO {p:Prop} [Decidable p] (h:p):decide p=true:=b7 h
theorem pP {p:Prop} [Decidable p] (h: ¬p):decide p=false:=eB h
theorem A9 (p:α→Bool) (d:Array α) (j i:Nat):scanUp p d j i=if i≤j then (if p d[i]! =true then scanUp p d j (i+1) else i) else i:=by
 conv=>lhs;rw[scanUp]
 by_cases h:i≤j
 ·rw[af h];simp only[h,wg,zh]
 ·rw[ag h,ag (by simp[h])]
theorem S4 (p:α→Bool) (d:Array α) (i j:Nat):scanDown p d i (j+1)=if i≤j+1 then (if p d[j+1]! =true then scanDown p d i j else j+1) else j+1:=by
 conv=>lhs;rw[scanDown]
 by_cases h:i≤j+1
 ·rw[af h];simp only[h,wg,zh]
 ·rw[ag h,ag (by simp[h])]
variable {lt:α→α→Bool}
theorem acV (a j:Nat) (d:Array α):insInner lt a (j+1) d=if j+1>a&&lt d[j+1]! d[j]! then insInner lt a j (swp d (j+1) j) else d:=rfl
theorem S5 {a:Nat}: ∀(j:Nat) (d:Array α),(insInner lt a j d).size=d.size
 | 0,d=>rfl
 | j+1,d=>by
  rw[acV]
  split
  ·rw[S5 j,size_swp]
  ·rfl
theorem FJ (hi first:Nat): ∀(n root:Nat) (d:Array α),hi-root≤n→(siftDown lt hi first root d).size=d.size:=by
 intro n
 induction n with
 | zero=>intro root d h;rw[siftDown,qb (by omega)]
 | succ n ih=>
  intro root d h
  rw[siftDown]
  split
  ·rfl
  ·split
   ·split
    ·rfl
    ·split
     ·rw[ih _ _ (by omega),size_swp]
     ·rfl
   ·split
    ·rfl
    ·rw[ih _ _ (by omega),size_swp]
theorem S6 (hi first:Nat): ∀(k:Nat) (d:Array α),(heapBuild lt hi first k d).size=d.size
 | 0,d=>rfl
 | k+1,d=>by rw[heapBuild,S6,FJ _ _ _ _ _ (aw _)]
end
end Go.AM
set_option maxRecDepth 100000
namespace Go.AM
open Go.Proofs
noncomputable def FK (C:ab) (t7:LV) (t8 t9:Int) (outs:LV) (S7 S8 S9 k':Int) {β:Type} (kn:Int→Option β) (kr:(Int × Bool)→Option β):Option β:=
 bif decide ((k':Int)>0) then
  ar outs (IntKind.wrap .i64 (k'-1)) fun x2=>
  (C DZ [V.int .i64 S7,V.int .i64 S8,V.int .i64 S9,V.int .i64 ((x2.cell 0).toInt),V.int .i64 ((x2.cell 1).toInt),V.int .i64 ((x2.cell 2).toInt)]).bind fun r3=>
  bif (V.nth r3 0).toBool then
  kn (IntKind.wrap .i64 (k'-1))
  else
  kr (k',(V.nth r3 0).toBool)
 else
  kr (k',false)
noncomputable def FL (C:ab) (t7:LV) (t8 t9:Int) (outs:LV) (S7 S8 S9:Int):=fun k'=>FK C t7 t8 t9 outs S7 S8 S9 k' (fun y=>some (Sum.inl y)) (fun r=>some (Sum.inr r))
noncomputable def FM (C:ab) (t7:LV) (t8 t9:Int) (outs:LV) {β:Type} (kn:(Int × LV)→Option β) (kr:(Int × Bool × LV)→Option β):Option β:=
 bif decide ((t9:Int)<t8) then
  (idx t7 t9).bind fun x1=>
  (Loop (FL C t7 t8 t9 outs ((x1.cell 0).toInt) ((x1.cell 1).toInt) ((x1.cell 2).toInt)) (outs.length:Int)).bind (un fun (gq:Int) (lj:Bool)=>
   bif (gq:Int)==0 then
   bif (decide (0≤gq))&&(decide (gq≤(outs.length:Int))) then
    bif Nat.ble ((([]:LV).length+((outs.drop 0).take (((gq:Int).toNat)-0)).length)*24) bM then
    bif Nat.ble (((([]:LV)++((outs.drop 0).take (((gq:Int).toNat)-0))).length+([.agg [V.int .i64 ((x1.cell 0).toInt),V.int .i64 ((x1.cell 1).toInt),V.int .i64 ((x1.cell 2).toInt)]]:LV).length)*24) bM then
     bif (decide (0≤gq))&&(decide (gq≤(outs.length:Int))) then
     bif Nat.ble ((((([]:LV)++((outs.drop 0).take (((gq:Int).toNat)-0)))++([.agg [V.int .i64 ((x1.cell 0).toInt),V.int .i64 ((x1.cell 1).toInt),V.int .i64 ((x1.cell 2).toInt)]]:LV)).length+((outs.drop ((gq:Int).toNat)).take (outs.length-((gq:Int).toNat))).length)*24) bM then
      kn (IntKind.wrap .i64 (t9+1),((([]:LV)++((outs.drop 0).take (((gq:Int).toNat)-0)))++([.agg [V.int .i64 ((x1.cell 0).toInt),V.int .i64 ((x1.cell 1).toInt),V.int .i64 ((x1.cell 2).toInt)]]:LV))++((outs.drop ((gq:Int).toNat)).take (outs.length-((gq:Int).toNat))))
     else none
     else none
    else none
    else none
   else none
   else
   ar outs (IntKind.wrap .i64 (gq-1)) fun x6=>
   bif !(((((x6.cell 0).toInt):Int)==((x1.cell 0).toInt))&&(((((x6.cell 1).toInt):Int)==((x1.cell 1).toInt))&&(((((x6.cell 2).toInt):Int)==((x1.cell 2).toInt))&&true))) then
    bif (decide (0≤gq))&&(decide (gq≤(outs.length:Int))) then
    bif Nat.ble ((([]:LV).length+((outs.drop 0).take (((gq:Int).toNat)-0)).length)*24) bM then
     bif Nat.ble (((([]:LV)++((outs.drop 0).take (((gq:Int).toNat)-0))).length+([.agg [V.int .i64 ((x1.cell 0).toInt),V.int .i64 ((x1.cell 1).toInt),V.int .i64 ((x1.cell 2).toInt)]]:LV).length)*24) bM then
     bif (decide (0≤gq))&&(decide (gq≤(outs.length:Int))) then
      bif Nat.ble ((((([]:LV)++((outs.drop 0).take (((gq:Int).toNat)-0)))++([.agg [V.int .i64 ((x1.cell 0).toInt),V.int .i64 ((x1.cell 1).toInt),V.int .i64 ((x1.cell 2).toInt)]]:LV)).length+((outs.drop ((gq:Int).toNat)).take (outs.length-((gq:Int).toNat))).length)*24) bM then
      kn (IntKind.wrap .i64 (t9+1),((([]:LV)++((outs.drop 0).take (((gq:Int).toNat)-0)))++([.agg [V.int .i64 ((x1.cell 0).toInt),V.int .i64 ((x1.cell 1).toInt),V.int .i64 ((x1.cell 2).toInt)]]:LV))++((outs.drop ((gq:Int).toNat)).take (outs.length-((gq:Int).toNat))))
      else none
     else none
     else none
    else none
    else none
   else
    kn (IntKind.wrap .i64 (t9+1),outs))
 else
  kr (t9,decide ((t9:Int)<t8),outs)
noncomputable def FN (C:ab) (t7:LV) (t8:Int):=un fun t9 outs=>FM C t7 t8 t9 outs (fun y=>some (Sum.inl y)) (fun r=>some (Sum.inr r))
noncomputable def acW (C:ab):bR:=bd 97 Qw [true,false,false,false,false,false,false,false] [[0,2,3,4,0,5,6,7,8]] (@FK C) (bd 49 Qx [false,false,true,true] [[1,2,0,0,0]] (@FM C) bw)
theorem anj (C:ab):aQ C (acW C) 57 (Lp [1,1,0,1,0,0,1,1,0,0,1,1,0,0,0] 57):=bc Qw [true,false,false,false,false,false,false,false] [[0,2,3,4,0,5,6,7,8]] (@FK C) (aA ak)
theorem ank (C:ab):aQ C (acW C) 57 (Lp [1,1,0,1,0,0] 57):=bc Qx [false,false,true,true] [[1,2,0,0,0]] (@FM C) (aA (aO (anj C) ak))
noncomputable def acX (C:ab) (l:LV):Option LV:=
 (Loop (FN C l (l.length:Int)) (0,([]:LV))).bind (un fun (jE:Int)=>un fun (mJ:Bool) (Ta:LV)=>
  some [.list aL Ta])
theorem anl {l:LV} {r:Option LV} (h:acX CC l=r):CC DR [.list aL l]=r:=bu (aO (ank CC) ak) h
end Go.AM
set_option maxRecDepth 100000
set_option maxHeartbeats 1000000
namespace Go.AM
open Go.Proofs
theorem Ed.lt_irrefl (a:Ed): ¬a.lt a:=by unfold Ed.lt;omega
theorem Ed.lt_trans {a b c:Ed}:a.lt b→b.lt c→a.lt c:=by unfold Ed.lt;omega
theorem Ed.lt_asymm {a b:Ed}:a.lt b→¬b.lt a:=by unfold Ed.lt;omega
theorem Ed.Tb {a b:Ed} (h1: ¬a.lt b) (h2: ¬b.lt a):a=b:=by
 cases a;cases b
 simp only[Ed.lt,Ed.mk.injEq] at*
 omega
abbrev ln (E:List Ed):Prop:=E.Pairwise Ed.lt
def Ed.key (e:Ed):Nat:=(e.f.toNat*6+e.l.toNat)*64+e.t.toNat
theorem Ed.anm {a b:Ed} {L S:Int} (hL:L≤6) (hS:S≤64) (ha:a.In L S) (hb:b.In L S) (h:a.lt b):a.key<b.key:=by
 unfold Ed.In at ha hb
 unfold Ed.lt at h
 unfold Ed.key
 omega
theorem ano {L S:Int} (hL:L≤6) (hS:S≤64): ∀(E:List Ed),ln E→(∀e∈E,e.In L S)→∀i (hi:i<E.length),i≤E[i].key:=by
 intro E h hE i
 induction i with
 | zero=>intro hi;omega
 | succ i ih=>
  intro hi
  have h1:=ih (by omega)
  have h2:=(zg.1 h) i (i+1) (by omega) hi (by omega)
  have:=Ed.anm hL hS (hE _ (ep _)) (hE _ (ep _)) h2
  omega
theorem anp {L S:Int} (hL:L≤6) (hS:S≤64) {E:List Ed} (h:ln E) (hE: ∀e∈E,e.In L S):E.length≤24576:=by
 by_cases h0:E.length=0
 ·omega
 ·have h1:=ano hL hS E h hE (E.length-1) (by omega)
  have h2:=hE E[E.length-1] (ep _)
  unfold Ed.In at h2
  unfold Ed.key at h1
  omega
theorem FO: ∀{A B:List Ed},ln A→ln B→(∀x,x∈A↔x∈B)→A=B
 | [],[],_,_,_=>rfl
 | [],b::B,_,_,h=>by have:=(h b).2 (by simp);cases this
 | a::A,[],_,_,h=>by have:=(h a).1 (by simp);cases this
 | a::A,b::B,hA,hB,h=>by
  have a1:=wm.1 hA
  have b1:=wm.1 hB
  have fN:a=b:=by
   have ha:=(h a).1 (by simp)
   have hb:=(h b).2 (by simp)
   rcases gK.1 ha with e|e
   ·exact e
   ·rcases gK.1 hb with e'|e'
    ·exact e'.symm
    ·exact absurd (a1.1 b e') (Ed.lt_asymm (b1.1 a e))
  subst fN
  rw[FO a1.2 b1.2 fun x=> ?_]
  constructor
  ·intro hx
   rcases gK.1 ((h x).1 (by simp[hx])) with e|e
   ·subst e;exact absurd (a1.1 x hx) (Ed.lt_irrefl x)
   ·exact e
  ·intro hx
   rcases gK.1 ((h x).2 (by simp[hx])) with e|e
   ·subst e;exact absurd (b1.1 x hx) (Ed.lt_irrefl x)
   ·exact e
theorem anq {E:List Ed} (h:ln E):E.Nodup:=List.Pairwise.imp (fun fN e=>by subst e;exact Ed.lt_irrefl _ fN) h
theorem anr {R l:List Ed} (hp:R.Perm l) (hn:l.Nodup) (hs:R.Pairwise (fun x y=> ¬y.lt x)):ln R:=by
 have C7:R.Nodup:=hp.nodup_iff.2 hn
 refine List.Pairwise.imp₂ (fun a b h1 h2=> ?_) hs C7
 by_cases h:a.lt b
 ·exact h
 ·exact absurd (Ed.Tb h h1) h2
def jJ (out:List Ed) (e:Ed):Nat→Nat
 | 0=>0
 | k+1=>if e.lt (out.getD k default) then jJ out e k else k+1
def n0 (out:List Ed) (e:Ed):List Ed:=
 if jJ out e out.length=0∨¬out.getD (jJ out e out.length-1) default=e then out.take (jJ out e out.length)++[e]++out.drop (jJ out e out.length) else out
def iQ (l:List Ed):List Ed:=l.foldl n0 []
theorem FP (out:List Ed) (e:Ed): ∀k,jJ out e k≤k
 | 0=>aw _
 | k+1=>by unfold jJ;split;exact Nat.le_succ_of_le (FP out e k);exact aw _
theorem acY (out:List Ed) (e:Ed): ∀k i,jJ out e k≤i→i<k→e.lt (out.getD i default)
 | 0,i,_,h=>by omega
 | k+1,i,h1,h2=>by
  unfold jJ at h1
  split at h1
  ·rename_i h3
   by_cases hi:i=k
   ·subst hi;exact h3
   ·exact acY out e k i h1 (by omega)
  ·omega
theorem acZ (out:List Ed) (e:Ed): ∀k,jJ out e k≠0→¬e.lt (out.getD (jJ out e k-1) default)
 | 0,h=>by simp[jJ] at h
 | k+1,h=>by
  unfold jJ at h⊢
  split
  ·rename_i h3
   rw[af h3] at h
   exact acZ out e k h
  ·rename_i h3
   simpa using h3
theorem ans {out:List Ed} {e x:Ed} (hk:jJ out e out.length≤out.length):x∈n0 out e↔x=e∨x∈out:=by
 unfold n0
 split
 ·rename_i h
  have:=List.take_append_drop (jJ out e out.length) out
  constructor
  ·intro hx
   simp only[db,eP,iA] at hx
   rcases hx with hx|hx|hx
   ·exact .inr (Hm hx)
   ·exact .inl hx
   ·exact .inr (List.mem_of_mem_drop hx)
  ·rintro (rfl|hx)
   ·simp
   ·rw[←this] at hx
    simp only[eP] at hx
    simp only[db,eP,iA]
    rcases hx with hx|hx
    ·exact .inl hx
    ·exact .inr (.inr hx)
 ·rename_i h
  simp only[not_or,Classical.not_not] at h
  constructor
  ·exact .inr
  ·rintro (rfl|hx)
   ·have h1:=h.2
    have h2:jJ out x out.length-1<out.length:=by omega
    rw[←h1]
    simp[h2]
   ·exact hx
theorem ant {out:List Ed} {e:Ed} (h:ln out):ln (n0 out e):=by
 have hk:=FP out e out.length
 have up:=acY out e out.length
 have dn:=acZ out e out.length
 unfold n0
 generalize hq:jJ out e out.length=k at*
 split
 ·rename_i hc
  have g:=zg.1 h
  have jY: ∀x∈out.take k,x.lt e:=by
   intro x hx
   obtain ⟨i,hi,rfl⟩:=wo hx
   have eK:i<k:=by rw[iU] at hi;omega
   have tp:i<out.length:=by omega
   rw[List.getElem_take]
   have FQ:k≠0:=by omega
   have h1:=dn FQ
   have h2: ¬out.getD (k-1) default=e:=by
    rcases hc with hc|hc
    ·exact absurd hc FQ
    ·exact hc
   have nu:k-1<out.length:=by omega
   have e1:out.getD (k-1) default=out[k-1]:=by simp[nu]
   rw[e1] at h1 h2
   have h3:out[k-1].lt e:=by
    by_cases h4:out[k-1].lt e
    ·exact h4
    ·exact absurd (Ed.Tb h4 h1) h2
   by_cases hik:i=k-1
   ·subst hik;exact h3
   ·exact Ed.lt_trans (g i (k-1) tp nu (by omega)) h3
  have jd: ∀y∈out.drop k,e.lt y:=by
   intro y hy
   obtain ⟨i,hi,rfl⟩:=wo hy
   rw[wh] at hi
   rw[List.getElem_drop]
   have:=up (k+i) (by omega) (by omega)
   have e1:out.getD (k+i) default=out[k+i]:=by simp[show k+i<out.length by omega]
   rwa [e1] at this
  rw[ln,db,Hn]
  refine ⟨h.sublist (List.take_sublist _ _),?_,?_⟩
  ·rw[List.singleton_append,wm]
   exact ⟨jd,h.sublist (List.drop_sublist _ _)⟩
  ·intro x hx y hy
   rw[List.singleton_append,gK] at hy
   rcases hy with rfl|hy
   ·exact jY x hx
   ·exact Ed.lt_trans (jY x hx) (jd y hy)
 ·exact h
theorem Tc: ∀(l out:List Ed),ln out→ln (l.foldl n0 out)∧∀x,x∈l.foldl n0 out↔x∈l∨x∈out
 | [],out,h=>⟨h,by simp⟩
 | e::l,out,h=>by
  obtain ⟨h1,h2⟩:=Tc l (n0 out e) (ant h)
  refine ⟨h1,fun x=> ?_⟩
  rw[List.foldl_cons,h2,ans (FP _ _ _)]
  simp only[gK]
  constructor
  ·rintro (h|h|h)
   ·exact .inl (.inr h)
   ·exact .inl (.inl h)
   ·exact .inr h
  ·rintro ((h|h)|h)
   ·exact .inr (.inl h)
   ·exact .inl h
   ·exact .inr (.inr h)
theorem yv (l:List Ed):ln (iQ l):=(Tc l [] List.Pairwise.nil).1
theorem pQ {l:List Ed} {x:Ed}:x∈iQ l↔x∈l:=by
 have:=(Tc l [] List.Pairwise.nil).2 x
 simpa[iQ] using this
theorem ac0 (out:List Ed) (e:Ed):(n0 out e).length≤out.length+1:=by
 unfold n0
 have:=FP out e out.length
 split
 ·simp only[cX,iU,wh,List.length_cons,List.length_nil];omega
 ·omega
theorem ac1 {out:List Ed} {e:Ed} {t7:List V} {t8 t9:Int}: ∀k,k≤out.length→out.length<1152921504606846976→∃t,Loop (FL CC t7 t8 t9 (out.map Ed.enc) e.f e.l e.t) (k:Int)=some (((jJ out e k:Nat):Int),t)
 | 0,_,_=>⟨false,cI (by
   simp (disch:=omega) only[FL,FK,aG,ag,ar]
   rfl)⟩
 | k+1,hk,hs=>by
  obtain ⟨t,ih⟩:=ac1 (out:=out) (e:=e) (t7:=t7) (t8:=t8) (t9:=t9) k (by omega) hs
  have e1:FL CC t7 t8 t9 (out.map Ed.enc) e.f e.l e.t ((k+1:Nat):Int)=bif decide (e.lt (out.getD k default)) then some (.inl (k:Int)) else some (.inr (((k+1:Nat):Int),decide (e.lt (out.getD k default)))):=by
   simp only[FL,FK,ar]
   rw[aG,aZ,vP,dr,dx,aG,aZ,aG,af (by rw[bX];omega),Int.toNat_natCast]
   have hg:(out.map Ed.enc)[k]? =some (out.getD k default).enc:=by
    rw[eZ,bU (by omega)];simp[show k<out.length by omega]
   rw[hg]
   simp only[Option.bind_some,Ed.iI,Ed.iJ,Ed.iK,aa2,V.bZ,V.kG]
  unfold jJ
  by_cases h:e.lt (out.getD k default)
  ·rw[af h]
   rw[b7 h,cond_true] at e1
   exact ⟨t,(eQ e1).trans ih⟩
  ·rw[ag h]
   rw[eB h,cond_false] at e1
   exact ⟨_,cI e1⟩
theorem FR (a b:Ed):((a.f==b.f)&&((a.l==b.l)&&((a.t==b.t)&&true)))=decide (a=b):=by
 cases a;cases b
 rw[od]
 simp
theorem anu (out:List Ed) (k:Nat) (e:Ed):((([]:List V)++(((out.map Ed.enc).drop 0).take (k-0)))++([e.enc]:List V))++(((out.map Ed.enc).drop k).take ((out.map Ed.enc).length-k))=(out.take k++[e]++out.drop k).map Ed.enc:=by
 simp
 rw[zj (by simp)]
theorem ac2 {l:List Ed} (hl:l.length≤1000000000):CC DR [.list aL (l.map Ed.enc)]=some [.list aL ((iQ l).map Ed.enc)]:=by
 refine anl ?_
 unfold acX
 have:=Kq (step:=FN CC (l.map Ed.enc) ((l.map Ed.enc).length:Int)) l (fun i (out:List Ed)=>((i:Int),out.map Ed.enc)) n0 (fun out=>((l.length:Int),false,out.map Ed.enc)) (fun i out=>out.length≤i) ?_ ?_ [] (aw _)
 ·rw[show Loop (FN CC (l.map Ed.enc) ((l.map Ed.enc).length:Int)) (0,([]:List V))=_ from this.1]
  rfl
 ·intro i out hi ho
  refine ⟨?_,kh (ac0 _ _) (by omega)⟩
  obtain ⟨t,h1⟩:=ac1 (out:=out) (e:=l[i]) (t7:=l.map Ed.enc) (t8:=((l.map Ed.enc).length:Int)) (t9:=(i:Int)) out.length (aw _) (by omega)
  have hk:=FP out l[i] out.length
  simp only[FN,FM,un,ar]
  rw[aG,af (by rw[bX];omega),sk hi,show l.getD i default=l[i] by simp[hi]]
  simp only[Option.bind_some,Ed.iI,Ed.iJ,Ed.iK]
  rw[show ((out.map Ed.enc).length:Int)=((out.length:Nat):Int) by simp,h1]
  simp only[Option.bind_some,un,Ed.re]
  unfold n0
  generalize jJ out l[i] out.length=k at*
  have ac3: ∀X:Option (((Int × List V)) ⊕ (Int × Bool × List V)),X=some (.inl (IntKind.wrap .i64 ((i:Int)+1),((([]:List V)++(((out.map Ed.enc).drop 0).take (((k:Int).toNat)-0)))++([l[i].enc]:List V))++(((out.map Ed.enc).drop ((k:Int).toNat)).take ((out.map Ed.enc).length-((k:Int).toNat)))))→
    X=some (.inl (((i+1:Nat):Int),(out.take k++[l[i]]++out.drop k).map Ed.enc)):=by
   intro X hX
   rw[hX,Int.toNat_natCast,anu,dP,dr]
  have lens:(([]:List V).length+(((out.map Ed.enc).drop 0).take (((k:Int).toNat)-0)).length)*24≤bM∧
    ((([]:List V)++(((out.map Ed.enc).drop 0).take (((k:Int).toNat)-0))).length+([l[i].enc]:List V).length)*24≤bM∧
    (((([]:List V)++(((out.map Ed.enc).drop 0).take (((k:Int).toNat)-0)))++([l[i].enc]:List V)).length+(((out.map Ed.enc).drop ((k:Int).toNat)).take ((out.map Ed.enc).length-((k:Int).toNat))).length)*24≤bM:=by
   rw[vG]
   simp only[Int.toNat_natCast,cX,iU,wh,bX,List.length_nil,List.length_cons]
   omega
  by_cases FQ:k=0
  ·rw[af (Or.inl FQ),pw,aZ]
   refine ac3 _ ?_
   rw[dx,aG,aZ,aG,aZ,sa,af lens.1,sa,af lens.2.1,dx,aG,aZ,aG,aZ,sa,af lens.2.2]
  ·rw[pw,bK,ll (by omega),wrap64 (x:=((k-1:Nat):Int)) (by omega) (by omega),dx,aG,aZ,aG,aZ,Int.toNat_natCast]
   have hg:(out.map Ed.enc)[k-1]? =some (out.getD (k-1) default).enc:=by
    rw[eZ,bU (by omega)];simp[show k-1<out.length by omega]
   rw[hg]
   simp only[Option.bind_some,Ed.iI,Ed.iJ,Ed.iK,FR]
   by_cases hc:out.getD (k-1) default=l[i]
   ·rw[ag (fun hx=>hx.elim FQ (fun h=>h hc)),b7 hc]
    simp only[BM,cond_false]
    rw[dP,dr]
   ·rw[af (Or.inr hc),eB hc]
    simp only[Bool.not_false,cond_true]
    refine ac3 _ ?_
    rw[dx,aG,aZ,aG,aZ,sa,af lens.1,sa,af lens.2.1,dx,aG,aZ,aG,aZ,sa,af lens.2.2]
 ·intro out ho
  simp only[FN,FM,un,ar]
  rw[bX,pP (by omega),cond_false]
end Go.AM
set_option maxRecDepth 100000
namespace Go.AM
open Go.Proofs
noncomputable def Ba (C:ab) (FT yw:Nat) (k' mc:Int) (ss:LV) {β:Type} (kn:(Int × Int × LV)→Option β) (kr:(Int × Int × Bool × LV)→Option β):Option β:=
 bif decide ((mc:Int)<(yw:Int)) then
  bif (decide (0≤mc))&&(decide (mc<(yw:Int))) then
  (ss[FT+((mc:Int).toNat)]?).bind fun x3=>
  bif (decide (0≤(IntKind.wrap .i64 (mc-1))))&&(decide ((IntKind.wrap .i64 (mc-1))<(yw:Int))) then
   (ss[FT+((IntKind.wrap .i64 (mc-1):Int).toNat)]?).bind fun x4=>
   bif !(((((x3.cell 0).toInt):Int)==((x4.cell 0).toInt))&&(((((x3.cell 1).toInt):Int)==((x4.cell 1).toInt))&&(((((x3.cell 2).toInt):Int)==((x4.cell 2).toInt))&&true))) then
   bif (decide (0≤mc))&&(decide (mc<(yw:Int))) then
    (ss[FT+((mc:Int).toNat)]?).bind fun x5=>
    ar ss k' fun x6=>
    kn (IntKind.wrap .i64 (k'+1),IntKind.wrap .i64 (mc+1),aS ss k' (.agg [V.int .i64 ((x5.cell 0).toInt),V.int .i64 ((x5.cell 1).toInt),V.int .i64 ((x5.cell 2).toInt)]))
   else none
   else
   kn (k',IntKind.wrap .i64 (mc+1),ss)
  else none
  else none
 else
  kr (k',mc,decide ((mc:Int)<(yw:Int)),ss)
noncomputable def yx (C:ab) (FT yw:Nat):=un fun k'=>un fun mc ss=>Ba C FT yw k' mc ss (fun y=>some (Sum.inl y)) (fun r=>some (Sum.inr r))
noncomputable def Bb (C:ab) (ss:LV) (k':Int) {β:Type} (kn:Int→Option β) (kr:(LV ⊕ (Int × Bool))→Option β):Option β:=
 bif decide ((k':Int)<(ss.length:Int)) then
  ar ss k' fun x1=>
  ar ss (IntKind.wrap .i64 (k'-1)) fun x2=>
  bif ((((x1.cell 0).toInt):Int)==((x2.cell 0).toInt))&&(((((x1.cell 1).toInt):Int)==((x2.cell 1).toInt))&&(((((x1.cell 2).toInt):Int)==((x2.cell 2).toInt))&&true)) then
  bif (decide (0≤k'))&&(decide (k'≤(ss.length:Int))) then
   (Loop (yx C ((k':Int).toNat) (ss.length-((k':Int).toNat))) (k',1,ss)).bind (un fun (oO:Int)=>un fun (k_8:Int)=>un fun (sq:Bool) (um:LV)=>
    bif (decide (0≤oO))&&(decide (oO≤(um.length:Int))) then
    bif (decide (0≤oO))&&(decide (oO≤((um.take ((oO:Int).toNat)++(List.replicate (um.length-((oO:Int).toNat)) (V.agg [V.int .i64 0,V.int .i64 0,V.int .i64 0])++um.drop (((oO:Int).toNat)+(um.length-((oO:Int).toNat))))).length:Int))) then
     kr (.inl ((um.take ((oO:Int).toNat)++(List.replicate (um.length-((oO:Int).toNat)) (V.agg [V.int .i64 0,V.int .i64 0,V.int .i64 0])++um.drop (((oO:Int).toNat)+(um.length-((oO:Int).toNat))))).take ((oO:Int).toNat)))
    else none
    else none)
  else none
  else
  kn (IntKind.wrap .i64 (k'+1))
 else
  kr (.inr (k',decide ((k':Int)<(ss.length:Int))))
noncomputable def yz (C:ab) (ss:LV):=fun k'=>Bb C ss k' (fun y=>some (Sum.inl y)) (fun r=>some (Sum.inr r))
noncomputable def ac4 (C:ab):bR:=bd 145 Qm [true,false,false,true,true] [[0,2,3,0,0,0]] (@Ba C) (bd 65 Qn [true,false] [[0],[0,0,2]] (@Bb C) bw)
theorem anv (C:ab):aQ C (ac4 C) 54 (Lp [1,1,0,1,0,0,1,0,0,1,0,1,0,1,0,0] 54):=bc Qm [true,false,false,true,true] [[0,2,3,0,0,0]] (@Ba C) (aA ak)
theorem anw (C:ab):aQ C (ac4 C) 54 (Lp [1,1,0,1,0,0] 54):=bc Qn [true,false] [[0],[0,0,2]] (@Bb C) (aA (aO (anv C) ak))
noncomputable def Lt (C:ab) (ss:LV):Option LV:=
 bif decide (((ss.length:Int):Int)<2) then
  some [V.bool true,.list aL ss]
 else
  (Loop (yz C ss) 1).bind (dI (fun (anx:LV)=>
   some [V.bool false,.list aL anx]) (un fun (auy:Int) (pH:Bool)=>
   some [V.bool true,.list aL ss]))
theorem Td {ss:LV} {r:Option LV} (h:Lt CC ss=r):CC JA [.list aL ss]=r:=bu (aO (anw CC) ak) h
def pR (prev:Ed):List Ed→List Ed
 | []=>[]
 | x::l=>if x=prev then pR x l else x::pR x l
def jK:List Ed→List Ed
 | []=>[]
 | x::l=>x::pR x l
theorem Te {l:List Ed} {j:Nat} (h:j<l.length):l.take (j+1)=l.take j++[l.getD j default]:=by
 rw[zi h];simp[h]
theorem ac5 {l ss:List Ed} {j:Nat} (hl:ss.length=l.length) (h:ss.drop j=l.drop j) (hj:j<l.length):ss.getD j default=l.getD j default:=by
 have h1:=congrArg (fun x:List Ed=>x.getD 0 default) h
 simpa[hj,hl] using h1
theorem FU {l:List Ed} {i:Nat} (h:i<l.length):(l.map Ed.enc)[i]? =some (l.getD i default).enc:=by simp[h]
theorem anz (ss:List Ed) (m:Nat) (z:V) (hm:m≤ss.length):((((ss.map Ed.enc).take m++(List.replicate ((ss.map Ed.enc).length-m) z++(ss.map Ed.enc).drop (m+((ss.map Ed.enc).length-m)))).take m)=(ss.take m).map Ed.enc):=by
 rw[List.take_append_of_le_length (by simp;omega),zj (by simp;omega),List.map_take]
theorem ac6: ∀(m:List Ed) (prev x:Ed),pR prev (m++[x])=pR prev m++(if x=(prev::m).getD m.length default then [] else [x])
 | [],prev,x=>by simp only[List.nil_append,pR,List.length_nil,List.getD_cons_zero]
 | y::m,prev,x=>by
  have ih:=ac6 m y x
  simp only[List.cons_append,pR,List.length_cons,List.getD_cons_succ]
  split
  ·exact ih
  ·rw[ih];rfl
theorem ac7 {l:List Ed} {p:Nat} (h1:1≤p) (h2:p<l.length):jK (l.take (p+1))=jK (l.take p)++(if l.getD p default=l.getD (p-1) default then [] else [l.getD p default]):=by
 match l,p,h1,h2 with
 | y::l,p+1,_,h2=>
  simp only[List.length_cons] at h2
  rw[List.take_succ_cons,List.take_succ_cons,jK,jK,Te (by omega),ac6]
  simp only[List.getD_cons_succ,iU,zc]
  rw[show min p l.length=p by omega]
  have:(y::l.take p).getD p default=(y::l).getD p default:=by
   match p with
   | 0=>rfl
   | q+1=>simp only[List.getD_cons_succ];rw[o4,o4,fB (by omega)]
  rw[this];rfl
theorem ac8: ∀(m:List Ed) (prev:Ed),(prev::m).Pairwise (fun x y=> ¬y.lt x)→ln (prev::pR prev m)∧∀x,x∈prev::pR prev m↔x∈prev::m
 | [],prev,_=>⟨by simp[pR],by simp[pR]⟩
 | y::m,prev,h=>by
  have h1:=wm.1 h
  obtain ⟨i1,i2⟩:=ac8 m y h1.2
  rw[pR]
  by_cases hc:y=prev
  ·rw[af hc]
   subst hc
   refine ⟨i1,fun x=> ?_⟩
   rw[i2 x];simp
  ·rw[ag hc]
   have bx:prev.lt y:=by
    by_cases h2:prev.lt y
    ·exact h2
    ·exact absurd (Ed.Tb h2 (h1.1 y (by simp))) fun e=>hc e.symm
   refine ⟨wm.2 ⟨fun x hx=> ?_,i1⟩,fun x=> ?_⟩
   ·rcases gK.1 hx with rfl|hx
    ·exact bx
    ·exact Ed.lt_trans bx ((wm.1 i1).1 x hx)
   ·rw[gK,i2 x,←gK]
theorem anA {l:List Ed} (h:l.Pairwise (fun x y=> ¬y.lt x)):ln (jK l)∧∀x,x∈jK l↔x∈l:=by
 match l,h with
 | [],_=>exact ⟨List.Pairwise.nil,fun _=>Iff.rfl⟩
 | y::l,h=>exact ac8 l y h
section
variable {l:List Ed} (hn:l.length≤1000000)
include hn
theorem anB {k:Nat}: ∀(d k2 i:Nat) (ss:List Ed),k+k2+d=l.length→1≤k2→i+1≤k+k2→ss.length=l.length→ss.take i=jK (l.take (k+k2))→ss.drop (k+k2-1)=l.drop (k+k2-1)→
  ∃t u Bc,Loop (yx CC k (l.length-k)) ((i:Int),(k2:Int),ss.map Ed.enc)=some (((jK l).length:Int),u,t,List.map Ed.enc Bc)∧Bc.take (jK l).length=jK l∧Bc.length=l.length:=by
 intro d
 induction d with
 | zero=>
  intro k2 i ss hj rX hi hl ht hd
  have e0:l.take (k+k2)=l:=zj (by omega)
  rw[e0] at ht
  have kD:i=(jK l).length:=by rw[←ht,iU];omega
  refine ⟨false,(k2:Int),ss,cI ?_,by rw[←kD];exact ht,hl⟩
  simp only[yx,Ba,un,bX,aG,ar,aS]
  rw[bK,wy,kD]
 | succ d ih=>
  intro k2 i ss hj rX hi hl ht hd
  have hp:k+k2<l.length:=by omega
  have nq:ss.drop (k+k2)=l.drop (k+k2):=by
   have h:=congrArg (List.drop 1) hd
   rw[List.drop_drop,List.drop_drop] at h
   rwa [show k+k2-1+1=k+k2 by omega] at h
  have g1:=ac5 hl nq hp
  have g0:=ac5 hl hd (show k+k2-1<l.length by omega)
  have x1:(ss.map Ed.enc)[k+k2]? =some (l.getD (k+k2) default).enc:=by rw[FU (by omega),g1]
  have x0:(ss.map Ed.enc)[k+(k2-1)]? =some (l.getD (k+k2-1) default).enc:=by rw[show k+(k2-1)=k+k2-1 by omega,FU (by omega),g0]
  have w1:IntKind.wrap .i64 ((k2:Int)-1)=((k2-1:Nat):Int):=by rw[dr];omega
  have t1:((k2:Nat):Int)<((l.length-k:Nat):Int):=by omega
  have t2:(0:Int)≤((k2:Nat):Int):=by omega
  have t3:(0:Int)≤((k2-1:Nat):Int):=by omega
  have t4:((k2-1:Nat):Int)<((l.length-k:Nat):Int):=by omega
  have t5:((i:Nat):Int)<(ss.length:Int):=by omega
  have t6:(0:Int)≤((i:Nat):Int):=by omega
  have C2: ∃y,(ss.map Ed.enc)[i]? =some y:=⟨_,FU (by omega)⟩
  obtain ⟨y,hy⟩:=C2
  have cs:=ac7 (l:=l) (p:=k+k2) (by omega) hp
  by_cases he:l.getD (k+k2) default=l.getD (k+k2-1) default
  ·have bP:yx CC k (l.length-k) ((i:Int),(k2:Int),ss.map Ed.enc)=some (.inl ((i:Int),((k2+1:Nat):Int),ss.map Ed.enc)):=by
    simp only[yx,Ba,un,ar,aS]
    refine bT (b7 t1) ?_
    refine bT (jP.2 ⟨b7 t2,b7 t1⟩) ?_
    rw[Int.toNat_natCast]
    refine bs x1 ?_
    rw[w1]
    refine bT (jP.2 ⟨b7 t3,b7 t4⟩) ?_
    rw[Int.toNat_natCast]
    refine bs x0 ?_
    simp only[Ed.iI,Ed.iJ,Ed.iK,FR]
    rw[b7 he]
    refine bF rfl ?_
    rw[dr]
    rfl
   rw[eQ bP]
   refine ih (k2+1) i ss (by omega) (by omega) (by omega) hl ?_ (by rw[show k+(k2+1)-1=k+k2 by omega];exact nq)
   rw[show k+(k2+1)=k+k2+1 by omega,cs,af he,eY,ht]
  ·have bP:yx CC k (l.length-k) ((i:Int),(k2:Int),ss.map Ed.enc)=some (.inl (((i+1:Nat):Int),((k2+1:Nat):Int),(ss.set i (l.getD (k+k2) default)).map Ed.enc)):=by
    simp only[yx,Ba,un,ar,aS]
    refine bT (b7 t1) ?_
    refine bT (jP.2 ⟨b7 t2,b7 t1⟩) ?_
    rw[Int.toNat_natCast]
    refine bs x1 ?_
    rw[w1]
    refine bT (jP.2 ⟨b7 t3,b7 t4⟩) ?_
    rw[Int.toNat_natCast]
    refine bs x0 ?_
    simp only[Ed.iI,Ed.iJ,Ed.iK,FR]
    rw[eB he]
    refine bT rfl ?_
    refine bT (jP.2 ⟨b7 t2,b7 t1⟩) ?_
    refine bs x1 ?_
    refine bT (by rw[bX];exact jP.2 ⟨b7 t6,b7 t5⟩) ?_
    rw[Int.toNat_natCast]
    refine bs hy ?_
    simp only[Ed.iI,Ed.iJ,Ed.iK,Ed.re]
    rw[dr,dr,List.map_set]
    rfl
   rw[eQ bP]
   refine ih (k2+1) (i+1) (ss.set i (l.getD (k+k2) default)) (by omega) (by omega) (by omega) (by simpa using hl) ?_ ?_
   ·rw[Te (by rw[uC];omega),List.take_set_of_le (aw i),ht,show k+(k2+1)=k+k2+1 by omega,cs,ag he]
    simp[show i<ss.length by omega]
   ·rw[show k+(k2+1)-1=k+k2 by omega,List.drop_set_of_lt (by omega),nq]
theorem anC: ∀(d p:Nat),p+d=l.length→1≤p→jK (l.take p)=l.take p→
  (jK l=l∧∃t,Loop (yz CC (l.map Ed.enc)) (p:Int)=some (.inr t))∨Loop (yz CC (l.map Ed.enc)) (p:Int)=some (.inl ((jK l).map Ed.enc)):=by
 intro d
 induction d with
 | zero=>
  intro p hp h1 hc
  obtain rfl:p=l.length:=by omega
  rw[oa] at hc
  refine .inl ⟨hc,((l.length:Int),false),cI ?_⟩
  simp only[yz,Bb,bX,aG,ar]
  rw[bK,wy]
 | succ d ih=>
  intro p hp h1 hc
  have fk:p<l.length:=by omega
  have cs:=ac7 (l:=l) h1 fk
  have x1:(l.map Ed.enc)[p]? =some (l.getD p default).enc:=FU fk
  have x0:(l.map Ed.enc)[p-1]? =some (l.getD (p-1) default).enc:=FU (by omega)
  have w1:IntKind.wrap .i64 ((p:Int)-1)=((p-1:Nat):Int):=by rw[dr];omega
  have t1:((p:Nat):Int)<(l.length:Int):=by omega
  have t2:(0:Int)≤((p:Nat):Int):=by omega
  have t3:(0:Int)≤((p-1:Nat):Int):=by omega
  have t4:((p-1:Nat):Int)<(l.length:Int):=by omega
  have t5:((p:Nat):Int)≤(l.length:Int):=by omega
  by_cases he:l.getD p default=l.getD (p-1) default
  ·refine .inr (cI ?_)
   obtain ⟨t,u,Bc,e1,e2,e3⟩:=anB hn (k:=p) (l.length-(p+1)) 1 p l (by omega) (by omega) (by omega) rfl (by rw[cs,af he,eY,hc]) rfl
   have hm:(jK l).length≤Bc.length:=by
    have:=congrArg List.length e2
    rw[iU] at this
    omega
   have m1:(0:Int)≤(((jK l).length:Nat):Int):=by omega
   have m2:(((jK l).length:Nat):Int)≤((Bc.map Ed.enc).length:Int):=by rw[bX];omega
   simp only[yz,Bb,bX,ar]
   refine bT (b7 t1) ?_
   refine bT (jP.2 ⟨b7 t2,b7 t1⟩) ?_
   rw[Int.toNat_natCast]
   refine bs x1 ?_
   rw[w1]
   refine bT (jP.2 ⟨b7 t3,b7 t4⟩) ?_
   rw[Int.toNat_natCast]
   refine bs x0 ?_
   simp only[Ed.iI,Ed.iJ,Ed.iK,FR]
   rw[b7 he]
   refine bT rfl ?_
   refine bT (jP.2 ⟨b7 t2,b7 t5⟩) ?_
   refine (congrArg (fun o=>Option.bind o _) e1).trans ?_
   simp only[Option.bind_some,un,dx,aG,Int.toNat_natCast]
   rw[af m1,af m2,af m1,af (by simp only[cX,iU,wk,wh,bX];omega),anz _ _ _ hm,e2]
  ·have bP:yz CC (l.map Ed.enc) (p:Int)=some (.inl ((p+1:Nat):Int)):=by
    simp only[yz,Bb,bX,ar]
    refine bT (b7 t1) ?_
    refine bT (jP.2 ⟨b7 t2,b7 t1⟩) ?_
    rw[Int.toNat_natCast]
    refine bs x1 ?_
    rw[w1]
    refine bT (jP.2 ⟨b7 t3,b7 t4⟩) ?_
    rw[Int.toNat_natCast]
    refine bs x0 ?_
    simp only[Ed.iI,Ed.iJ,Ed.iK,FR]
    rw[eB he]
    refine bF rfl ?_
    rw[dr]
    rfl
   rw[eQ bP]
   exact ih (p+1) (by omega) (by omega) (by rw[cs,ag he,hc,←Te fk])
theorem ac9: ∃b,CC JA [.list aL (l.map Ed.enc)]=some [.bool b,.list aL ((jK l).map Ed.enc)]:=by
 by_cases h2:l.length<2
 ·refine ⟨true,Td ?_⟩
  unfold Lt
  rw[bX,aG,aZ]
  match l,h2 with
  | [],_=>rfl
  | [k],_=>rfl
 ·rcases anC hn (l.length-1) 1 (by omega) (by omega) (by
   match l,h2 with
   | k::l,_=>rfl) with ⟨h3,t,h4⟩|h4
  ·refine ⟨true,Td ?_⟩
   unfold Lt
   rw[bX,aG,bK]
   refine (congrArg (fun o=>Option.bind o _) h4).trans ?_
   rw[h3];rfl
  ·refine ⟨false,Td ?_⟩
   unfold Lt
   rw[bX,aG,bK]
   refine (congrArg (fun o=>Option.bind o _) h4).trans ?_
   rfl
end
noncomputable def vQ (E:SE) (C:ab) (a b' i j:Int) (ai:LV) {β:Type} (kn:(Int × LV)→Option β) (kr:(Int × Bool × LV)→Option β):Option β:=
 bif decide ((j:Int)>a) then
  ar ai j fun x1=>
  ar ai (IntKind.wrap .i64 (j-1)) fun x2=>
  (C E.cmp (E.ex x1++E.ex x2)).bind fun r3=>
  bif decide ((((V.nth r3 0).toInt):Int)<0) then
  ar ai (IntKind.wrap .i64 (j-1)) fun x4=>
  ar ai j fun x5=>
  ar ai j fun x6=>
  ar (aS ai j (.agg (E.ex x4))) (IntKind.wrap .i64 (j-1)) fun x7=>
  kn (IntKind.wrap .i64 (j-1),aS (aS ai j (.agg (E.ex x4))) (IntKind.wrap .i64 (j-1)) (.agg (E.ex x5)))
  else
  kr (j,decide ((((V.nth r3 0).toInt):Int)<0),ai)
 else
  kr (j,false,ai)
noncomputable def Bd (E:SE) (C:ab) (a b' i:Int):=un fun j ai=>vQ E C a b' i j ai (fun y=>some (Sum.inl y)) (fun r=>some (Sum.inr r))
noncomputable def yA (E:SE) (C:ab) (a b' i:Int) (ai:LV) {β:Type} (kn:(Int × LV)→Option β) (kr:(Int × Bool × LV)→Option β):Option β:=
 bif decide ((i:Int)<b') then
  (Loop (Bd E C a b' i) (i,ai)).bind (un fun (j_8:Int)=>un fun (sq:Bool) (qZ:LV)=>
   kn (IntKind.wrap .i64 (i+1),qZ))
 else
  kr (i,decide ((i:Int)<b'),ai)
noncomputable def Lu (E:SE) (C:ab) (a b':Int):=un fun i ai=>yA E C a b' i ai (fun y=>some (Sum.inl y)) (fun r=>some (Sum.inr r))
noncomputable def Lv (E:SE) (C:ab) (a b':Int) (ai:LV):Option LV:=
 (Loop (Lu E C a b') (IntKind.wrap .i64 (a+1),ai)).bind (un fun (auz:Int)=>un fun (vN:Bool) (Tf:LV)=>
  some [.list E.T Tf])
noncomputable def uo (E:SE) (C:ab) (hi first root child:Int) (t40:Bool) (ai:LV) {β:Type} (kr:(Int)→Option β):Option β:=
 bif t40 then
  kr (IntKind.wrap .i64 (child+1))
 else
  kr child
noncomputable def sC (E:SE) (C:ab) (hi first root:Int) (ai:LV) {β:Type} (kn:(Int × LV)→Option β) (kr:((Int × Int × Bool × LV) ⊕ (Int × Int × Bool × LV))→Option β):Option β:=
 bif decide (((IntKind.wrap .i64 ((IntKind.wrap .i64 (root*2))+1)):Int)≥hi) then
  kr (.inl (root,IntKind.wrap .i64 ((IntKind.wrap .i64 (root*2))+1),decide (((IntKind.wrap .i64 ((IntKind.wrap .i64 (root*2))+1)):Int)≥hi),ai))
 else
  bif decide (((IntKind.wrap .i64 ((IntKind.wrap .i64 ((IntKind.wrap .i64 (root*2))+1))+1)):Int)<hi) then
  ar ai (IntKind.wrap .i64 (first+(IntKind.wrap .i64 ((IntKind.wrap .i64 (root*2))+1)))) fun x1=>
  ar ai (IntKind.wrap .i64 ((IntKind.wrap .i64 (first+(IntKind.wrap .i64 ((IntKind.wrap .i64 (root*2))+1))))+1)) fun x2=>
  (C E.cmp (E.ex x1++E.ex x2)).bind fun r3=>
  uo E C hi first root (IntKind.wrap .i64 ((IntKind.wrap .i64 (root*2))+1)) (decide ((((V.nth r3 0).toInt):Int)<0)) ai (fun (Be:Int)=>
   ar ai (IntKind.wrap .i64 (first+root)) fun x5=>
   ar ai (IntKind.wrap .i64 (first+Be)) fun x6=>
   (C E.cmp (E.ex x5++E.ex x6)).bind fun r7=>
   bif !(decide ((((V.nth r7 0).toInt):Int)<0)) then
    kr (.inr (root,Be,!(decide ((((V.nth r7 0).toInt):Int)<0)),ai))
   else
    ar ai (IntKind.wrap .i64 (first+Be)) fun x8=>
    ar ai (IntKind.wrap .i64 (first+root)) fun x9=>
    ar ai (IntKind.wrap .i64 (first+root)) fun j8=>
    ar (aS ai (IntKind.wrap .i64 (first+root)) (.agg (E.ex x8))) (IntKind.wrap .i64 (first+Be)) fun iM=>
    kn (Be,aS (aS ai (IntKind.wrap .i64 (first+root)) (.agg (E.ex x8))) (IntKind.wrap .i64 (first+Be)) (.agg (E.ex x9))))
  else
  uo E C hi first root (IntKind.wrap .i64 ((IntKind.wrap .i64 (root*2))+1)) false ai (fun (Bf:Int)=>
   ar ai (IntKind.wrap .i64 (first+root)) fun sx=>
   ar ai (IntKind.wrap .i64 (first+Bf)) fun sy=>
   (C E.cmp (E.ex sx++E.ex sy)).bind fun fe=>
   bif !(decide ((((V.nth fe 0).toInt):Int)<0)) then
    kr (.inr (root,Bf,!(decide ((((V.nth fe 0).toInt):Int)<0)),ai))
   else
    ar ai (IntKind.wrap .i64 (first+Bf)) fun oP=>
    ar ai (IntKind.wrap .i64 (first+root)) fun qX=>
    ar ai (IntKind.wrap .i64 (first+root)) fun vM=>
    ar (aS ai (IntKind.wrap .i64 (first+root)) (.agg (E.ex oP))) (IntKind.wrap .i64 (first+Bf)) fun ym=>
    kn (Bf,aS (aS ai (IntKind.wrap .i64 (first+root)) (.agg (E.ex oP))) (IntKind.wrap .i64 (first+Bf)) (.agg (E.ex qX))))
noncomputable def q0 (E:SE) (C:ab) (hi first:Int):=un fun root ai=>sC E C hi first root ai (fun y=>some (Sum.inl y)) (fun r=>some (Sum.inr r))
noncomputable def Lw (E:SE) (C:ab) (lo hi first:Int) (ai:LV):Option LV:=
 (Loop (q0 E C hi first) (lo,ai)).bind (dI (un fun (auA:Int)=>un fun (auB:Int)=>un fun (alT:Bool) (anD:LV)=>
  some [.list E.T anD]) (un fun (auC:Int)=>un fun (auD:Int)=>un fun (amf:Bool) (yB:LV)=>
  some [.list E.T yB]))
noncomputable def yC (E:SE) (C:ab) (first lo hi i:Int) (ai:LV) {β:Type} (kn:(Int × LV)→Option β) (kr:(Int × Bool × LV)→Option β):Option β:=
 bif decide ((i:Int)≥0) then
  (C (E.k 1) [V.int .i64 i,V.int .i64 hi,V.int .i64 first,.list E.T ai]).bind fun r1=>
  kn (IntKind.wrap .i64 (i-1),(V.nth r1 0).toList)
 else
  kr (i,decide ((i:Int)≥0),ai)
noncomputable def Lx (E:SE) (C:ab) (first lo hi:Int):=un fun i ai=>yC E C first lo hi i ai (fun y=>some (Sum.inl y)) (fun r=>some (Sum.inr r))
noncomputable def yD (E:SE) (C:ab) (first lo i:Int) (ai:LV) {β:Type} (kn:(Int × LV)→Option β) (kr:(Int × Bool × LV)→Option β):Option β:=
 bif decide ((i:Int)≥0) then
  ar ai (IntKind.wrap .i64 (first+i)) fun x5=>
  ar ai first fun x6=>
  ar ai first fun x7=>
  ar (aS ai first (.agg (E.ex x5))) (IntKind.wrap .i64 (first+i)) fun x8=>
  (C (E.k 1) [V.int .i64 lo,V.int .i64 i,V.int .i64 first,.list E.T (aS (aS ai first (.agg (E.ex x5))) (IntKind.wrap .i64 (first+i)) (.agg (E.ex x6)))]).bind fun r9=>
  kn (IntKind.wrap .i64 (i-1),(V.nth r9 0).toList)
 else
  kr (i,decide ((i:Int)≥0),ai)
noncomputable def Ly (E:SE) (C:ab) (first lo:Int):=un fun i ai=>yD E C first lo i ai (fun y=>some (Sum.inl y)) (fun r=>some (Sum.inr r))
noncomputable def LA (E:SE) (C:ab) (a b':Int) (ai:LV):Option LV:=
 (Loop (Lx E C a 0 (IntKind.wrap .i64 (b'-a))) (IntKind.wrap .i64 (Int.tdiv (IntKind.wrap .i64 ((IntKind.wrap .i64 (b'-a))-1)) 2),ai)).bind (un fun (i_2:Int)=>un fun (kJ:Bool) (anE:LV)=>
  (Loop (Ly E C a 0) (IntKind.wrap .i64 ((IntKind.wrap .i64 (b'-a))-1),anE)).bind (un fun (auE:Int)=>un fun (uj:Bool) (ra:LV)=>
   some [.list E.T ra]))
noncomputable def vR (E:SE) (C:ab) (i j:Int) (ai:LV) {β:Type} (kn:(Int × Int × LV)→Option β) (kr:(Int × Int × Bool × LV)→Option β):Option β:=
 bif decide ((i:Int)<j) then
  ar ai j fun x1=>
  ar ai i fun x2=>
  ar ai i fun x3=>
  ar (aS ai i (.agg (E.ex x1))) j fun x4=>
  kn (IntKind.wrap .i64 (i+1),IntKind.wrap .i64 (j-1),aS (aS ai i (.agg (E.ex x1))) j (.agg (E.ex x2)))
 else
  kr (i,j,decide ((i:Int)<j),ai)
noncomputable def FV (E:SE) (C:ab):=un fun i=>un fun j ai=>vR E C i j ai (fun y=>some (Sum.inl y)) (fun r=>some (Sum.inr r))
noncomputable def LB (E:SE) (C:ab) (a b':Int) (ai:LV):Option LV:=
 (Loop (FV E C) (a,IntKind.wrap .i64 (b'-1),ai)).bind (un fun (i_5:Int)=>un fun (j_6:Int)=>un fun (jE:Bool) (anF:LV)=>
  some [.list E.T anF])
noncomputable def yE (E:SE) (C:ab) (a j:Int) (ai:LV) (i:Int) {β:Type} (kn:Int→Option β) (kr:(Int × Bool)→Option β):Option β:=
 bif decide ((i:Int)≤j) then
  ar ai i fun x5=>
  ar ai a fun x6=>
  (C E.cmp (E.ex x5++E.ex x6)).bind fun r7=>
  bif decide ((((V.nth r7 0).toInt):Int)<0) then
  kn (IntKind.wrap .i64 (i+1))
  else
  kr (i,decide ((((V.nth r7 0).toInt):Int)<0))
 else
  kr (i,false)
noncomputable def FW (E:SE) (C:ab) (a j:Int) (ai:LV):=fun i=>yE E C a j ai i (fun y=>some (Sum.inl y)) (fun r=>some (Sum.inr r))
noncomputable def vS (E:SE) (C:ab) (a i:Int) (ai:LV) (j:Int) {β:Type} (kn:Int→Option β) (kr:(Int × Bool)→Option β):Option β:=
 bif decide ((i:Int)≤j) then
  ar ai j fun j8=>
  ar ai a fun iM=>
  (C E.cmp (E.ex j8++E.ex iM)).bind fun fg=>
  bif !(decide ((((V.nth fg 0).toInt):Int)<0)) then
  kn (IntKind.wrap .i64 (j-1))
  else
  kr (j,!(decide ((((V.nth fg 0).toInt):Int)<0)))
 else
  kr (j,false)
noncomputable def Bg (E:SE) (C:ab) (a i:Int) (ai:LV):=fun j=>vS E C a i ai j (fun y=>some (Sum.inl y)) (fun r=>some (Sum.inr r))
noncomputable def yF (E:SE) (C:ab) (a j:Int) (ai:LV) (i:Int) {β:Type} (kn:Int→Option β) (kr:(Int × Bool)→Option β):Option β:=
 bif decide ((i:Int)≤j) then
  ar ai i fun Fb=>
  ar ai a fun Bh=>
  (C E.cmp (E.ex Fb++E.ex Bh)).bind fun r25=>
  bif decide ((((V.nth r25 0).toInt):Int)<0) then
  kn (IntKind.wrap .i64 (i+1))
  else
  kr (i,decide ((((V.nth r25 0).toInt):Int)<0))
 else
  kr (i,false)
noncomputable def FX (E:SE) (C:ab) (a j:Int) (ai:LV):=fun i=>yF E C a j ai i (fun y=>some (Sum.inl y)) (fun r=>some (Sum.inr r))
noncomputable def vT (E:SE) (C:ab) (a i:Int) (ai:LV) (j:Int) {β:Type} (kn:Int→Option β) (kr:(Int × Bool)→Option β):Option β:=
 bif decide ((i:Int)≤j) then
  ar ai j fun Tg=>
  ar ai a fun Th=>
  (C E.cmp (E.ex Tg++E.ex Th)).bind fun LC=>
  bif !(decide ((((V.nth LC 0).toInt):Int)<0)) then
  kn (IntKind.wrap .i64 (j-1))
  else
  kr (j,!(decide ((((V.nth LC 0).toInt):Int)<0)))
 else
  kr (j,false)
noncomputable def Bi (E:SE) (C:ab) (a i:Int) (ai:LV):=fun j=>vT E C a i ai j (fun y=>some (Sum.inl y)) (fun r=>some (Sum.inr r))
noncomputable def yG (E:SE) (C:ab) (a i j:Int) (ai:LV) {β:Type} (kn:(Int × Int × LV)→Option β) (kr:(Int × Int × Bool × LV)→Option β):Option β:=
 (Loop (FX E C a j ai) i).bind (un fun (sw:Int) (abY:Bool)=>
  (Loop (Bi E C a sw ai) j).bind (un fun (yH:Int) (anG:Bool)=>
   bif decide ((sw:Int)>yH) then
    kr (sw,yH,decide ((sw:Int)>yH),ai)
   else
    ar ai yH fun x33=>
    ar ai sw fun x34=>
    ar ai sw fun x35=>
    ar (aS ai sw (.agg (E.ex x33))) yH fun x36=>
    kn (IntKind.wrap .i64 (sw+1),IntKind.wrap .i64 (yH-1),aS (aS ai sw (.agg (E.ex x33))) yH (.agg (E.ex x34)))))
noncomputable def Bj (E:SE) (C:ab) (a:Int):=un fun i=>un fun j ai=>yG E C a i j ai (fun y=>some (Sum.inl y)) (fun r=>some (Sum.inr r))
noncomputable def LD (E:SE) (C:ab) (a b' pivot:Int) (ai:LV):Option LV:=
 ar ai pivot fun x1=>
 ar ai a fun x2=>
 ar ai a fun x3=>
 ar (aS ai a (.agg (E.ex x1))) pivot fun x4=>
 (Loop (FW E C a (IntKind.wrap .i64 (b'-1)) (aS (aS ai a (.agg (E.ex x1))) pivot (.agg (E.ex x2)))) (IntKind.wrap .i64 (a+1))).bind (un fun (lp:Int) (sq:Bool)=>
  (Loop (Bg E C a lp (aS (aS ai a (.agg (E.ex x1))) pivot (.agg (E.ex x2)))) (IntKind.wrap .i64 (b'-1))).bind (un fun (kN:Int) (sm:Bool)=>
   bif decide ((lp:Int)>kN) then
    ar (aS (aS ai a (.agg (E.ex x1))) pivot (.agg (E.ex x2))) a fun vU=>
    ar (aS (aS ai a (.agg (E.ex x1))) pivot (.agg (E.ex x2))) kN fun oP=>
    ar (aS (aS ai a (.agg (E.ex x1))) pivot (.agg (E.ex x2))) kN fun qX=>
    ar (aS (aS (aS ai a (.agg (E.ex x1))) pivot (.agg (E.ex x2))) kN (.agg (E.ex vU))) a fun vM=>
    some [V.int .i64 kN,.bool true,.list E.T (aS (aS (aS (aS ai a (.agg (E.ex x1))) pivot (.agg (E.ex x2))) kN (.agg (E.ex vU))) a (.agg (E.ex oP)))]
   else
    ar (aS (aS ai a (.agg (E.ex x1))) pivot (.agg (E.ex x2))) kN fun ym=>
    ar (aS (aS ai a (.agg (E.ex x1))) pivot (.agg (E.ex x2))) lp fun Fj=>
    ar (aS (aS ai a (.agg (E.ex x1))) pivot (.agg (E.ex x2))) lp fun SI=>
    ar (aS (aS (aS ai a (.agg (E.ex x1))) pivot (.agg (E.ex x2))) lp (.agg (E.ex ym))) kN fun x22=>
    (Loop (Bj E C a) (IntKind.wrap .i64 (lp+1),IntKind.wrap .i64 (kN-1),aS (aS (aS (aS ai a (.agg (E.ex x1))) pivot (.agg (E.ex x2))) lp (.agg (E.ex ym))) kN (.agg (E.ex Fj)))).bind (un fun (auF:Int)=>un fun (FY:Int)=>un fun (auG:Bool) (rb:LV)=>
     ar rb a fun LF=>
     ar rb FY fun Ti=>
     ar rb FY fun x43=>
     ar (aS rb FY (.agg (E.ex LF))) a fun x44=>
     some [V.int .i64 FY,.bool false,.list E.T (aS (aS rb FY (.agg (E.ex LF))) a (.agg (E.ex Ti)))])))
noncomputable def yI (E:SE) (C:ab) (a j:Int) (ai:LV) (i:Int) {β:Type} (kn:Int→Option β) (kr:(Int × Bool)→Option β):Option β:=
 bif decide ((i:Int)≤j) then
  ar ai a fun x5=>
  ar ai i fun x6=>
  (C E.cmp (E.ex x5++E.ex x6)).bind fun r7=>
  bif !(decide ((((V.nth r7 0).toInt):Int)<0)) then
  kn (IntKind.wrap .i64 (i+1))
  else
  kr (i,!(decide ((((V.nth r7 0).toInt):Int)<0)))
 else
  kr (i,false)
noncomputable def FZ (E:SE) (C:ab) (a j:Int) (ai:LV):=fun i=>yI E C a j ai i (fun y=>some (Sum.inl y)) (fun r=>some (Sum.inr r))
noncomputable def vV (E:SE) (C:ab) (a i:Int) (ai:LV) (j:Int) {β:Type} (kn:Int→Option β) (kr:(Int × Bool)→Option β):Option β:=
 bif decide ((i:Int)≤j) then
  ar ai a fun j8=>
  ar ai j fun iM=>
  (C E.cmp (E.ex j8++E.ex iM)).bind fun fg=>
  bif decide ((((V.nth fg 0).toInt):Int)<0) then
  kn (IntKind.wrap .i64 (j-1))
  else
  kr (j,decide ((((V.nth fg 0).toInt):Int)<0))
 else
  kr (j,false)
noncomputable def Bk (E:SE) (C:ab) (a i:Int) (ai:LV):=fun j=>vV E C a i ai j (fun y=>some (Sum.inl y)) (fun r=>some (Sum.inr r))
noncomputable def yJ (E:SE) (C:ab) (a i j:Int) (ai:LV) {β:Type} (kn:(Int × Int × LV)→Option β) (kr:(Int × Int × Bool × LV)→Option β):Option β:=
 (Loop (FZ E C a j ai) i).bind (un fun (lp:Int) (sq:Bool)=>
  (Loop (Bk E C a lp ai) j).bind (un fun (kN:Int) (sm:Bool)=>
   bif decide ((lp:Int)>kN) then
    kr (lp,kN,decide ((lp:Int)>kN),ai)
   else
    ar ai kN fun vU=>
    ar ai lp fun oP=>
    ar ai lp fun qX=>
    ar (aS ai lp (.agg (E.ex vU))) kN fun vM=>
    kn (IntKind.wrap .i64 (lp+1),IntKind.wrap .i64 (kN-1),aS (aS ai lp (.agg (E.ex vU))) kN (.agg (E.ex oP)))))
noncomputable def Bl (E:SE) (C:ab) (a:Int):=un fun i=>un fun j ai=>yJ E C a i j ai (fun y=>some (Sum.inl y)) (fun r=>some (Sum.inr r))
noncomputable def LG (E:SE) (C:ab) (a b' pivot:Int) (ai:LV):Option LV:=
 ar ai pivot fun x1=>
 ar ai a fun x2=>
 ar ai a fun x3=>
 ar (aS ai a (.agg (E.ex x1))) pivot fun x4=>
 (Loop (Bl E C a) (IntKind.wrap .i64 (a+1),IntKind.wrap .i64 (b'-1),aS (aS ai a (.agg (E.ex x1))) pivot (.agg (E.ex x2)))).bind (un fun (anH:Int)=>un fun (auH:Int)=>un fun (anI:Bool) (anJ:LV)=>
  some [V.int .i64 anH,.list E.T anJ])
noncomputable def yK (E:SE) (C:ab) (a b' j:Int) (ai:LV) (i:Int) {β:Type} (kn:Int→Option β) (kr:(Int × Bool)→Option β):Option β:=
 bif decide ((i:Int)<b') then
  ar ai i fun x1=>
  ar ai (IntKind.wrap .i64 (i-1)) fun x2=>
  (C E.cmp (E.ex x1++E.ex x2)).bind fun r3=>
  bif !(decide ((((V.nth r3 0).toInt):Int)<0)) then
  kn (IntKind.wrap .i64 (i+1))
  else
  kr (i,!(decide ((((V.nth r3 0).toInt):Int)<0)))
 else
  kr (i,false)
noncomputable def F0 (E:SE) (C:ab) (a b' j:Int) (ai:LV):=fun i=>yK E C a b' j ai i (fun y=>some (Sum.inl y)) (fun r=>some (Sum.inr r))
noncomputable def yL (E:SE) (C:ab) (a b' i j j':Int) (ai:LV) {β:Type} (kn:(Int × LV)→Option β) (kr:(Int × LV)→Option β):Option β:=
 bif decide ((j':Int)≥1) then
  ar ai j' fun j8=>
  ar ai (IntKind.wrap .i64 (j'-1)) fun iM=>
  (C E.cmp (E.ex j8++E.ex iM)).bind fun fg=>
  bif !(decide ((((V.nth fg 0).toInt):Int)<0)) then
  kr (j',ai)
  else
  ar ai (IntKind.wrap .i64 (j'-1)) fun sx=>
  ar ai j' fun sy=>
  ar ai j' fun vU=>
  ar (aS ai j' (.agg (E.ex sx))) (IntKind.wrap .i64 (j'-1)) fun oP=>
  kn (IntKind.wrap .i64 (j'-1),aS (aS ai j' (.agg (E.ex sx))) (IntKind.wrap .i64 (j'-1)) (.agg (E.ex sy)))
 else
  kr (j',ai)
noncomputable def F3 (E:SE) (C:ab) (a b' i j:Int):=un fun j' ai=>yL E C a b' i j j' ai (fun y=>some (Sum.inl y)) (fun r=>some (Sum.inr r))
noncomputable def Bm (E:SE) (C:ab) (a b' i j:Int) (t65:Bool) (ai:LV) {β:Type} (kr:LV→Option β):Option β:=
 bif t65 then
  (Loop (F3 E C a b' i j) (IntKind.wrap .i64 (i-1),ai)).bind (un fun (auI:Int) (anK:LV)=>
   kr anK)
 else
  kr ai
noncomputable def yM (E:SE) (C:ab) (a b' i j j':Int) (ai:LV) {β:Type} (kn:(Int × LV)→Option β) (kr:(Int × LV)→Option β):Option β:=
 bif decide ((j':Int)<b') then
  ar ai j' fun Fj=>
  ar ai (IntKind.wrap .i64 (j'-1)) fun SI=>
  (C E.cmp (E.ex Fj++E.ex SI)).bind fun me=>
  bif !(decide ((((V.nth me 0).toInt):Int)<0)) then
  kr (j',ai)
  else
  ar ai (IntKind.wrap .i64 (j'-1)) fun Fb=>
  ar ai j' fun Bh=>
  ar ai j' fun x25=>
  ar (aS ai j' (.agg (E.ex Fb))) (IntKind.wrap .i64 (j'-1)) fun x26=>
  kn (IntKind.wrap .i64 (j'+1),aS (aS ai j' (.agg (E.ex Fb))) (IntKind.wrap .i64 (j'-1)) (.agg (E.ex Bh)))
 else
  kr (j',ai)
noncomputable def F4 (E:SE) (C:ab) (a b' i j:Int):=un fun j' ai=>yM E C a b' i j j' ai (fun y=>some (Sum.inl y)) (fun r=>some (Sum.inr r))
noncomputable def yN (E:SE) (C:ab) (a b' i j:Int) (ai:LV) {β:Type} (kn:(Int × Int × LV)→Option β) (kr:((Bool × LV) ⊕ (Int × Int × Bool × LV))→Option β):Option β:=
 bif decide ((j:Int)<5) then
  (Loop (F0 E C a b' j ai) i).bind (un fun (lq:Int) (lj:Bool)=>
   bif (lq:Int)==b' then
   kr (.inl (true,ai))
   else
   bif decide (((IntKind.wrap .i64 (b'-a)):Int)<50) then
    kr (.inl (false,ai))
   else
    ar ai (IntKind.wrap .i64 (lq-1)) fun x6=>
    ar ai lq fun x7=>
    ar ai lq fun x8=>
    ar (aS ai lq (.agg (E.ex x6))) (IntKind.wrap .i64 (lq-1)) fun x9=>
    Bm E C a b' lq j (decide (((IntKind.wrap .i64 (lq-a)):Int)≥2)) (aS (aS ai lq (.agg (E.ex x6))) (IntKind.wrap .i64 (lq-1)) (.agg (E.ex x7))) (fun (ada:LV)=>
     bif decide (((IntKind.wrap .i64 (b'-lq)):Int)≥2) then
     (Loop (F4 E C a b' lq j) (IntKind.wrap .i64 (lq+1),ada)).bind (un fun (auJ:Int) (anL:LV)=>
      kn (lq,IntKind.wrap .i64 (j+1),anL))
     else
     kn (lq,IntKind.wrap .i64 (j+1),ada)))
 else
  kr (.inr (i,j,decide ((j:Int)<5),ai))
noncomputable def vW (E:SE) (C:ab) (a b':Int):=un fun i=>un fun j ai=>yN E C a b' i j ai (fun y=>some (Sum.inl y)) (fun r=>some (Sum.inr r))
noncomputable def LH (E:SE) (C:ab) (a b':Int) (ai:LV):Option LV:=
 (Loop (vW E C a b') (IntKind.wrap .i64 (a+1),0,ai)).bind (dI (un fun (anM:Bool) (anN:LV)=>
  some [.bool anM,.list E.T anN]) (un fun (anO:Int)=>un fun (auK:Int)=>un fun (auL:Bool) (anP:LV)=>
  some [.bool false,.list E.T anP]))
noncomputable def Bn (E:SE) (C:ab) (a length Bo pS other:Int) (t45:Bool) (ai:LV) (F5:Int) {β:Type} (kr:(Int)→Option β):Option β:=
 bif t45 then
  kr (IntKind.wrap .i64 (other-length))
 else
  kr other
noncomputable def yO (E:SE) (C:ab) (a length Bo pS:Int) (ai:LV) (F5:Int) {β:Type} (kn:(Int × LV × Int)→Option β) (kr:(Int × Bool × LV × Int)→Option β):Option β:=
 bif decide ((pS:Int)≤(IntKind.wrap .i64 ((IntKind.wrap .i64 (a+(IntKind.wrap .i64 (2*(IntKind.wrap .i64 (Int.tdiv length 4))))))+1))) then
  (C J1 [.int .u64 F5]).bind fun r2=>
  Bn E C a length Bo pS (IntKind.wrap .i64 (IntKind.wrap .u64 ((BitVec.ofInt (IntKind.bits .u64) ((V.nth r2 0).toInt)&&&BitVec.ofInt (IntKind.bits .u64) (IntKind.wrap .u64 (Bo-1))).toNat))) (decide (((IntKind.wrap .i64 (IntKind.wrap .u64 ((BitVec.ofInt (IntKind.bits .u64) ((V.nth r2 0).toInt)&&&BitVec.ofInt (IntKind.bits .u64) (IntKind.wrap .u64 (Bo-1))).toNat))):Int)≥length)) ai ((V.nth (r2.drop 1) 0).toInt) (fun (Tj:Int)=>
   ar ai (IntKind.wrap .i64 (a+Tj)) fun x4=>
   ar ai pS fun x5=>
   ar ai pS fun x6=>
   ar (aS ai pS (.agg (E.ex x4))) (IntKind.wrap .i64 (a+Tj)) fun x7=>
   kn (IntKind.wrap .i64 (pS+1),aS (aS ai pS (.agg (E.ex x4))) (IntKind.wrap .i64 (a+Tj)) (.agg (E.ex x5)),(V.nth (r2.drop 1) 0).toInt))
 else
  kr (pS,decide ((pS:Int)≤(IntKind.wrap .i64 ((IntKind.wrap .i64 (a+(IntKind.wrap .i64 (2*(IntKind.wrap .i64 (Int.tdiv length 4))))))+1))),ai,F5)
noncomputable def LI (E:SE) (C:ab) (a length Bo:Int):=un fun pS=>un fun ai F5=>yO E C a length Bo pS ai F5 (fun y=>some (Sum.inl y)) (fun r=>some (Sum.inr r))
noncomputable def LJ (E:SE) (C:ab) (a b':Int) (ai:LV):Option LV:=
 bif decide (((IntKind.wrap .i64 (b'-a)):Int)≥8) then
  (C J0 [V.int .i64 (IntKind.wrap .i64 (b'-a))]).bind fun r1=>
  (Loop (LI E C a (IntKind.wrap .i64 (b'-a)) ((V.nth r1 0).toInt)) (IntKind.wrap .i64 ((IntKind.wrap .i64 (a+(IntKind.wrap .i64 (2*(IntKind.wrap .i64 (Int.tdiv (IntKind.wrap .i64 (b'-a)) 4))))))-1),ai,IntKind.wrap .u64 (IntKind.wrap .i64 (b'-a)))).bind (un fun (auM:Int)=>un fun (sq:Bool)=>un fun (qZ:LV) (auN:Int)=>
   some [.list E.T qZ])
 else
  some [.list E.T ai]
noncomputable def LL (E:SE) (C:ab) (data:LV) (a b' c ed:Int):Option LV:=
 (C (E.k 10) [.list E.T data,V.int .i64 a,V.int .i64 b',V.int .i64 ed]).bind fun r1=>
 (C (E.k 10) [.list E.T data,V.int .i64 ((V.nth (r1.drop 1) 0).toInt),V.int .i64 c,V.int .i64 ((V.nth (r1.drop 2) 0).toInt)]).bind fun r2=>
 (C (E.k 10) [.list E.T data,V.int .i64 ((V.nth r1 0).toInt),V.int .i64 ((V.nth r2 0).toInt),V.int .i64 ((V.nth (r2.drop 2) 0).toInt)]).bind fun r3=>
 some [V.int .i64 ((V.nth (r3.drop 1) 0).toInt),V.int .i64 ((V.nth (r3.drop 2) 0).toInt)]
noncomputable def LM (E:SE) (C:ab) (data:LV) (a ed:Int):Option LV:=
 (C (E.k 8) [.list E.T data,V.int .i64 (IntKind.wrap .i64 (a-1)),V.int .i64 a,V.int .i64 (IntKind.wrap .i64 (a+1)),V.int .i64 ed]).bind fun r1=>
 some [V.int .i64 ((V.nth r1 0).toInt),V.int .i64 ((V.nth (r1.drop 1) 0).toInt)]
noncomputable def F6 (E:SE) (C:ab) (data:LV) (a b' ed:Int):Option LV:=
 (idx data b').bind fun x1=>
 (idx data a).bind fun x2=>
 (C E.cmp (E.ex x1++E.ex x2)).bind fun r3=>
 bif decide ((((V.nth r3 0).toInt):Int)<0) then
  some [V.int .i64 b',V.int .i64 a,V.int .i64 (IntKind.wrap .i64 (ed+1))]
 else
  some [V.int .i64 a,V.int .i64 b',V.int .i64 ed]
noncomputable def yP (E:SE) (C:ab) (data:LV) (i j k':Int) (t36:Bool) (ed:Int) {β:Type} (kr:(Int × Int × Int × Int)→Option β):Option β:=
 bif t36 then
  (C (E.k 9) [.list E.T data,V.int .i64 i,V.int .i64 ed]).bind fun r1=>
  (C (E.k 9) [.list E.T data,V.int .i64 j,V.int .i64 ((V.nth (r1.drop 1) 0).toInt)]).bind fun r2=>
  (C (E.k 9) [.list E.T data,V.int .i64 k',V.int .i64 ((V.nth (r2.drop 1) 0).toInt)]).bind fun r3=>
  kr ((V.nth r1 0).toInt,(V.nth r2 0).toInt,(V.nth r3 0).toInt,(V.nth (r3.drop 1) 0).toInt)
 else
  kr (i,j,k',ed)
noncomputable def yQ (E:SE) (C:ab) (data:LV) (l i j k':Int) (t34:Bool) (ed:Int) {β:Type} (kr:(Int × Int)→Option β):Option β:=
 bif t34 then
  yP E C data i j k' (decide ((l:Int)≥50)) ed (un fun (lq:Int)=>un fun (j_5:Int)=>un fun (k_6:Int) (anQ:Int)=>
   (C (E.k 8) [.list E.T data,V.int .i64 lq,V.int .i64 j_5,V.int .i64 k_6,V.int .i64 anQ]).bind fun r8=>
   kr ((V.nth r8 0).toInt,(V.nth (r8.drop 1) 0).toInt))
 else
  kr (j,ed)
noncomputable def F7 (E:SE) (C:ab) (data:LV) (a b':Int):Option LV:=
 yQ E C data (IntKind.wrap .i64 (b'-a)) (IntKind.wrap .i64 (a+(IntKind.wrap .i64 (1*(IntKind.wrap .i64 (Int.tdiv (IntKind.wrap .i64 (b'-a)) 4)))))) (IntKind.wrap .i64 (a+(IntKind.wrap .i64 (2*(IntKind.wrap .i64 (Int.tdiv (IntKind.wrap .i64 (b'-a)) 4)))))) (IntKind.wrap .i64 (a+(IntKind.wrap .i64 (3*(IntKind.wrap .i64 (Int.tdiv (IntKind.wrap .i64 (b'-a)) 4)))))) (decide (((IntKind.wrap .i64 (b'-a)):Int)≥8)) 0 (un fun (Tk:Int) (adb:Int)=>
  bif (adb:Int)==0 then
   some [V.int .i64 Tk,V.int .i64 1]
  else
   bif (adb:Int)==12 then
   some [V.int .i64 Tk,V.int .i64 2]
   else
   some [V.int .i64 Tk,V.int .i64 0])
noncomputable def vX (E:SE) (C:ab) (a b' hG:Int) (fJ ga:Bool) (length:Int) (t39:Bool) (ai:LV) {β:Type} (kr:(Int × LV)→Option β):Option β:=
 bif t39 then
  (C (E.k 7) [V.int .i64 a,V.int .i64 b',.list E.T ai]).bind fun r3=>
  kr (IntKind.wrap .i64 (hG-1),(V.nth r3 0).toList)
 else
  kr (hG,ai)
noncomputable def vY (E:SE) (C:ab) (a b' hG:Int) (fJ ga:Bool) (length pivot hint:Int) (t56:Bool) (ai:LV) {β:Type} (kr:(Int × Int × LV)→Option β):Option β:=
 bif t56 then
  (C (E.k 3) [V.int .i64 a,V.int .i64 b',.list E.T ai]).bind fun r7=>
  kr (IntKind.wrap .i64 ((IntKind.wrap .i64 (b'-1))-(IntKind.wrap .i64 (pivot-a))),1,(V.nth r7 0).toList)
 else
  kr (pivot,hint,ai)
noncomputable def mT (E:SE) (C:ab) (a b' hG:Int) (fJ ga:Bool) (length pivot:Int) (t75:Bool) (ai:LV) {β:Type} (kr:((Bool × LV) ⊕ LV)→Option β):Option β:=
 bif t75 then
  (C (E.k 6) [V.int .i64 a,V.int .i64 b',.list E.T ai]).bind fun mf=>
  bif (V.nth mf 0).toBool then
  kr (.inl ((V.nth mf 0).toBool,(V.nth (mf.drop 1) 0).toList))
  else
  kr (.inr ((V.nth (mf.drop 1) 0).toList))
 else
  kr (.inr ai)
noncomputable def pT (E:SE) (C:ab) (a b' hG:Int) (fJ ga:Bool) (ai:LV) {β:Type} (kn:(Int × Int × Int × Bool × Bool × LV)→Option β) (kr:LV→Option β):Option β:=
 bif decide (((IntKind.wrap .i64 (b'-a)):Int)≤12) then
  (C (E.k 0) [V.int .i64 a,V.int .i64 b',.list E.T ai]).bind fun r1=>
  kr ((V.nth r1 0).toList)
 else
  bif (hG:Int)==0 then
  (C (E.k 2) [V.int .i64 a,V.int .i64 b',.list E.T ai]).bind fun r2=>
  kr ((V.nth r2 0).toList)
  else
  vX E C a b' hG fJ ga (IntKind.wrap .i64 (b'-a)) (!fJ) ai (un fun (dq:Int) (F8:LV)=>
   (C (E.k 11) [.list E.T F8,V.int .i64 a,V.int .i64 b']).bind fun r6=>
   vY E C a b' dq fJ ga (IntKind.wrap .i64 (b'-a)) ((V.nth r6 0).toInt) ((V.nth (r6.drop 1) 0).toInt) ((((V.nth (r6.drop 1) 0).toInt):Int)==2) F8 (un fun (gb:Int)=>un fun (Tl:Int) (qZ:LV)=>
    bif fJ then
     bif ga then
     mT E C a b' dq fJ ga (IntKind.wrap .i64 (b'-a)) gb ((Tl:Int)==1) qZ (dI (un fun (vN:Bool) (Tf:LV)=>
      kr Tf) (fun (F9:LV)=>
      bif decide ((a:Int)>0) then
       ar F9 (IntKind.wrap .i64 (a-1)) fun vU=>
       ar F9 gb fun oP=>
       (C E.cmp (E.ex vU++E.ex oP)).bind fun eO=>
       bif !(decide ((((V.nth eO 0).toInt):Int)<0)) then
       (C (E.k 5) [V.int .i64 a,V.int .i64 b',V.int .i64 gb,.list E.T F9]).bind fun pU=>
       kn ((V.nth pU 0).toInt,b',dq,fJ,ga,(V.nth (pU.drop 1) 0).toList)
       else
       (C (E.k 4) [V.int .i64 a,V.int .i64 b',V.int .i64 gb,.list E.T F9]).bind fun fV=>
       bif decide (((IntKind.wrap .i64 (((V.nth fV 0).toInt)-a)):Int)<(IntKind.wrap .i64 (b'-((V.nth fV 0).toInt)))) then
        (C (E.k 12) [V.int .i64 a,V.int .i64 ((V.nth fV 0).toInt),V.int .i64 dq,.list E.T ((V.nth (fV.drop 2) 0).toList)]).bind fun jL=>
        kn (IntKind.wrap .i64 (((V.nth fV 0).toInt)+1),b',dq,decide (((IntKind.wrap .i64 (((V.nth fV 0).toInt)-a)):Int)≥(IntKind.wrap .i64 (Int.tdiv (IntKind.wrap .i64 (b'-a)) 8))),(V.nth (fV.drop 1) 0).toBool,(V.nth jL 0).toList)
       else
        (C (E.k 12) [V.int .i64 (IntKind.wrap .i64 (((V.nth fV 0).toInt)+1)),V.int .i64 b',V.int .i64 dq,.list E.T ((V.nth (fV.drop 2) 0).toList)]).bind fun mU=>
        kn (a,(V.nth fV 0).toInt,dq,decide (((IntKind.wrap .i64 (b'-((V.nth fV 0).toInt))):Int)≥(IntKind.wrap .i64 (Int.tdiv (IntKind.wrap .i64 (b'-a)) 8))),(V.nth (fV.drop 1) 0).toBool,(V.nth mU 0).toList)
      else
       (C (E.k 4) [V.int .i64 a,V.int .i64 b',V.int .i64 gb,.list E.T F9]).bind fun me=>
       bif decide (((IntKind.wrap .i64 (((V.nth me 0).toInt)-a)):Int)<(IntKind.wrap .i64 (b'-((V.nth me 0).toInt)))) then
       (C (E.k 12) [V.int .i64 a,V.int .i64 ((V.nth me 0).toInt),V.int .i64 dq,.list E.T ((V.nth (me.drop 2) 0).toList)]).bind fun r23=>
       kn (IntKind.wrap .i64 (((V.nth me 0).toInt)+1),b',dq,decide (((IntKind.wrap .i64 (((V.nth me 0).toInt)-a)):Int)≥(IntKind.wrap .i64 (Int.tdiv (IntKind.wrap .i64 (b'-a)) 8))),(V.nth (me.drop 1) 0).toBool,(V.nth r23 0).toList)
       else
       (C (E.k 12) [V.int .i64 (IntKind.wrap .i64 (((V.nth me 0).toInt)+1)),V.int .i64 b',V.int .i64 dq,.list E.T ((V.nth (me.drop 2) 0).toList)]).bind fun r24=>
       kn (a,(V.nth me 0).toInt,dq,decide (((IntKind.wrap .i64 (b'-((V.nth me 0).toInt))):Int)≥(IntKind.wrap .i64 (Int.tdiv (IntKind.wrap .i64 (b'-a)) 8))),(V.nth (me.drop 1) 0).toBool,(V.nth r24 0).toList)))
     else
     mT E C a b' dq fJ ga (IntKind.wrap .i64 (b'-a)) gb false qZ (dI (un fun (SD:Bool) (anR:LV)=>
      kr anR) (fun (yB:LV)=>
      bif decide ((a:Int)>0) then
       ar yB (IntKind.wrap .i64 (a-1)) fun Tg=>
       ar yB gb fun Th=>
       (C E.cmp (E.ex Tg++E.ex Th)).bind fun LC=>
       bif !(decide ((((V.nth LC 0).toInt):Int)<0)) then
       (C (E.k 5) [V.int .i64 a,V.int .i64 b',V.int .i64 gb,.list E.T yB]).bind fun r31=>
       kn ((V.nth r31 0).toInt,b',dq,fJ,ga,(V.nth (r31.drop 1) 0).toList)
       else
       (C (E.k 4) [V.int .i64 a,V.int .i64 b',V.int .i64 gb,.list E.T yB]).bind fun pV=>
       bif decide (((IntKind.wrap .i64 (((V.nth pV 0).toInt)-a)):Int)<(IntKind.wrap .i64 (b'-((V.nth pV 0).toInt)))) then
        (C (E.k 12) [V.int .i64 a,V.int .i64 ((V.nth pV 0).toInt),V.int .i64 dq,.list E.T ((V.nth (pV.drop 2) 0).toList)]).bind fun r33=>
        kn (IntKind.wrap .i64 (((V.nth pV 0).toInt)+1),b',dq,decide (((IntKind.wrap .i64 (((V.nth pV 0).toInt)-a)):Int)≥(IntKind.wrap .i64 (Int.tdiv (IntKind.wrap .i64 (b'-a)) 8))),(V.nth (pV.drop 1) 0).toBool,(V.nth r33 0).toList)
       else
        (C (E.k 12) [V.int .i64 (IntKind.wrap .i64 (((V.nth pV 0).toInt)+1)),V.int .i64 b',V.int .i64 dq,.list E.T ((V.nth (pV.drop 2) 0).toList)]).bind fun r34=>
        kn (a,(V.nth pV 0).toInt,dq,decide (((IntKind.wrap .i64 (b'-((V.nth pV 0).toInt))):Int)≥(IntKind.wrap .i64 (Int.tdiv (IntKind.wrap .i64 (b'-a)) 8))),(V.nth (pV.drop 1) 0).toBool,(V.nth r34 0).toList)
      else
       (C (E.k 4) [V.int .i64 a,V.int .i64 b',V.int .i64 gb,.list E.T yB]).bind fun pW=>
       bif decide (((IntKind.wrap .i64 (((V.nth pW 0).toInt)-a)):Int)<(IntKind.wrap .i64 (b'-((V.nth pW 0).toInt)))) then
       (C (E.k 12) [V.int .i64 a,V.int .i64 ((V.nth pW 0).toInt),V.int .i64 dq,.list E.T ((V.nth (pW.drop 2) 0).toList)]).bind fun r36=>
       kn (IntKind.wrap .i64 (((V.nth pW 0).toInt)+1),b',dq,decide (((IntKind.wrap .i64 (((V.nth pW 0).toInt)-a)):Int)≥(IntKind.wrap .i64 (Int.tdiv (IntKind.wrap .i64 (b'-a)) 8))),(V.nth (pW.drop 1) 0).toBool,(V.nth r36 0).toList)
       else
       (C (E.k 12) [V.int .i64 (IntKind.wrap .i64 (((V.nth pW 0).toInt)+1)),V.int .i64 b',V.int .i64 dq,.list E.T ((V.nth (pW.drop 2) 0).toList)]).bind fun r37=>
       kn (a,(V.nth pW 0).toInt,dq,decide (((IntKind.wrap .i64 (b'-((V.nth pW 0).toInt))):Int)≥(IntKind.wrap .i64 (Int.tdiv (IntKind.wrap .i64 (b'-a)) 8))),(V.nth (pW.drop 1) 0).toBool,(V.nth r37 0).toList)))
    else
     mT E C a b' dq fJ ga (IntKind.wrap .i64 (b'-a)) gb false qZ (dI (un fun (auO:Bool) (anS:LV)=>
      kr anS) (fun (rb:LV)=>
      bif decide ((a:Int)>0) then
      ar rb (IntKind.wrap .i64 (a-1)) fun LF=>
      ar rb gb fun Ti=>
      (C E.cmp (E.ex LF++E.ex Ti)).bind fun yR=>
      bif !(decide ((((V.nth yR 0).toInt):Int)<0)) then
       (C (E.k 5) [V.int .i64 a,V.int .i64 b',V.int .i64 gb,.list E.T rb]).bind fun vZ=>
       kn ((V.nth vZ 0).toInt,b',dq,fJ,ga,(V.nth (vZ.drop 1) 0).toList)
      else
       (C (E.k 4) [V.int .i64 a,V.int .i64 b',V.int .i64 gb,.list E.T rb]).bind fun pX=>
       bif decide (((IntKind.wrap .i64 (((V.nth pX 0).toInt)-a)):Int)<(IntKind.wrap .i64 (b'-((V.nth pX 0).toInt)))) then
       (C (E.k 12) [V.int .i64 a,V.int .i64 ((V.nth pX 0).toInt),V.int .i64 dq,.list E.T ((V.nth (pX.drop 2) 0).toList)]).bind fun r46=>
       kn (IntKind.wrap .i64 (((V.nth pX 0).toInt)+1),b',dq,decide (((IntKind.wrap .i64 (((V.nth pX 0).toInt)-a)):Int)≥(IntKind.wrap .i64 (Int.tdiv (IntKind.wrap .i64 (b'-a)) 8))),(V.nth (pX.drop 1) 0).toBool,(V.nth r46 0).toList)
       else
       (C (E.k 12) [V.int .i64 (IntKind.wrap .i64 (((V.nth pX 0).toInt)+1)),V.int .i64 b',V.int .i64 dq,.list E.T ((V.nth (pX.drop 2) 0).toList)]).bind fun r47=>
       kn (a,(V.nth pX 0).toInt,dq,decide (((IntKind.wrap .i64 (b'-((V.nth pX 0).toInt))):Int)≥(IntKind.wrap .i64 (Int.tdiv (IntKind.wrap .i64 (b'-a)) 8))),(V.nth (pX.drop 1) 0).toBool,(V.nth r47 0).toList)
      else
      (C (E.k 4) [V.int .i64 a,V.int .i64 b',V.int .i64 gb,.list E.T rb]).bind fun pY=>
      bif decide (((IntKind.wrap .i64 (((V.nth pY 0).toInt)-a)):Int)<(IntKind.wrap .i64 (b'-((V.nth pY 0).toInt)))) then
       (C (E.k 12) [V.int .i64 a,V.int .i64 ((V.nth pY 0).toInt),V.int .i64 dq,.list E.T ((V.nth (pY.drop 2) 0).toList)]).bind fun r49=>
       kn (IntKind.wrap .i64 (((V.nth pY 0).toInt)+1),b',dq,decide (((IntKind.wrap .i64 (((V.nth pY 0).toInt)-a)):Int)≥(IntKind.wrap .i64 (Int.tdiv (IntKind.wrap .i64 (b'-a)) 8))),(V.nth (pY.drop 1) 0).toBool,(V.nth r49 0).toList)
      else
       (C (E.k 12) [V.int .i64 (IntKind.wrap .i64 (((V.nth pY 0).toInt)+1)),V.int .i64 b',V.int .i64 dq,.list E.T ((V.nth (pY.drop 2) 0).toList)]).bind fun r50=>
       kn (a,(V.nth pY 0).toInt,dq,decide (((IntKind.wrap .i64 (b'-((V.nth pY 0).toInt))):Int)≥(IntKind.wrap .i64 (Int.tdiv (IntKind.wrap .i64 (b'-a)) 8))),(V.nth (pY.drop 1) 0).toBool,(V.nth r50 0).toList)))))
noncomputable def ade (E:SE) (C:ab):=un fun a=>un fun b'=>un fun hG=>un fun fJ=>un fun ga ai=>pT E C a b' hG fJ ga ai (fun y=>some (Sum.inl y)) (fun r=>some (Sum.inr r))
noncomputable def LN (E:SE) (C:ab) (a b' hG:Int) (ai:LV):Option LV:=
 (Loop (ade E C) (a,b',hG,true,true,ai)).bind (fun (anT:LV)=>
  some [.list E.T anT])
noncomputable def LO (E:SE) (C:ab) (xs:LV):Option LV:=
 (C DW [.int .u64 (IntKind.wrap .u64 (xs.length:Int))]).bind fun r1=>
 (C (E.k 12) [V.int .i64 0,V.int .i64 (xs.length:Int),V.int .i64 ((V.nth r1 0).toInt),.list E.T xs]).bind fun r2=>
 some [.list E.T ((V.nth r2 0).toList)]
end Go.AM
set_option maxRecDepth 100000
namespace Go.AM
open Go.Proofs Go.Sort
class aq (α:Type) where
 E:SE
 enc:α→V
 cmp:α→α→Int
 re: ∀x,V.agg (E.ex (enc x))=enc x
 cs: ∀a b,CC E.cmp (E.ex (enc a)++E.ex (enc b))=some [.int .i64 (cmp a b)]
 Tm:SWO (fun a b=>decide (cmp a b<0))
 Tn: ∀{a b':Int} {ai:LV} {r:Option LV},Lv E CC a b' ai=r→CC (E.k 0) [.int .i64 a,.int .i64 b',.list E.T ai]=r
 To: ∀{lo hi first:Int} {ai:LV} {r:Option LV},Lw E CC lo hi first ai=r→CC (E.k 1) [.int .i64 lo,.int .i64 hi,.int .i64 first,.list E.T ai]=r
 Tp: ∀{a b':Int} {ai:LV} {r:Option LV},LA E CC a b' ai=r→CC (E.k 2) [.int .i64 a,.int .i64 b',.list E.T ai]=r
 Tq: ∀{a b':Int} {ai:LV} {r:Option LV},LB E CC a b' ai=r→CC (E.k 3) [.int .i64 a,.int .i64 b',.list E.T ai]=r
 Tr: ∀{a b' pivot:Int} {ai:LV} {r:Option LV},LD E CC a b' pivot ai=r→CC (E.k 4) [.int .i64 a,.int .i64 b',.int .i64 pivot,.list E.T ai]=r
 Ts: ∀{a b' pivot:Int} {ai:LV} {r:Option LV},LG E CC a b' pivot ai=r→CC (E.k 5) [.int .i64 a,.int .i64 b',.int .i64 pivot,.list E.T ai]=r
 Tt: ∀{a b':Int} {ai:LV} {r:Option LV},LH E CC a b' ai=r→CC (E.k 6) [.int .i64 a,.int .i64 b',.list E.T ai]=r
 Tu: ∀{a b':Int} {ai:LV} {r:Option LV},LJ E CC a b' ai=r→CC (E.k 7) [.int .i64 a,.int .i64 b',.list E.T ai]=r
 Tv: ∀{data:LV} {a b' c ed:Int} {r:Option LV},LL E CC data a b' c ed=r→CC (E.k 8) [.list E.T data,.int .i64 a,.int .i64 b',.int .i64 c,.int .i64 ed]=r
 Tw: ∀{data:LV} {a ed:Int} {r:Option LV},LM E CC data a ed=r→CC (E.k 9) [.list E.T data,.int .i64 a,.int .i64 ed]=r
 LP: ∀{data:LV} {a b' ed:Int} {r:Option LV},F6 E CC data a b' ed=r→CC (E.k 10) [.list E.T data,.int .i64 a,.int .i64 b',.int .i64 ed]=r
 LQ: ∀{data:LV} {a b':Int} {r:Option LV},F7 E CC data a b'=r→CC (E.k 11) [.list E.T data,.int .i64 a,.int .i64 b']=r
 Tx: ∀{a b' hG:Int} {ai:LV} {r:Option LV},LN E CC a b' hG ai=r→CC (E.k 12) [.int .i64 a,.int .i64 b',.int .i64 hG,.list E.T ai]=r
 Tz: ∀{xs:LV} {r:Option LV},LO E CC xs=r→CC (E.k 13) [.list E.T xs]=r
end Go.AM
set_option maxRecDepth 100000
set_option maxHeartbeats 4000000
namespace Go.AM
open Go.Proofs Go.Sort
variable {α:Type} [aq α]
def aK (a b:α):Bool:=decide (aq.cmp a b<0)
theorem v5 (a b:α):(aK a b=true)=(aq.cmp a b<0):=by unfold aK;rw[dW]
theorem uq (a b:α):((!aK a b)=true)= ¬(aq.cmp a b<0):=by unfold aK;simp
abbrev eA (d:Array α):List V:=sB aq.enc d
theorem LR {β:Type} {d:Array α} {i:Nat} {k:Int} {v:V} {x:Option β} (h:i<d.size:=by omega):ar (aS (eA d) k v) (i:Int) (fun _=>x)=x:=by
 unfold ar aS;rw[uC,iy,dx,aG,aZ,aG,aZ,Int.toNat_natCast,bU (by rw[uC,iy];exact h)];rfl
variable [Inhabited α]
theorem anU (a j:Nat) (d:Array α):insInner aK a (j+1) d=if j+1>a then (if aq.cmp d[j+1]! d[j]! <0 then insInner aK a j (swp d (j+1) j) else d) else d:=by
 rw[acV]
 by_cases h1:j+1>a
 ·rw[af h1];simp only[h1,wg,zh,v5]
 ·rw[ag h1,ag (by simp[h1])]
theorem TA (hi first root:Nat) (d:Array α):siftDown aK hi first root d=
  if 2*root+1≥hi then d else
   if 2*root+2<hi then
    (if aq.cmp d[first+(2*root+1)]! d[first+(2*root+2)]! <0 then
     (if aq.cmp d[first+root]! d[first+(2*root+2)]! <0 then siftDown aK hi first (2*root+2) (swp d (first+root) (first+(2*root+2))) else d)
    else (if aq.cmp d[first+root]! d[first+(2*root+1)]! <0 then siftDown aK hi first (2*root+1) (swp d (first+root) (first+(2*root+1))) else d))
   else (if aq.cmp d[first+root]! d[first+(2*root+1)]! <0 then siftDown aK hi first (2*root+1) (swp d (first+root) (first+(2*root+1))) else d):=by
 rw[siftDown]
 by_cases h1:2*root+1≥hi
 ·rw[qb h1,af h1]
 rw[dif_neg h1,ag h1]
 by_cases h2:2*root+2<hi
 ·rw[af h2]
  by_cases h3:aq.cmp d[first+(2*root+1)]! d[first+(2*root+2)]! <0
  ·rw[af h3,af (by simp only[bn,dW,v5];exact ⟨h2,h3⟩)]
   simp only[uq]
   by_cases h4:aq.cmp d[first+root]! d[first+(2*root+2)]! <0
   ·rw[ag (qe h4),qb h2,af h4]
   ·rw[af h4,ag h4]
  ·rw[ag h3,ag (by simp only[bn,dW,v5];exact fun h=>h3 h.2)]
   simp only[uq]
   by_cases h4:aq.cmp d[first+root]! d[first+(2*root+1)]! <0
   ·rw[ag (qe h4),af h4]
   ·rw[af h4,ag h4]
 ·rw[ag h2,ag (by simp only[bn,dW,v5];exact fun h=>h2 h.1)]
  simp only[uq]
  by_cases h4:aq.cmp d[first+root]! d[first+(2*root+1)]! <0
  ·rw[ag (qe h4),af h4]
  ·rw[af h4,ag h4]
theorem adf {a b i:Nat}: ∀(j:Nat) (d:Array α),j<d.size→d.size<1152921504606846976→
  ∃j' t,Loop (Bd (aq.E α) CC a b i) ((j:Int),eA d)=some (j',t,eA (insInner aK a j d))
 | 0,d,hj,hs=>⟨(0:Nat),false,cI (by
   simp (disch:=omega) only[Bd,vQ,un,aG,ag]
   rfl)⟩
 | j+1,d,hj,hs=>by
  obtain ⟨j',t,ih⟩:=adf (a:=a) (b:=b) (i:=i) j (swp d (j+1) j) (by rw[size_swp];omega) (by rw[size_swp];omega)
  rw[anU]
  by_cases h1:j+1>a
  ·rw[af h1]
   have e:Bd (aq.E α) CC a b i (((j+1:Nat):Int),eA d)=if aq.cmp d[j+1]! d[j]! <0 then some (.inl ((j:Int),eA (swp d (j+1) j))) else some (.inr (((j+1:Nat):Int),decide (aq.cmp d[j+1]! d[j]! <0),eA d)):=by
    simp (disch:=omega) only[Bd,vQ,un,aG,dx,iu,af,ag,wrap64,dP,g9,Int.toNat_natCast,Option.bind_some,iy,iz,aq.re,gZ,jI,iX,aq.cs,V.bZ,V.toInt_int,cond_true,cond_false,vP]
    rfl
   by_cases h2:aq.cmp d[j+1]! d[j]! <0
   ·rw[af h2] at e⊢
    exact ⟨j',t,(eQ e).trans ih⟩
   ·rw[ag h2] at e⊢
    exact ⟨_,_,cI e⟩
  ·rw[ag h1]
   exact ⟨((j+1:Nat):Int),false,cI (by
    simp (disch:=omega) only[Bd,vQ,un,aG,ag])⟩
theorem anV {a b:Nat}: ∀(n i:Nat) (d:Array α),b-i=n→b≤d.size→d.size<1152921504606846976→
  ∃j' t,Loop (Lu (aq.E α) CC a b) ((i:Int),eA d)=some (j',t,eA (insOuter aK a b i d)):=by
 intro n
 induction n with
 | zero=>
  intro i d hn hb hs
  rw[insOuter,bK]
  exact ⟨(i:Int),false,cI (by
   simp (disch:=omega) only[Lu,yA,un,pP,cond_false])⟩
 | succ n ih=>
  intro i d hn hb hs
  obtain ⟨j1,t1,h1⟩:=adf (a:=a) (b:=b) (i:=i) i d (by omega) hs
  obtain ⟨j',t,h2⟩:=ih (i+1) (insInner aK a i d) (by omega) (by rw[S5];omega) (by rw[S5];omega)
  rw[insOuter,aZ]
  refine ⟨j',t,(eQ ?_).trans h2⟩
  simp (disch:=omega) only[Lu,yA,un,aG,af,h1,Option.bind_some,dP,wrap64]
theorem adg {a b:Nat} {d:Array α} (hb:b≤d.size) (hs:d.size<1152921504606846976) (ha:a<1152921504606846976):
  CC ((aq.E α).k 0) [.int .i64 (a:Int),.int .i64 (b:Int),.list (aq.E α).T (eA d)]=some [.list (aq.E α).T (eA (insertionSort aK d a b))]:=by
 refine aq.Tn ?_
 unfold Lv
 obtain ⟨j',t,h⟩:=anV (a:=a) (b:=b) _ (a+1) d rfl hb hs
 simp (disch:=omega) only[dP,wrap64]
 rw[h]
 rfl
theorem anW (hi first:Nat): ∀(n root:Nat) (d:Array α),hi-root≤n→root<1152921504606846976→first+hi≤d.size→d.size<1152921504606846976→
  (∃x y z,Loop (q0 (aq.E α) CC hi first) ((root:Int),eA d)=some (.inl (x,y,z,eA (siftDown aK hi first root d))))∨
  (∃x y z,Loop (q0 (aq.E α) CC hi first) ((root:Int),eA d)=some (.inr (x,y,z,eA (siftDown aK hi first root d)))):=by
 intro n
 induction n with
 | zero=>
  intro root d hn hr hb hs
  rw[TA,aZ]
  exact .inl ⟨(root:Int),((root*2+1:Nat):Int),true,cI (by
   simp (disch:=omega) only[q0,sC,un,FI,dP,wrap64];rw[pO (by omega)];rfl)⟩
 | succ n ih=>
  intro root d hn hr hb hs
  by_cases h1:2*root+1≥hi
  ·rw[TA,af h1]
   exact .inl ⟨(root:Int),((root*2+1:Nat):Int),true,cI (by
    simp (disch:=omega) only[q0,sC,un,FI,dP,wrap64];rw[pO (by omega)];rfl)⟩
  ·have go: ∀c:Nat,c<hi→root<c→(q0 (aq.E α) CC hi first ((root:Int),eA d)=
      if aq.cmp d[first+root]! d[first+c]! <0 then some (.inl ((c:Int),eA (swp d (first+root) (first+c)))) else some (.inr (.inr ((root:Int),(c:Int),true,eA d))))→
     siftDown aK hi first root d=(if aq.cmp d[first+root]! d[first+c]! <0 then siftDown aK hi first c (swp d (first+root) (first+c)) else d)→
     ((∃x y z,Loop (q0 (aq.E α) CC hi first) ((root:Int),eA d)=some (.inl (x,y,z,eA (siftDown aK hi first root d))))∨
     (∃x y z,Loop (q0 (aq.E α) CC hi first) ((root:Int),eA d)=some (.inr (x,y,z,eA (siftDown aK hi first root d))))):=by
    intro c hc hrc e1 e2
    rw[e2]
    by_cases h3:aq.cmp d[first+root]! d[first+c]! <0
    ·rw[af h3] at e1
     rw[af h3,eQ e1]
     exact ih c _ (by omega) (by omega) (by rw[size_swp];omega) (by rw[size_swp];omega)
    ·rw[ag h3] at e1
     rw[ag h3,cI e1]
     exact .inr ⟨_,_,_,rfl⟩
   have e0:=TA hi first root d
   rw[ag h1] at e0
   by_cases h2:2*root+2<hi
   ·rw[af h2] at e0
    by_cases h3:aq.cmp d[first+(2*root+1)]! d[first+(2*root+2)]! <0
    ·rw[af h3] at e0
     refine go (2*root+2) (by omega) (by omega) ?_ e0
     rw[jm 2 root] at h3
     simp (disch:=omega) only[q0,sC,un,FI,dP,g9,wrap64]
     rw[aG,bK,aG,aZ]
     simp (disch:=omega) only[uo,aG,dx,iu,af,ag,wrap64,dP,g9,Int.toNat_natCast,Option.bind_some,iy,iz,aq.re,gZ,jI,iX,aq.cs,V.bZ,V.toInt_int,cond_true,cond_false,jm 2 root,pO]
     by_cases h4:aq.cmp d[first+root]! d[first+(root*2+2)]! <0
     ·simp only[h4,jO];rfl
     ·simp only[h4,lz];rfl
    ·rw[ag h3] at e0
     refine go (2*root+1) (by omega) (by omega) ?_ e0
     rw[jm 2 root] at h3
     simp (disch:=omega) only[q0,sC,un,FI,dP,g9,wrap64]
     rw[aG,bK,aG,aZ]
     simp (disch:=omega) only[uo,aG,dx,iu,af,ag,wrap64,dP,g9,Int.toNat_natCast,Option.bind_some,iy,iz,aq.re,gZ,jI,iX,aq.cs,V.bZ,V.toInt_int,cond_true,cond_false,jm 2 root,pP]
     by_cases h4:aq.cmp d[first+root]! d[first+(root*2+1)]! <0
     ·simp only[h4,jO];rfl
     ·simp only[h4,lz];rfl
   ·rw[ag h2] at e0
    refine go (2*root+1) (by omega) (by omega) ?_ e0
    simp (disch:=omega) only[q0,sC,un,FI,dP,g9,wrap64]
    rw[aG,bK,aG,bK]
    simp (disch:=omega) only[uo,aG,dx,iu,af,ag,wrap64,dP,g9,Int.toNat_natCast,Option.bind_some,iy,iz,aq.re,gZ,jI,iX,aq.cs,V.bZ,V.toInt_int,cond_true,cond_false,jm 2 root]
    by_cases h4:aq.cmp d[first+root]! d[first+(root*2+1)]! <0
    ·simp only[h4,jO];rfl
    ·simp only[h4,lz];rfl
theorem adh {lo hi first:Nat} {d:Array α} (hl:lo<1152921504606846976) (hb:first+hi≤d.size) (hs:d.size<1152921504606846976):
  CC ((aq.E α).k 1) [.int .i64 (lo:Int),.int .i64 (hi:Int),.int .i64 (first:Int),.list (aq.E α).T (eA d)]=some [.list (aq.E α).T (eA (siftDown aK hi first lo d))]:=by
 refine aq.To ?_
 unfold Lw
 rcases anW hi first _ lo d (aw _) hl hb hs with ⟨x,y,z,h⟩|⟨x,y,z,h⟩
 ·rw[h];rfl
 ·rw[h];rfl
theorem adi {hi first:Nat}: ∀(k:Nat) (d:Array α),k<1152921504606846976→first+hi≤d.size→d.size<1152921504606846976→
  ∃x y,Loop (Lx (aq.E α) CC first 0 hi) ((k:Int)-1,eA d)=some (x,y,eA (heapBuild aK hi first k d))
 | 0,d,hk,hb,hs=>⟨-1,false,cI (by
   simp (disch:=omega) only[Lx,yC,un,aG,ag]
   rfl)⟩
 | k+1,d,hk,hb,hs=>by
  obtain ⟨x,y,ih⟩:=adi (hi:=hi) (first:=first) k (siftDown aK hi first k d) (by omega) (by rw[FJ _ _ _ _ _ (aw _)];omega) (by rw[FJ _ _ _ _ _ (aw _)];omega)
  refine ⟨x,y,(eQ ?_).trans ih⟩
  simp (disch:=omega) only[Lx,yC,un,aG,af,vP,adh,Option.bind_some,V.bZ,V.jB,wrap64]
theorem adj {first:Nat}: ∀(k:Nat) (d:Array α),k<1152921504606846976→first+k≤d.size→d.size<1152921504606846976→
  ∃x y,Loop (Ly (aq.E α) CC first 0) ((k:Int)-1,eA d)=some (x,y,eA (heapPop aK first k d))
 | 0,d,hk,hb,hs=>⟨-1,false,cI (by
   simp (disch:=omega) only[Ly,yD,un,aG,ag]
   rfl)⟩
 | k+1,d,hk,hb,hs=>by
  obtain ⟨x,y,ih⟩:=adj (first:=first) k (siftDown aK k first 0 (swp d first (first+k))) (by omega) (by rw[FJ _ _ _ _ _ (aw _),size_swp];omega) (by rw[FJ _ _ _ _ _ (aw _),size_swp];omega)
  refine ⟨x,y,(eQ ?_).trans ih⟩
  have mD:=adh (lo:=0) (hi:=k) (first:=first) (d:=swp d first (first+k)) (by omega) (by rw[size_swp];omega) (by rw[size_swp];omega)
  unfold swp at mD⊢
  rw[show ((0:Nat):Int)=0 from rfl] at mD
  simp (disch:=omega) only[Ly,yD,un,vP,aG,dx,iu,af,ag,wrap64,dP,g9,Int.toNat_natCast,Option.bind_some,iy,iz,aq.re,gZ,jI,iX,aq.cs,V.bZ,V.toInt_int,cond_true,cond_false]
  rw[mD]
  simp (disch:=omega) only[Option.bind_some,V.bZ,V.jB,wrap64]
theorem anX {a b:Nat} {d:Array α} (fN:a<b) (hb:b≤d.size) (hs:d.size<1152921504606846976):
  CC ((aq.E α).k 2) [.int .i64 (a:Int),.int .i64 (b:Int),.list (aq.E α).T (eA d)]=some [.list (aq.E α).T (eA (heapSort aK d a b))]:=by
 refine aq.Tp ?_
 unfold LA
 obtain ⟨x,y,h1⟩:=adi (hi:=b-a) (first:=a) ((b-a-1)/2+1) d (by omega) (by omega) hs
 obtain ⟨x2,y2,h2⟩:=adj (first:=a) (b-a) (heapBuild aK (b-a) a ((b-a-1)/2+1) d) (by omega) (by rw[S6];omega) (by rw[S6];omega)
 have e1:((((b-a-1)/2+1:Nat):Int)-1)=Int.tdiv (((b-a:Nat):Int)-1) 2:=by
  rw[Int.tdiv_eq_ediv_of_nonneg (by omega)]
  omega
 rw[e1] at h1
 simp (disch:=omega) only[oN,wrap64]
 rw[h1]
 simp only[Option.bind_some,un]
 rw[h2]
 rfl
theorem anY: ∀(n i j:Nat) (d:Array α),j-i≤n→j<d.size→d.size<1152921504606846976→
  ∃x y z,Loop (FV (aq.E α) CC) ((i:Int),(j:Int),eA d)=some (x,y,z,eA (reverseLoop i j d)):=by
 intro n
 induction n with
 | zero=>
  intro i j d hn hj hs
  rw[reverseLoop,bK]
  exact ⟨(i:Int),(j:Int),false,cI (by
   simp (disch:=omega) only[FV,vR,un,pP,cond_false])⟩
 | succ n ih=>
  intro i j d hn hj hs
  rw[reverseLoop]
  by_cases h:i<j
  ·rw[af h]
   obtain ⟨x,y,z,h2⟩:=ih (i+1) (j-1) (swp d i j) (by omega) (by rw[size_swp];omega) (by rw[size_swp];omega)
   refine ⟨x,y,z,(eQ ?_).trans h2⟩
   simp (disch:=omega) only[FV,vR,un,aG,dx,iu,af,ag,wrap64,dP,g9,Int.toNat_natCast,Option.bind_some,iy,iz,aq.re,gZ,jI,iX,aq.cs,V.bZ,V.toInt_int,cond_true,cond_false,ll]
   rfl
  ·rw[ag h]
   exact ⟨(i:Int),(j:Int),false,cI (by
    simp (disch:=omega) only[FV,vR,un,pP,cond_false])⟩
theorem anZ {a b:Nat} {d:Array α} (fN:a<b) (hb:b≤d.size) (hs:d.size<1152921504606846976):
  CC ((aq.E α).k 3) [.int .i64 (a:Int),.int .i64 (b:Int),.list (aq.E α).T (eA d)]=some [.list (aq.E α).T (eA (reverseRange d a b))]:=by
 refine aq.Tq ?_
 unfold LB
 obtain ⟨x,y,z,h⟩:=anY _ a (b-1) d (aw _) (by omega) hs
 simp (disch:=omega) only[ll,wrap64]
 rw[h]
 rfl
end Go.AM
