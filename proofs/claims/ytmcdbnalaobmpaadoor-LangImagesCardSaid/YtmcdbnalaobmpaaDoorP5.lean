/-
  Functions of the program, lifted to plain data.
-/
import Derived.Sort.AssemblyPlain
import Derived.Test.YtmcdbnalaobmpaaDoorP4
set_option linter.unusedVariables false
set_option linter.unusedSimpArgs false
set_option maxRecDepth 100000
namespace Go.AM
open Go.Proofs
noncomputable abbrev IL:Code:=cJ Tryd.prog (au.bc 108)
noncomputable def Dj (C:ae) (t31 cg ch Dk Dl:Int) (ed bY bO bw bh:List V) (t32:Int) (numbers:List V) {β:Type} (kn:(Int × (List V))→Option β) (kr:(Int × Bool × (List V))→Option β):Option β:=
 bif decide ((t32:Int)<t31) then
  bif (decide (0≤t32))&&(decide (t32<(numbers.length:Int))) then
  (numbers[(t32:Int).toNat]?).bind fun x3=>
  kn (IntKind.wrap .i64 (t32+1),numbers.set ((t32:Int).toNat) (.int .i64 (-1)))
  else none
 else
  kr (t32,decide ((t32:Int)<t31),numbers)
noncomputable def IM (C:ae) (t31 cg ch Dk Dl:Int) (ed bY bO bw bh:List V):(Int × (List V))→Option ((Int × (List V)) ⊕ (Int × Bool × (List V))):=un fun t32 numbers=>Dj C t31 cg ch Dk Dl ed bY bO bw bh t32 numbers (fun y=>some (.inl y)) (fun r=>some (.inr r))
noncomputable def Dm (C:ae) (t40 cg ch Dk Dl:Int) (IN bY bO bw bh:List V) (t41:Int) (numbers:List V) {β:Type} (kn:(Int × (List V))→Option β) (kr:(Int × Bool × (List V))→Option β):Option β:=
 bif decide ((t41:Int)<t40) then
  bif (decide (0≤t41))&&(decide (t41<(IN.length:Int))) then
  (IN[(t41:Int).toNat]?).bind fun x7=>
  bif (decide (0≤x7.toInt))&&(decide (x7.toInt<(numbers.length:Int))) then
   (numbers[(x7.toInt:Int).toNat]?).bind fun x8=>
   kn (IntKind.wrap .i64 (t41+1),numbers.set ((x7.toInt:Int).toNat) (.int .i64 t41))
  else none
  else none
 else
  kr (t41,decide ((t41:Int)<t40),numbers)
noncomputable def IP (C:ae) (t40 cg ch Dk Dl:Int) (IN bY bO bw bh:List V):(Int × (List V))→Option ((Int × (List V)) ⊕ (Int × Bool × (List V))):=un fun t41 numbers=>Dm C t40 cg ch Dk Dl IN bY bO bw bh t41 numbers (fun y=>some (.inl y)) (fun r=>some (.inr r))
noncomputable def X5 (C:ae):cD:=fun β n ds k=>
 bif Nat.beq n 97 then bz N0 [false,true,false,false,false,false,false,true,false,false,false,false] [[1,0,0,3,4,5,6,7,0,9,10,11,12]] (@Dj C) ds k else
 bif Nat.beq n 177 then bz N3 [false,true,false,false,false,false,true,false,false,false,false,false] [[1,0,0,3,4,5,6,0,8,9,10,11,12]] (@Dm C) ds k else
 none
abbrev X6 (C:ae) (b:cB):Prop:=cC Tryd.prog au C (X5 C) 108 (cQ Tryd.prog (au.bc 108)) (au.sin 108).bj.length b
theorem ahV (C:ae):X6 C (.loop (ao [1,1,1,1,0,1,0,0] IL)):=
 bC N0 [false,true,false,false,false,false,false,true,false,false,false,false] [[1,0,0,3,4,5,6,7,0,9,10,11,12]] (@Dj C) (by kernel_rfl) (aW (bs:=[]) (by kernel_rfl) ar) (fun ds=>by kernel_rfl) (fun i x=>by kernel_rfl) (fun i x β k=>by kernel_rfl) (fun β ds k=>by kernel_rfl)
theorem ahW (C:ae):X6 C (.loop (ao [1,1,1,1,1,0,1,0,0] IL)):=
 bC N3 [false,true,false,false,false,false,true,false,false,false,false,false] [[1,0,0,3,4,5,6,0,8,9,10,11,12]] (@Dm C) (by kernel_rfl) (aW (bs:=[]) (by kernel_rfl) ar) (fun ds=>by kernel_rfl) (fun i x=>by kernel_rfl) (fun i x β k=>by kernel_rfl) (fun β ds k=>by kernel_rfl)
noncomputable def X7 (C:ae) (aK aO:Int) (aD aT:List V):Option (List V):=
 (C sN [.int .i64 aK,.int .i64 aO,.list aC aD,.list aG aT]).bind fun r1=>
 bif (((V.nth r1 0).toInt):Int) != 0 then
  some [.int .i64 0,.int .i64 0,.list aC ([]:List V),.list aG ([]:List V),.list bt ([]:List V)]
 else
  (C HN [.int .i64 aK,.int .i64 aO,.int .i64 aK,.int .i64 aO,.list aC aD,.list aG aT]).bind fun r2=>
  bif (decide (0≤(((V.nth (((r2.drop 3).drop 1).drop 1) 0).toList).length:Int)))&&((decide ((((V.nth (((r2.drop 3).drop 1).drop 1) 0).toList).length:Int)≤(((V.nth (((r2.drop 3).drop 1).drop 1) 0).toList).length:Int)))&&(Nat.ble ((((((V.nth (((r2.drop 3).drop 1).drop 1) 0).toList).length:Int):Int).toNat)*8) bP)) then
  (Loop (IM C ((List.replicate (((((V.nth (((r2.drop 3).drop 1).drop 1) 0).toList).length:Int):Int).toNat) (V.int .i64 0)).length:Int) 0 0 ((V.nth r2 0).toInt) ((V.nth (r2.drop 1) 0).toInt) ((V.nth ((((r2.drop 3).drop 4).drop 1).drop 1) 0).toList) ([]:List V) ([]:List V) ((V.nth ((r2.drop 3).drop 4) 0).toList) ((V.nth (((r2.drop 3).drop 4).drop 1) 0).toList)) (0,List.replicate (((((V.nth (((r2.drop 3).drop 1).drop 1) 0).toList).length:Int):Int).toNat) (V.int .i64 0))).bind (un fun (jr:Int)=>un fun (lD:Bool) (ahX:List V)=>
   (Loop (IP C (((V.nth ((((r2.drop 3).drop 4).drop 1).drop 1) 0).toList).length:Int) 0 0 ((V.nth r2 0).toInt) ((V.nth (r2.drop 1) 0).toInt) ((V.nth ((((r2.drop 3).drop 4).drop 1).drop 1) 0).toList) ([]:List V) ([]:List V) ((V.nth ((r2.drop 3).drop 4) 0).toList) ((V.nth (((r2.drop 3).drop 4).drop 1) 0).toList)) (0,ahX)).bind (un fun (tc:Int)=>un fun (Pk:Bool) (ahY:List V)=>
    some [.int .i64 ((V.nth r2 0).toInt),.int .i64 ((V.nth (r2.drop 1) 0).toInt),.list aC ((V.nth ((r2.drop 3).drop 4) 0).toList),.list aG ((V.nth (((r2.drop 3).drop 4).drop 1) 0).toList),.list bt ahY]))
  else none
theorem ahZ {aK aO:Int} {aD aT:List V} {r:Option (List V)} (h:X7 CC aK aO aD aT=r):CC yV [.int .i64 aK,.int .i64 aO,.list aC aD,.list aG aT]=r:=
 bD (key:=108) (L:=X5 CC) (bs:=[.loop (ao [1,1,1,1,0,1,0,0] IL),.loop (ao [1,1,1,1,1,0,1,0,0] IL)]) (by kernel_rfl) (bm (ahV CC) (bm (ahW CC) ar)) (bB (by kernel_rfl) h)
def nV (q:Nat):V:= .int .i64 (q:Int)
def nS (S:List Nat):List V:=S.map nV
def mS (S:List Nat):List V:=gv nV 0 S
theorem zj (a b:Nat):jX (nV a) (nV b)=decide (a=b):=ahC a b
theorem qm {S:List Nat}:(nS S).length=S.length:=by simp[nS]
theorem zk {S:List Nat} {i:Nat} (h:i<S.length):(nS S)[i]? =some (nV S[i]):=by simp[nS,h]
theorem ah0 {x:Nat} (hx:x≤1000000):CC Cl [nV x,.list bt []]=some [nV 0,.list bt (nS [x]),.list gK (mS [x])]:=by
 refine ahG ?_
 unfold XU
 rw[IG (by omega)]
 exact bT rfl (bT rfl (bT (cap (by simp) (by omega)) rfl))
theorem ah1 {S:List Nat} {x:Nat} (hx:x≤1000000) (hl:S.length≤1000000):CC MI [nV x,.list bt (nS S),.list gK (mS S)]=some [nV ((dh S x).idxOf x),.list gK (mS (dh S x)),.list bt (nS (dh S x))]:=by
 refine ahH ?_
 unfold XV
 have e1:=wR zj x S 0
 rw[IG (by omega)]
 refine bT rfl ?_
 rw[Pf]
 by_cases h:x∈S
 ·refine bF (by rw[show gk (.int .i64 (x:Int)) (mS S)=true from e1.trans (bN h)];rfl) ?_
  have e2:=zg zj x (.int .i64 0) S 0 h
  rw[show jb (.int .i64 (x:Int)) (mS S) (.int .i64 0)=_ from e2,af h,eh,show dh S x=S by unfold dh;rw[af h]]
  rfl
 ·refine bT (by rw[show gk (.int .i64 (x:Int)) (mS S)=false from e1.trans (db h)];rfl) ?_
  refine bT rfl ?_
  refine bT (cap (by rw[qm];simp;omega) (by omega)) ?_
  have e2:=zh zj x S 0 h
  rw[eh] at e2
  rw[qm,show fB (.int .i64 (x:Int)) (.int .i64 (S.length:Int)) (mS S)=_ from e2,ag h,show dh S x=S++[x] by unfold dh;rw[ag h]]
  simp[nS,nV,mS]
theorem ah2 {a:Da} {q x:Nat} (hq:q<a.n) (hx:x<a.L):CC sR (nV q::nV x::dK a)=some (nV (a.nx q x)::dK a):=by
 refine ahE ?_
 unfold XS
 refine bs (Da.nW hq) ?_
 rw[pc]
 exact bs (qk hx) rfl
theorem ah3 {a:Da} {q:Nat} (hq:q<a.n):CC sU (nV q::dK a)=some (.bool (a.fin q)::dK a):=by
 refine ahF ?_
 unfold XT
 exact bs (Da.uH hq) rfl
section
variable {a:Da} (h:a.Ok)
include h
theorem ah4 {S U:List Nat} {q:Nat} (hq:q<a.n) (hS: ∀s∈S,s<a.n) (hSn:S.length≤1000) (hp:bf a.nx S q a.L <+: U) {i c1 c2:Int} {l1 l2 l3 l4:List V}:
  Loop (II CC (a.L:Int) i (q:Int) ((List.replicate (((a.L:Nat):Int).toNat) (V.int .i64 0)).length:Int) c1 c2 (a.L:Int) 0 l1 l2 l3 l4) (0,(a.L:Int),(a.st:Int),a.cZ,a.cS,List.replicate (((a.L:Nat):Int).toNat) (V.int .i64 0),nS S,mS S)=
   some ((a.L:Int),false,(a.L:Int),(a.st:Int),a.cZ,a.cS,(tab a.L fun x=>nV (U.idxOf (a.nx q x))),nS (bf a.nx S q a.L),mS (bf a.nx S q a.L)):=by
 have h6:=h.l6
 rw[Int.toNat_natCast,o8,dI]
 refine (eY a.L (fun x=>((x:Int),(a.L:Int),(a.st:Int),a.cZ,a.cS,(tab a.L fun j=>if j<x then nV (U.idxOf (a.nx q j)) else nV 0),nS (bf a.nx S q x),mS (bf a.nx S q x))) _ (fun x hx=> ?_) ?_)
 ·simp only[II,Dc,un]
  refine bT (cU hx) ?_
  refine bs (ah2 hq hx) ?_
  have hT:(bf a.nx S q x).length≤1000000:=by
   have: ∀x,(bf a.nx S q x).length≤S.length+x:=by
    intro x
    induction x with
    | zero=>exact ax _
    | succ x ih=>rw[bf,qh];split<;>omega
   have:=this x
   omega
  refine bs (ah1 (S:=bf a.nx S q x) (by have:=h.fP hq hx;have:=h.fO;omega) hT) ?_
  refine (e9 hx).trans ?_
  rw[cy (by omega),Int.toNat_natCast,o7]
  have e:(dh (bf a.nx S q x) (a.nx q x)).idxOf (a.nx q x)=U.idxOf (a.nx q x):=(wO ((ta S q (show x+1≤a.L by omega)).trans hp) wK).symm
  show some (Sum.inl _)=some (Sum.inl _)
  refine congrArg (fun x=>some (Sum.inl x)) ?_
  refine iE rfl (iE rfl (iE rfl (iE rfl (iE rfl (iE ?_ (iE rfl rfl))))))
  refine eX fun j _=> ?_
  by_cases hj:j=x
  ·rw[af hj,af (by omega),hj,←e];rfl
  ·rw[ag hj]
   by_cases cp:j<x
   ·rw[af cp,af (by omega)]
   ·rw[ag cp,ag (by omega)]
 ·simp only[II,Dc,un]
  refine bF (bq (ax _)) ?_
  rw[bq (ax _)]
  have:(tab a.L fun j=>if j<a.L then nV (U.idxOf (a.nx q j)) else nV 0)=tab a.L fun j=>nV (U.idxOf (a.nx q j)):=eX fun j hj=>af hj
  rw[this]
theorem ah5:CC HN ([nV a.L,nV a.st]++dK a)=some ([nV a.L,nV 0,.int .i64 0]++(dK a++[.list aC a.trim.cZ,.list aG a.trim.cS,.list bt (nS (an a.L a.nx a.st a.n))])):=by
 have h6:=h.l6
 have hm:=h.fO
 have hd:=h.nR a.n
 refine ahU ?_
 unfold X2
 refine bs (ah0 (by have:=h.s;omega)) ?_
 have key:Loop (IK CC (a.L:Int) 0 0 (a.L:Int) 0 ([]:List V) ([]:List V)) (0,(a.L:Int),(a.st:Int),a.cZ,a.cS,nS [a.st],mS [a.st],([]:List V),([]:List V))=
   some (.inr (((an a.L a.nx a.st a.n).length:Int),false,(a.L:Int),(a.st:Int),a.cZ,a.cS,nS (an a.L a.nx a.st a.n),mS (an a.L a.nx a.st a.n),a.trim.cZ,a.trim.cS)):=by
  refine (eY (an a.L a.nx a.st a.n).length (fun i=>((i:Int),(a.L:Int),(a.st:Int),a.cZ,a.cS,nS (an a.L a.nx a.st i),mS (an a.L a.nx a.st i),(tab i fun j=>V.bool (a.trim.fin j)),(tab i fun j=>gb a.L (a.trim.nx j)))) _ (fun i hi=> ?_) ?_)
  ·have fY:=zb hd hi
   have wU:(an a.L a.nx a.st i)[i]=(an a.L a.nx a.st a.n)[i]:=(lH (show i≤a.n by omega)).getElem fY
   have hq:(an a.L a.nx a.st a.n)[i]<a.n:=h.wP _ _ (eQ hi)
   have hlen:(an a.L a.nx a.st i).length≤512:=jT (h.nR i) hm
   have aoh:(an a.L a.nx a.st (i+1)).length≤512:=jT (h.nR (i+1)) hm
   have jl:=zc hd hi
   simp only[IK,Dd,un]
   refine bT (bN (by rw[qm];omega)) ?_
   refine (qj (zk fY)).trans ?_
   refine bT (nU (by omega) (by omega)) ?_
   rw[wU]
   refine bs (ah4 h hq (h.wP i) (by omega) (U:=an a.L a.nx a.st a.n) (by rw[←jl];exact lH (by omega))) ?_
   rw[←jl]
   refine bF (db (by rw[qm];omega)) ?_
   refine bT (cap (by rw[dI];simp;omega) (by omega)) ?_
   refine bs (ah3 hq) ?_
   refine bT (cap (by rw[dI];simp;omega) (by omega)) ?_
   rw[cy (by omega),ki,ki]
   have e1:a.trim.fin i=a.fin (an a.L a.nx a.st a.n)[i]:=CW hi
   have e2:gb a.L (a.trim.nx i)= .list bt (tab a.L fun x=>nV ((an a.L a.nx a.st a.n).idxOf (a.nx (an a.L a.nx a.st a.n)[i] x))):=by
    unfold gb
    refine congrArg _ (eX fun x hx=> ?_)
    rw[show a.trim.nx i x=_ from wM hi hx];rfl
   rw[e1,e2]
   rfl
  ·simp only[IK,Dd,un]
   rw[CX hd,qm]
   refine bF (bq (ax _)) ?_
   rw[bq (ax _)]
   have e3:a.trim.n=(an a.L a.nx a.st a.n).length:=mi
   unfold Da.cZ Da.cS
   rw[e3];rfl
 refine bs key ?_
 rfl
end
def jO (U:List Nat) (n:Nat):List V:=tab n fun q=>if q∈U then nV (U.idxOf q) else .int .i64 (-1)
theorem X8 {U:List Nat} {n i:Nat} (hU:U.Nodup) (hi:i<U.length):(tab n fun q=>if q∈U.take i then nV (U.idxOf q) else V.int .i64 (-1)).set U[i] (.int .i64 (i:Int))=tab n fun q=>if q∈U.take (i+1) then nV (U.idxOf q) else V.int .i64 (-1):=by
 rw[o7]
 refine eX fun q _=> ?_
 have e:q∈U.take (i+1)↔q∈U.take i∨q=U[i]:=by rw[Ko hi,eP,gX]
 by_cases hq:q=U[i]
 ·rw[af hq,af (e.2 (.inr hq)),hq,hU.idxOf_getElem i hi];rfl
 ·rw[ag hq]
  by_cases h2:q∈U.take i
  ·rw[af h2,af (e.2 (.inl h2))]
  ·rw[ag h2,ag fun h3=>(e.1 h3).elim h2 hq]
theorem X9 {a:Da} (h:a.Ok):CC yV (dK a)=some (dK a.trim++[.list bt (jO (an a.L a.nx a.st a.n) a.n)]):=by
 have hm:=h.fO
 have hU:=h.wP a.n
 have hle:=h.nR a.n
 refine ahZ ?_
 unfold X7
 refine bs (Db h) ?_
 refine bF rfl ?_
 refine bs (ah5 h) ?_
 have e0:((V.nth (((([nV a.L,nV 0,V.int .i64 0]++(dK a++[V.list aC a.trim.cZ,V.list aG a.trim.cS,V.list bt (nS (an a.L a.nx a.st a.n))])).drop 3).drop 1).drop 1) 0).toList)=a.cZ:=rfl
 rw[e0,Da.pb]
 refine bT (nU (by omega) (by omega)) ?_
 rw[Int.toNat_natCast,o8,dI]
 generalize hUd:an a.L a.nx a.st a.n=U at*
 have l1: ∀{c1 c2 c3 c4:Int} {s1 s2 s3 s4 s5:List V},Loop (IM CC (a.n:Int) c1 c2 c3 c4 s1 s2 s3 s4 s5) (0,tab a.n fun _=>V.int .i64 0)=some ((a.n:Int),false,tab a.n fun q=>if q∈U.take 0 then nV (U.idxOf q) else V.int .i64 (-1)):=by
  intro c1 c2 c3 c4 s1 s2 s3 s4 s5
  refine (eY a.n (fun i=>((i:Int),(tab a.n fun j=>if j<i then V.int .i64 (-1) else V.int .i64 0))) _ (fun i hi=> ?_) ?_)
  ·simp only[IM,Dj,un]
   refine bT (cU hi) ?_
   refine (e9 hi).trans ?_
   rw[cy (by omega),Int.toNat_natCast,o7]
   refine congrArg (fun x=>some (Sum.inl (((i+1:Nat):Int),x))) (eX fun j _=> ?_)
   by_cases hj:j=i
   ·rw[af hj,af (by omega)]
   ·rw[ag hj]
    by_cases cp:j<i
    ·rw[af cp,af (by omega)]
    ·rw[ag cp,ag (by omega)]
  ·simp only[IM,Dj,un]
   refine bF (bq (ax _)) ?_
   rw[bq (ax _)]
   refine congrArg (fun x=>some (Sum.inr ((a.n:Int),false,x))) (eX fun j hj=> ?_)
   rw[af hj,List.take_zero,ag (by simp)]
 refine bs l1 ?_
 simp only[un]
 have Pl:U.Nodup:=by rw[←hUd];exact wL _
 have l2: ∀{c1 c2 c3 c4:Int} {s2 s3 s4 s5:List V},Loop (IP CC ((nS U).length:Int) c1 c2 c3 c4 (nS U) s2 s3 s4 s5) (0,tab a.n fun q=>if q∈U.take 0 then nV (U.idxOf q) else V.int .i64 (-1))=some ((U.length:Int),false,jO U a.n):=by
  intro c1 c2 c3 c4 s2 s3 s4 s5
  rw[qm]
  refine (eY U.length (fun i=>((i:Int),(tab a.n fun q=>if q∈U.take i then nV (U.idxOf q) else V.int .i64 (-1)))) _ (fun i hi=> ?_) ?_)
  ·have hq:=hU U[i] (eQ hi)
   simp only[IP,Dm,un]
   refine bT (cU hi) ?_
   refine (qj (zk hi)).trans ?_
   refine (e9 (i:=U[i]) hq).trans ?_
   rw[cy (by omega)]
   refine congrArg (fun x=>some (Sum.inl (((i+1:Nat):Int),x))) ?_
   exact X8 Pl hi
  ·simp only[IP,Dm,un]
   refine bF (bq (ax _)) ?_
   rw[bq (ax _),u7]
   rfl
 refine bs l2 ?_
 rfl
end Go.AM
set_option maxRecDepth 100000
namespace Go.AM
section
variable {β:Type} [DecidableEq β]
def a8 (g:Nat→β):Nat→List β
 | 0=>[]
 | n+1=>dh (a8 g n) (g n)
theorem Pm (g:Nat→β): ∀n,(a8 g n).Nodup
 | 0=>List.nodup_nil
 | n+1=>Xi (Pm g n)
theorem jP {g:Nat→β} {v:β}: ∀{n},v∈a8 g n↔∃q,q<n∧g q=v
 | 0=>⟨fun h=>(by cases h),fun ⟨q,h,_⟩=>(by omega)⟩
 | n+1=>by
  have ih:=jP (g:=g) (v:=v) (n:=n)
  rw[a8]
  unfold dh
  constructor
  ·intro h
   split at h
   ·obtain ⟨q,h1,h2⟩:=ih.1 h;exact ⟨q,by omega,h2⟩
   ·rcases eP.1 h with h|h
    ·obtain ⟨q,h1,h2⟩:=ih.1 h;exact ⟨q,by omega,h2⟩
    ·exact ⟨n,by omega,(gX.1 h).symm⟩
  ·rintro ⟨q,h1,h2⟩
   rcases eg q n with c|c
   ·exact (Iu (a8 g n) (g n)).subset (ih.2 ⟨q,c,h2⟩)
   ·obtain rfl:q=n:=by omega
    rw[←h2];exact wK
theorem ah6 {g:Nat→β} {m n:Nat} (h:m≤n):a8 g m <+: a8 g n:=by
 induction n with
 | zero=>rw[tJ.1 h];exact np _
 | succ n ih=>
  rcases eg m (n+1) with c|c
  ·exact (ih (by omega)).trans (Iu _ _)
  ·rw[show m=n+1 by omega];exact np _
theorem th (g:Nat→β): ∀n,(a8 g n).length≤n
 | 0=>ax _
 | n+1=>by
  have:=th g n
  rw[a8,qh]
  split<;>omega
def cI (g:Nat→β) (n q:Nat):Nat:=(a8 g n).idxOf (g q)
theorem Dn {g:Nat→β} {n q:Nat} (h:q<n):cI g n q<(a8 g n).length:=vg (jP.2 ⟨q,h,rfl⟩)
theorem Dp {g:Nat→β} {n p q:Nat} (hp:p<n) (hq:q<n):cI g n p=cI g n q↔g p=g q:=by
 constructor
 ·intro h
  have h1:=List.getElem_idxOf (Dn (g:=g) hp)
  have h2:=List.getElem_idxOf (Dn (g:=g) hq)
  rw[←h1,←h2]
  exact getElem_congr_idx h
 ·intro h;unfold cI;rw[h]
theorem Dq {g:Nat→β} {m n q:Nat} (h:q<m) (hm:m≤n):cI g n q=cI g m q:=wO (ah6 hm) (jP.2 ⟨q,h,rfl⟩)
theorem Pn {g:Nat→β} {q:Nat} (h:g q∈a8 g q):a8 g (q+1)=a8 g q:=by rw[a8];unfold dh;rw[af h]
theorem IQ {g:Nat→β} {q:Nat} (h:g q∉a8 g q):a8 g (q+1)=a8 g q++[g q]:=by rw[a8];unfold dh;rw[ag h]
theorem Ya {g:Nat→β} {n q:Nat} (hq:q<n) (h:g q∈a8 g q):cI g n q=(a8 g q).idxOf (g q):=by
 rw[Dq (show q<q+1 by omega) (by omega)]
 unfold cI
 rw[Pn h]
theorem Yb {g:Nat→β} {n q:Nat} (hq:q<n) (h:g q∉a8 g q):cI g n q=(a8 g q).length:=by
 rw[Dq (show q<q+1 by omega) (by omega)]
 unfold cI
 rw[IQ h,vf,ag h]
 simp
def pd (p:Nat→Nat) (n:Nat):Prop:= ∀m,m≤n→a8 p m=List.range (a8 p m).length
theorem Yc (g:Nat→β) (n:Nat): ∀m,m≤n→a8 (cI g n) m=List.range (a8 g m).length:=by
 intro m
 induction m with
 | zero=>intro _;rfl
 | succ m ih=>
  intro hm
  have ih:=ih (by omega)
  have e1:cI g n m=cI g (m+1) m:=Dq (by omega) hm
  have e2:cI g (m+1) m=if g m∈a8 g m then (a8 g m).idxOf (g m) else (a8 g m).length:=by
   unfold cI
   rw[a8]
   unfold dh
   split
   ·rfl
   ·rename_i h
    rw[vf,ag h]
    simp
  rw[a8,ih,a8,qh]
  unfold dh
  by_cases h:g m∈a8 g m
  ·have:=vg h
   rw[af h] at e2
   rw[af h,af (by rw[e1,e2];exact ja.2 this)]
  ·rw[ag h] at e2
   rw[ag h,ag (by rw[e1,e2];simp),e1,e2,AB]
theorem Po (g:Nat→β) (n:Nat):pd (cI g n) n:=fun m hm=>by
 rw[Yc g n m hm,List.length_range]
theorem Pp {γ:Type} [DecidableEq γ] {f:Nat→β} {c:Nat→γ} {n:Nat} (hr: ∀q q',q<n→q'<n→f q=f q'→c q=c q') (hl:(a8 f n).length≤(a8 c n).length):
  ∀q q',q<n→q'<n→c q=c q'→f q=f q':=by
 intro q q' hq cx hc
 refine Decidable.byContradiction fun hf=> ?_
 have rep: ∀v∈a8 f n,∃q,q<n∧f q=v:=fun v hv=>jP.1 hv
 have: ∃R:β→Nat,∀v∈a8 f n,R v<n∧f (R v)=v:=by
  classical
  refine ⟨fun v=>if h:v∈a8 f n then Classical.choose (rep v h) else 0,fun v hv=> ?_⟩
  simp only[hv,pB]
  exact Classical.choose_spec (rep v hv)
 obtain ⟨R,hR⟩:=this
 have jo:a8 c n ⊆ ((a8 f n).filter fun v=>decide (v≠f q')).map fun v=>c (R v):=by
  intro u hu
  obtain ⟨s,hs,rfl⟩:=jP.1 hu
  by_cases h:f s=f q'
  ·refine fL.2 ⟨f q,List.mem_filter.2 ⟨jP.2 ⟨q,hq,rfl⟩,bN hf⟩,?_⟩
   have h1:=hR (f q) (jP.2 ⟨q,hq,rfl⟩)
   rw[hr _ _ h1.1 hq h1.2,hc,hr _ _ hs cx h]
  ·refine fL.2 ⟨f s,List.mem_filter.2 ⟨jP.2 ⟨s,hs,rfl⟩,bN h⟩,?_⟩
   have h1:=hR (f s) (jP.2 ⟨s,hs,rfl⟩)
   exact hr _ _ h1.1 hs h1.2
 have h1:=List.Nodup.length_le_of_subset (Pm c n) jo
 rw[cb] at h1
 have h2:((a8 f n).filter fun v=>decide (v≠f q')).length<(a8 f n).length:=by
  have hm:f q'∈a8 f n:=jP.2 ⟨q',cx,rfl⟩
  have a9:=List.length_filter_lt_length_iff_exists (p:=fun v=>decide (v≠f q')) (l:=a8 f n)
  exact a9.2 ⟨f q',hm,by simp⟩
 omega
theorem Yd {γ:Type} [DecidableEq γ] {f:Nat→β} {c:Nat→γ} {n:Nat} (hr: ∀q q',q<n→q'<n→f q=f q'→c q=c q'):(a8 c n).length≤(a8 f n).length:=by
 rcases eg (a8 f n).length (a8 c n).length with h|h
 ·have:=Pp hr (by omega)
  have rep: ∀v∈a8 f n,∃q,q<n∧f q=v:=fun v hv=>jP.1 hv
  have: ∃R:β→Nat,∀v∈a8 f n,R v<n∧f (R v)=v:=by
   classical
   refine ⟨fun v=>if h:v∈a8 f n then Classical.choose (rep v h) else 0,fun v hv=> ?_⟩
   simp only[hv,pB]
   exact Classical.choose_spec (rep v hv)
  obtain ⟨R,hR⟩:=this
  have jo:a8 c n ⊆ (a8 f n).map fun v=>c (R v):=by
   intro u hu
   obtain ⟨s,hs,rfl⟩:=jP.1 hu
   have h1:=hR (f s) (jP.2 ⟨s,hs,rfl⟩)
   exact fL.2 ⟨f s,jP.2 ⟨s,hs,rfl⟩,hr _ _ h1.1 hs h1.2⟩
  have h1:=List.Nodup.length_le_of_subset (Pm c n) jo
  rw[cb] at h1
  omega
 ·exact h
theorem ah7 {γ:Type} [DecidableEq γ] {f:Nat→β} {c:Nat→γ} {n:Nat} (h: ∀q q',q<n→q'<n→(f q=f q'↔c q=c q')): ∀q,q<n→cI f n q=cI c n q:=by
 have key: ∀m,m≤n→(a8 f m).length=(a8 c m).length∧∀q,q<m→cI f m q=cI c m q:=by
  intro m
  induction m with
  | zero=>intro _;exact ⟨rfl,fun q hq=>by omega⟩
  | succ m ih=>
   intro hm
   obtain ⟨i1,i2⟩:=ih (by omega)
   have lY:f m∈a8 f m↔c m∈a8 c m:=by
    rw[jP,jP]
    exact ⟨fun ⟨q,h1,h2⟩=>⟨q,h1,(h q m (by omega) (by omega)).1 h2⟩,fun ⟨q,h1,h2⟩=>⟨q,h1,(h q m (by omega) (by omega)).2 h2⟩⟩
   refine ⟨?_,fun q hq=> ?_⟩
   ·rw[a8,a8,qh,qh,i1]
    by_cases hx:f m∈a8 f m
    ·rw[af hx,af (lY.1 hx)]
    ·rw[ag hx,ag fun h=>hx (lY.2 h)]
   ·rcases eg q m with c1|c1
    ·exact (Dq (g:=f) c1 (by omega)).trans ((i2 q c1).trans (Dq (g:=c) c1 (by omega)).symm)
    ·obtain rfl:q=m:=by omega
     unfold cI
     rw[a8,a8]
     by_cases hx:f q∈a8 f q
     ·obtain ⟨r,h1,h2⟩:=jP.1 hx
      have h3:=(h r q (by omega) (by omega)).1 h2
      have:=i2 r h1
      unfold cI at this
      unfold dh
      rw[af hx,af (lY.1 hx),←h2,←h3,this]
     ·unfold dh
      rw[ag hx,ag fun h=>hx (lY.2 h),vf,vf,ag hx,ag fun h=>hx (lY.2 h)]
      simp[i1]
 exact (key n (ax _)).2
end
namespace Da
structure Part (a:Da) (c:Nat→Nat):Prop where
 coarse: ∀q q',q<a.n→q'<a.n→a.o5 q a q'→c q=c q'
 fin: ∀q q',q<a.n→q'<a.n→c q=c q'→a.fin q=a.fin q'
def sig (a:Da) (c:Nat→Nat) (q:Nat):List Nat:=c q::(List.range a.L).map fun x=>c (a.nx q x)
theorem wV {a:Da} {c:Nat→Nat} {q q':Nat}:a.sig c q=a.sig c q'↔c q=c q'∧∀x,x<a.L→c (a.nx q x)=c (a.nx q' x):=by
 unfold sig
 rw[Ao]
 refine and_congr Iff.rfl ⟨fun h x hx=> ?_,fun h=>ow fun x hx=>h x (ja.1 hx)⟩
 have:=congrArg (fun l=>l.getD x 0) h
 simpa[hx] using this
def IS (a:Da) (c f:Nat→Nat):Prop:= ∀q q',q<a.n→q'<a.n→(f q=f q'↔a.sig c q=a.sig c q')
theorem IS.part {a:Da} {c f:Nat→Nat} (h:a.IS c f) (ha:a.Ok) (hc:a.Part c):a.Part f where
 coarse q q' hq cx he:=(h q q' hq cx).2 (wV.2 ⟨hc.coarse q q' hq cx he,fun x hx=>hc.coarse _ _ (ha.fP hq hx) (ha.fP cx hx) (he.nx hx)⟩)
 fin q q' hq cx he:=hc.fin q q' hq cx (wV.1 ((h q q' hq cx).1 he)).1
def wW (a:Da) (p:Nat→Nat):Prop:=(∀q q',q<a.n→q'<a.n→(p q=p q'↔a.o5 q a q'))∧pd p a.n
theorem Part.Ye {a:Da} {c:Nat→Nat} (hc:a.Part c) (ha:a.Ok) (hs: ∀q q',q<a.n→q'<a.n→c q=c q'→a.sig c q=a.sig c q'): ∀q q',q<a.n→q'<a.n→(c q=c q'↔a.o5 q a q'):=by
 intro q q' hq cx
 refine ⟨fun h w=> ?_,hc.coarse q q' hq cx⟩
 induction w generalizing q q' with
 | nil=>intro _;rw[o6,o6];exact hc.fin q q' hq cx h
 | cons x w ih=>
  intro hw
  rw[It,It]
  exact ih _ _ (ha.fP hq hw.head) (ha.fP cx hw.head) ((wV.1 (hs q q' hq cx h)).2 x hw.head) hw.tail
def dX (p:Nat→Nat):Nat→List Nat
 | 0=>[]
 | n+1=>if p n∈a8 p n then dX p n else dX p n++[n]
theorem IT {p:Nat→Nat}: ∀n,(dX p n).map p=a8 p n
 | 0=>rfl
 | n+1=>by
  rw[dX,a8]
  unfold dh
  split
  ·exact IT n
  ·rw[qz,IT n];rfl
theorem zl {p:Nat→Nat} {n:Nat}:(dX p n).length=(a8 p n).length:=by rw[←IT,cb]
theorem wX {p:Nat→Nat}: ∀{n q},q∈dX p n→q<n
 | 0,q,h=>by cases h
 | n+1,q,h=>by
  rw[dX] at h
  split at h
  ·have:=wX h;omega
  ·rcases eP.1 h with h|h
   ·have:=wX h;omega
   ·rw[gX.1 h];omega
theorem zm {p:Nat→Nat} {n:Nat} (ho:pd p n) {c:Nat} (hc:c<(dX p n).length):p (dX p n)[c]=c:=by
 have h1:=ho n (ax _)
 have h2:((dX p n).map p)[c]? =some c:=by rw[IT,h1,Au (by rw[zl] at hc;exact hc)]
 rw[eZ,bM hc] at h2
 exact dr h2
theorem Dr {p:Nat→Nat} {n q:Nat} (ho:pd p n) (hq:q<n):p q<(dX p n).length:=by
 have h1:p q∈a8 p n:=jP.2 ⟨q,hq,rfl⟩
 rw[ho n (ax _),ja] at h1
 rw[zl];exact h1
def quo (a:Da) (p:Nat→Nat):Da where
 L:=a.L
 st:=p a.st
 F:=(dX p a.n).map a.fin
 N:=(dX p a.n).map fun q=>tab a.L fun x=>p (a.nx q x)
theorem ti {a:Da} {p:Nat→Nat}:(a.quo p).n=(dX p a.n).length:=by simp[quo,n]
theorem Yf {a:Da} {p:Nat→Nat} {c:Nat} (hc:c<(dX p a.n).length):(a.quo p).fin c=a.fin (dX p a.n)[c]:=by
 show ((dX p a.n).map a.fin).getD c false=_
 rw[gu (by simpa using hc),List.getElem_map]
theorem Yg {a:Da} {p:Nat→Nat} {c x:Nat} (hc:c<(dX p a.n).length) (hx:x<a.L):(a.quo p).nx c x=p (a.nx (dX p a.n)[c] x):=by
 show (((dX p a.n).map fun q=>tab a.L fun x=>p (a.nx q x)).getD c []).getD x 0=_
 rw[gu (l:=(dX p a.n).map fun q=>tab a.L fun x=>p (a.nx q x)) (by simpa using hc),List.getElem_map,zd hx]
section
variable {a:Da} {p:Nat→Nat} (ha:a.Ok) (hp:a.wW p)
include ha hp
theorem IU:(a.quo p).Ok where
 l1:=ha.l1
 l6:=ha.l6
 nN:=by rw[ti];simp[quo]
 row r hr:=by
  rw[ti]
  obtain ⟨q,hq,rfl⟩:=fL.1 (show r∈(dX p a.n).map _ from hr)
  refine ⟨by simp[quo],fun s hs=> ?_⟩
  obtain ⟨x,hx,rfl⟩:=uG.1 hs
  exact Dr hp.2 (ha.fP (wX hq) hx)
 s:=by rw[ti];exact Dr hp.2 ha.s
 fO:=by
  rw[ti,zl]
  have:=th p a.n
  have:=ha.fO
  omega
theorem IV: ∀(w:List Nat) {q:Nat},q<a.n→WL a.L w→(a.quo p).acc (p q) w=a.acc q w
 | [],q,hq,_=>by
  have hc:=Dr hp.2 hq
  rw[o6,o6,Yf hc]
  have h1:=(hp.1 _ _ (wX (eQ hc)) hq).1 (zm hp.2 hc)
  have:=h1 [] WL.nil
  rwa [o6,o6] at this
 | x::w,q,hq,hw=>by
  have hc:=Dr hp.2 hq
  have hr:=wX (eQ hc)
  have h1:=(hp.1 _ _ hr hq).1 (zm hp.2 hc)
  have h2:=(hp.1 _ _ (ha.fP hr hw.head) (ha.fP hq hw.head)).2 (h1.nx hw.head)
  rw[It,It,Yg hc hw.head,h2]
  exact IV w (ha.fP hq hw.head) hw.tail
theorem ah8: ∀c d,c<(a.quo p).n→d<(a.quo p).n→(a.quo p).o5 c (a.quo p) d→c=d:=by
 intro c d hc hd he
 rw[ti] at hc hd
 have r1:=wX (eQ hc)
 have r2:=wX (eQ hd)
 rw[←zm hp.2 hc,←zm hp.2 hd]
 refine (hp.1 _ _ r1 r2).2 fun w hw=> ?_
 rw[←IV ha hp w r1 hw,←IV ha hp w r2 hw,zm hp.2 hc,zm hp.2 hd]
 exact he w hw
theorem Pq:(a.quo p).trim.Canon a.L (a.acc a.st):=by
 have h:=(IU ha hp).ag2 (ah8 ha hp)
 exact ⟨h.ok,h.hL,h.st,h.num,h.red,fun w hw=>(h.mU w hw).trans (IV ha hp w ha.s hw)⟩
end
end Da
end Go.AM
set_option maxRecDepth 100000
namespace Go.AM
open Go.Proofs
noncomputable abbrev uI:Code:=cJ Tryd.prog (au.bc 109)
noncomputable def Ds (C:ae) (t24:List V) (t25 aZ bp:Int) (bA bu:List V) (count t26:Int) (dC:List V) {β:Type} (kn:(Int × Int × (List V))→Option β) (kr:(Int × Int × Bool × (List V))→Option β):Option β:=
 bif decide ((t26:Int)<t25) then
  (idx t24 t26).bind fun x2=>
  (bA[0]?).bind fun x3=>
  bif !(x2.toBool==x3.toBool) then
  bif (decide (0≤t26))&&(decide (t26<(dC.length:Int))) then
   (dC[(t26:Int).toNat]?).bind fun x4=>
   kn (2,IntKind.wrap .i64 (t26+1),dC.set ((t26:Int).toNat) (.int .i64 1))
  else none
  else
  kn (count,IntKind.wrap .i64 (t26+1),dC)
 else
  kr (count,t26,decide ((t26:Int)<t25),dC)
noncomputable def IW (C:ae) (t24:List V) (t25 aZ bp:Int) (bA bu:List V):(Int × Int × (List V))→Option ((Int × Int × (List V)) ⊕ (Int × Int × Bool × (List V))):=un fun count=>un fun t26 dC=>Ds C t24 t25 aZ bp bA bu count t26 dC (fun y=>some (.inl y)) (fun r=>some (.inr r))
noncomputable def Dt (C:ae) (count q:Int) (t46:List V) (t47 t48:Int) (t58:List V) (t59 aZ bp:Int) (bA bu dC numbers n7:List V) (t60 IX IY IZ I0 I1 I4 I5:Int) {β:Type} (kn:(Int × Int × Int × Int × Int × Int × Int × Int)→Option β) (kr:(Int × Bool × Int × Int × Int × Int × Int × Int × Int)→Option β):Option β:=
 bif decide ((t60:Int)<t59) then
  (idx t58 t60).bind fun fH=>
  bif (decide (0≤fH.toInt))&&(decide (fH.toInt<(dC.length:Int))) then
  (dC[(fH.toInt:Int).toNat]?).bind fun lG=>
  bif (decide (0≤(IntKind.wrap .i64 (1+t60))))&&(decide ((IntKind.wrap .i64 (1+t60))<7)) then
   bif Nat.blt (0+(((IntKind.wrap .i64 (1+t60):Int).toNat)*1)) 7 then
   kn (IntKind.wrap .i64 (t60+1),bif Nat.beq (0+(((IntKind.wrap .i64 (1+t60):Int).toNat)*1)) 0 then lG.toInt else IX,bif Nat.beq (0+(((IntKind.wrap .i64 (1+t60):Int).toNat)*1)) 1 then lG.toInt else IY,bif Nat.beq (0+(((IntKind.wrap .i64 (1+t60):Int).toNat)*1)) 2 then lG.toInt else IZ,bif Nat.beq (0+(((IntKind.wrap .i64 (1+t60):Int).toNat)*1)) 3 then lG.toInt else I0,bif Nat.beq (0+(((IntKind.wrap .i64 (1+t60):Int).toNat)*1)) 4 then lG.toInt else I1,bif Nat.beq (0+(((IntKind.wrap .i64 (1+t60):Int).toNat)*1)) 5 then lG.toInt else I4,bif Nat.beq (0+(((IntKind.wrap .i64 (1+t60):Int).toNat)*1)) 6 then lG.toInt else I5)
   else none
  else none
  else none
 else
  kr (t60,decide ((t60:Int)<t59),IX,IY,IZ,I0,I1,I4,I5)
noncomputable def I6 (C:ae) (count q:Int) (t46:List V) (t47 t48:Int) (t58:List V) (t59 aZ bp:Int) (bA bu dC numbers n7:List V):(Int × Int × Int × Int × Int × Int × Int × Int)→Option ((Int × Int × Int × Int × Int × Int × Int × Int) ⊕ (Int × Bool × Int × Int × Int × Int × Int × Int × Int)):=un fun t60=>un fun IX=>un fun IY=>un fun IZ=>un fun I0=>un fun I1=>un fun I4 I5=>Dt C count q t46 t47 t48 t58 t59 aZ bp bA bu dC numbers n7 t60 IX IY IZ I0 I1 I4 I5 (fun y=>some (.inl y)) (fun r=>some (.inr r))
noncomputable def Du (C:ae) (count:Int) (t46:List V) (t47 aZ bp:Int) (bA bu dC:List V) (t48:Int) (numbers n7:List V) {β:Type} (kn:(Int × (List V) × (List V))→Option β) (kr:(Int × Bool × (List V) × (List V))→Option β):Option β:=
 bif decide ((t48:Int)<t47) then
  (idx t46 t48).bind fun x9=>
  bif (decide (0≤t48))&&(decide (t48<(dC.length:Int))) then
  (dC[(t48:Int).toNat]?).bind fun iT=>
  (Loop (I6 C count t48 t46 t47 t48 x9.toList (x9.toList.length:Int) aZ bp bA bu dC numbers n7) (0,iT.toInt,0,0,0,0,0,0)).bind (un fun (o4:Int)=>un fun (CR:Bool)=>un fun (Dv:Int)=>un fun (Dw:Int)=>un fun (Dx:Int)=>un fun (Dy:Int)=>un fun (Dz:Int)=>un fun (DA:Int) (DB:Int)=>
   bif (dp .i64 Dv&&(dp .i64 Dw&&(dp .i64 Dx&&(dp .i64 Dy&&(dp .i64 Dz&&(dp .i64 DA&&(dp .i64 DB&&true)))))))&&true then
    bif !(gk (.agg [.int .i64 Dv,.int .i64 Dw,.int .i64 Dx,.int .i64 Dy,.int .i64 Dz,.int .i64 DA,.int .i64 DB]) numbers) then
    bif (dp .i64 Dv&&(dp .i64 Dw&&(dp .i64 Dx&&(dp .i64 Dy&&(dp .i64 Dz&&(dp .i64 DA&&(dp .i64 DB&&true)))))))&&true then
     bif (decide (0≤t48))&&(decide (t48<(n7.length:Int))) then
     (n7[(t48:Int).toNat]?).bind fun x22=>
     kn (IntKind.wrap .i64 (t48+1),fB (.agg [.int .i64 Dv,.int .i64 Dw,.int .i64 Dx,.int .i64 Dy,.int .i64 Dz,.int .i64 DA,.int .i64 DB]) (.int .i64 (numbers.length:Int)) numbers,n7.set ((t48:Int).toNat) (.int .i64 (numbers.length:Int)))
     else none
    else none
    else
    bif (decide (0≤t48))&&(decide (t48<(n7.length:Int))) then
     (n7[(t48:Int).toNat]?).bind fun m7=>
     kn (IntKind.wrap .i64 (t48+1),numbers,n7.set ((t48:Int).toNat) (.int .i64 ((jb (.agg [.int .i64 Dv,.int .i64 Dw,.int .i64 Dx,.int .i64 Dy,.int .i64 Dz,.int .i64 DA,.int .i64 DB]) numbers (.int .i64 0)).toInt)))
    else none
   else none)
  else none
 else
  kr (t48,decide ((t48:Int)<t47),numbers,n7)
noncomputable def I7 (C:ae) (count:Int) (t46:List V) (t47 aZ bp:Int) (bA bu dC:List V):(Int × (List V) × (List V))→Option ((Int × (List V) × (List V)) ⊕ (Int × Bool × (List V) × (List V))):=un fun t48=>un fun numbers n7=>Du C count t46 t47 aZ bp bA bu dC t48 numbers n7 (fun y=>some (.inl y)) (fun r=>some (.inr r))
noncomputable def DC (C:ae) (aZ bp:Int) (bA bu:List V) (count:Int) (dC:List V) {β:Type} (kn:(Int × (List V))→Option β) (kr:(List V)→Option β):Option β:=
 bif (decide (0≤(dC.length:Int)))&&((decide ((dC.length:Int)≤(dC.length:Int)))&&(Nat.ble ((((dC.length:Int):Int).toNat)*8) bP)) then
  (Loop (I7 C count bu (bu.length:Int) aZ bp bA bu dC) (0,([]:List V),List.replicate (((dC.length:Int):Int).toNat) (V.int .i64 0))).bind (un fun (ah9:Int)=>un fun (I8:Bool)=>un fun (Yh:List V) (Yi:List V)=>
   bif ((Yh.length:Int):Int)==count then
   kr Yi
   else
   kn ((Yh.length:Int),Yi))
 else none
noncomputable def DD (C:ae) (aZ bp:Int) (bA bu:List V):(Int × (List V))→Option ((Int × (List V)) ⊕ (List V)):=un fun count dC=>DC C aZ bp bA bu count dC (fun y=>some (.inl y)) (fun r=>some (.inr r))
noncomputable def Yj (C:ae):cD:=fun β n ds k=>
 bif Nat.beq n 81 then bz N4 [true,false,false,true,false,false,false,false,true] [[0,2,3,0,0,5,6,7,8,0]] (@Ds C) ds k else
 bif Nat.beq n 273 then bz N5 [false,false,false,false,false,false,false,true,false,false,false,false,false,false,false,true,true,true,true,true,true,true] [[1,2,3,4,5,6,7,0,0,9,10,11,12,13,14,15,0,0,0,0,0,0,0]] (@Dt C) ds k else
 bif Nat.beq n 209 then bz N6 [false,false,false,true,false,false,false,false,false,true,true] [[1,2,3,0,0,5,6,7,8,9,0,0]] (@Du C) ds k else
 bif Nat.beq n 161 then bz N7 [true,false,false,false,false,true] [[0]] (@DC C) ds k else
 none
abbrev I9 (C:ae) (b:cB):Prop:=cC Tryd.prog au C (Yj C) 109 (cQ Tryd.prog (au.bc 109)) (au.sin 109).bj.length b
theorem aia (C:ae):I9 C (.loop (ao [1,1,1,0,1,0,0] uI)):=
 bC N4 [true,false,false,true,false,false,false,false,true] [[0,2,3,0,0,5,6,7,8,0]] (@Ds C) (by kernel_rfl) (aW (bs:=[]) (by kernel_rfl) ar) (fun ds=>by kernel_rfl) (fun i x=>by kernel_rfl) (fun i x β k=>by kernel_rfl) (fun β ds k=>by kernel_rfl)
theorem aib (C:ae):I9 C (.loop (ao [1,1,1,1,0,0,0,1,1,0,1,0,0,1,1,0,0,1,1,0,1,0,0] uI)):=
 bC N5 [false,false,false,false,false,false,false,true,false,false,false,false,false,false,false,true,true,true,true,true,true,true] [[1,2,3,4,5,6,7,0,0,9,10,11,12,13,14,15,0,0,0,0,0,0,0]] (@Dt C) (by kernel_rfl) (aW (bs:=[]) (by kernel_rfl) ar) (fun ds=>by kernel_rfl) (fun i x=>by kernel_rfl) (fun i x β k=>by kernel_rfl) (fun β ds k=>by kernel_rfl)
theorem aic (C:ae):I9 C (.loop (ao [1,1,1,1,0,0,0,1,1,0,1,0,0] uI)):=
 bC N6 [false,false,false,true,false,false,false,false,false,true,true] [[1,2,3,0,0,5,6,7,8,9,0,0]] (@Du C) (by kernel_rfl) (aW (bs:=[.loop (ao [1,1,1,1,0,0,0,1,1,0,1,0,0,1,1,0,0,1,1,0,1,0,0] uI)]) (by kernel_rfl) (bm (aib C) ar)) (fun ds=>by kernel_rfl) (fun i x=>by kernel_rfl) (fun i x β k=>by kernel_rfl) (fun β ds k=>by kernel_rfl)
theorem aid (C:ae):I9 C (.loop (ao [1,1,1,1,0,0] uI)):=
 bC N7 [true,false,false,false,false,true] [[0]] (@DC C) (by kernel_rfl) (aW (bs:=[.loop (ao [1,1,1,1,0,0,0,1,1,0,1,0,0] uI)]) (by kernel_rfl) (bm (aic C) ar)) (fun ds=>by kernel_rfl) (fun i x=>by kernel_rfl) (fun i x β k=>by kernel_rfl) (fun β ds k=>by kernel_rfl)
noncomputable def Yk (C:ae) (aK aO:Int) (aD aT:List V):Option (List V):=
 (C sN [.int .i64 aK,.int .i64 aO,.list aC aD,.list aG aT]).bind fun r1=>
 bif (((V.nth r1 0).toInt):Int) != 0 then
  some [.list bt ([]:List V)]
 else
  bif (decide (0≤(aD.length:Int)))&&((decide ((aD.length:Int)≤(aD.length:Int)))&&(Nat.ble ((((aD.length:Int):Int).toNat)*8) bP)) then
  (Loop (IW C aD (aD.length:Int) aK aO aD aT) (1,0,List.replicate (((aD.length:Int):Int).toNat) (V.int .i64 0))).bind (un fun (aie:Int)=>un fun (mN:Int)=>un fun (mh:Bool) (aif:List V)=>
   (Loop (DD C aK aO aD aT) (aie,aif)).bind (fun (aih:List V)=>
    some [.list bt aih]))
  else none
theorem aii {aK aO:Int} {aD aT:List V} {r:Option (List V)} (h:Yk CC aK aO aD aT=r):CC HJ [.int .i64 aK,.int .i64 aO,.list aC aD,.list aG aT]=r:=
 bD (key:=109) (L:=Yj CC) (bs:=[.loop (ao [1,1,1,0,1,0,0] uI),.loop (ao [1,1,1,1,0,0] uI)]) (by kernel_rfl) (bm (aia CC) (bm (aid CC) ar)) (bB (by kernel_rfl) h)
def dU (a:Da) (c:Nat→Nat) (q t j:Nat):Nat:=if j=0 then c q else if j≤t then c (a.nx q (j-1)) else 0
def dP (a:Da) (c:Nat→Nat) (q:Nat):List Nat:=tab 7 (dU a c q a.L)
def DE (s:List Nat):V:= .agg (s.map nV)
theorem Yl: ∀s t:List Nat,qE (s.map nV) (t.map nV)=decide (s=t)
 | [],[]=>rfl
 | [],b::t=>rfl
 | a::s,[]=>rfl
 | a::s,b::t=>by
  simp only[jV,qE]
  rw[Yl s t,qB]
  simp only[nV,tQ]
  simp only[aM,beq_iff_eq,eE,Ao]
  exact and_congr (by omega) Iff.rfl
theorem Pr (s t:List Nat):jX (DE s) (DE t)=decide (s=t):=Yl s t
theorem Ps {a:Da} (h:a.Ok) {c:Nat→Nat} {q q':Nat}:dP a c q=dP a c q'↔a.sig c q=a.sig c q':=by
 rw[Da.wV]
 have h6:=h.l6
 constructor
 ·intro e
  have g:=fun j (hj:j<7)=>congrArg (fun l:List Nat=>l.getD j 0) e
  unfold dP at g
  refine ⟨?_,fun x hx=> ?_⟩
  ·have:=g 0 (by omega)
   rw[zd (by omega),zd (by omega)] at this
   exact this
  ·have:=g (x+1) (by omega)
   rw[zd (by omega),zd (by omega)] at this
   unfold dU at this
   rwa [ag (by omega),af (by omega),ag (by omega),af (by omega)] at this
 ·rintro ⟨h1,h2⟩
  refine eX fun j _=> ?_
  unfold dU
  by_cases hj:j=0
  ·rw[af hj,af hj,h1]
  ·rw[ag hj,ag hj]
   by_cases cp:j≤a.L
   ·rw[af cp,af cp,h2 (j-1) (by omega)]
   ·rw[ag cp,ag cp]
theorem wY {a:Da} {c:Nat→Nat} {q t:Nat} (j:Nat):(bif Nat.beq (0+(t+1)*1) j then ((c (a.nx q t):Nat):Int) else ((dU a c q t j:Nat):Int))=((dU a c q (t+1) j:Nat):Int):=by
 by_cases hj:t+1=j
 ·rw[show Nat.beq (0+(t+1)*1) j=true from by rw[ba];omega,cond_true,←hj]
  unfold dU
  rw[ag (by omega),af (by omega)]
  rfl
 ·rw[show Nat.beq (0+(t+1)*1) j=false from by rw[←Bool.not_eq_true,ba];omega,cond_false]
  unfold dU
  by_cases h0:j=0
  ·rw[af h0,af h0]
  ·rw[ag h0,ag h0]
   by_cases h1:j≤t
   ·rw[af h1,af (by omega)]
   ·rw[ag h1,ag (by omega)]
def cV (n:Nat) (c:Nat→Nat):List V:=tab n fun q=>nV (c q)
section
variable {a:Da} (h:a.Ok) {c:Nat→Nat}
include h
theorem aij {q:Nat} (hq:q<a.n) {k1 k2 k3 k4 k5 k6:Int} {l1 l2 l3 l4 l5:List V}:
  Loop (I6 CC k1 k2 l1 k3 k4 (tab a.L fun x=>iV (a.nx q x)) ((tab a.L fun x=>iV (a.nx q x)).length:Int) k5 k6 l2 l3 (cV a.n c) l4 l5) (0,(c q:Int),0,0,0,0,0,0)=
   some ((a.L:Int),false,(dU a c q a.L 0:Int),(dU a c q a.L 1:Int),(dU a c q a.L 2:Int),(dU a c q a.L 3:Int),(dU a c q a.L 4:Int),(dU a c q a.L 5:Int),(dU a c q a.L 6:Int)):=by
 have h6:=h.l6
 rw[dI]
 refine (eY a.L (fun t=>((t:Int),(dU a c q t 0:Int),(dU a c q t 1:Int),(dU a c q t 2:Int),(dU a c q t 3:Int),(dU a c q t 4:Int),(dU a c q t 5:Int),(dU a c q t 6:Int))) _ (fun t ht=> ?_) ?_)
 ·simp only[I6,Dt,un]
  refine bT (cU ht) ?_
  refine bs (qk ht) ?_
  refine (e9 (i:=a.nx q t) (h.fP hq ht)).trans ?_
  have w:IntKind.wrap .i64 (1+(t:Int))=((t+1:Nat):Int):=by rw[wrap64 (by omega) (by omega)];omega
  rw[w,cy (by omega),Int.toNat_natCast]
  refine bT (jz.2 ⟨bN (by omega),bN (by omega)⟩) ?_
  refine bT (show Nat.ble (0+(t+1)*1+1) 7=true by rw[fy];omega) ?_
  show some (Sum.inl _)=some (Sum.inl _)
  refine congrArg (fun x=>some (Sum.inl x)) ?_
  exact iE rfl (iE (wY 0) (iE (wY 1) (iE (wY 2) (iE (wY 3) (iE (wY 4) (iE (wY 5) (wY 6)))))))
 ·simp only[I6,Dt,un]
  refine bF (bq (ax _)) ?_
  rw[bq (ax _)]
theorem aik (hc: ∀q,q<a.n→c q≤1000) {q:Nat} (hq:q<a.n) (j:Nat):dU a c q a.L j≤1000:=by
 unfold dU
 split
 ·exact hc q hq
 ·split
  ·exact hc _ (h.fP hq (by omega))
  ·omega
theorem ail (hc: ∀q,q<a.n→c q≤1000) {k1 k2 k3:Int} {l2:List V}:
  Loop (I7 CC k1 a.cS (a.cS.length:Int) k2 k3 l2 a.cS (cV a.n c)) (0,([]:List V),List.replicate ((((cV a.n c).length:Int):Int).toNat) (V.int .i64 0))=
   some ((a.n:Int),false,gv DE 0 (a8 (dP a c) a.n),cV a.n (cI (dP a c) a.n)):=by
 have hm:=h.fO
 have hl:(cV a.n c).length=a.n:=by simp[cV]
 rw[hl,Int.toNat_natCast,o8,Da.XQ]
 refine (eY a.n (fun i=>((i:Int),gv DE 0 (a8 (dP a c) i),(tab a.n fun q=>if q<i then nV (cI (dP a c) a.n q) else nV 0))) _ (fun q hq=> ?_) ?_)
 ·have hle:=th (dP a c) q
  simp only[I7,Du,un]
  refine bT (cU hq) ?_
  refine bs (Da.nW hq) ?_
  refine (e9 (i:=q) hq).trans ?_
  simp only[pc]
  refine bs (aij h hq) ?_
  have k0:=aik h hc hq
  have kk: ∀j,dp .i64 ((dU a c q a.L j:Nat):Int)=true:=fun j=>IG (by have:=k0 j;omega)
  have Ym:((dp .i64 ((dU a c q a.L 0:Nat):Int)&&(dp .i64 ((dU a c q a.L 1:Nat):Int)&&(dp .i64 ((dU a c q a.L 2:Nat):Int)&&(dp .i64 ((dU a c q a.L 3:Nat):Int)&&(dp .i64 ((dU a c q a.L 4:Nat):Int)&&(dp .i64 ((dU a c q a.L 5:Nat):Int)&&(dp .i64 ((dU a c q a.L 6:Nat):Int)&&true)))))))&&true)=true:=by
   simp only[kk,Ap]
  refine bT Ym ?_
  have ek:V.agg [V.int .i64 (dU a c q a.L 0:Int),V.int .i64 (dU a c q a.L 1:Int),V.int .i64 (dU a c q a.L 2:Int),V.int .i64 (dU a c q a.L 3:Int),V.int .i64 (dU a c q a.L 4:Int),V.int .i64 (dU a c q a.L 5:Int),V.int .i64 (dU a c q a.L 6:Int)]=DE (dP a c q):=rfl
  simp only[un,ek]
  have e1:=wR Pr (dP a c q) (a8 (dP a c) q) 0
  have fin: ∀v,v=nV (cI (dP a c) a.n q)→(tab a.n fun j=>if j<q then nV (cI (dP a c) a.n j) else nV 0).set q v=tab a.n fun j=>if j<q+1 then nV (cI (dP a c) a.n j) else nV 0:=by
   rintro v rfl
   rw[o7]
   refine eX fun j _=> ?_
   by_cases hj:j=q
   ·rw[af hj,af (by omega),hj]
   ·rw[ag hj]
    by_cases cp:j<q
    ·rw[af cp,af (by omega)]
    ·rw[ag cp,ag (by omega)]
  rw[cy (by omega)]
  by_cases hx:dP a c q∈a8 (dP a c) q
  ·refine bF (by rw[e1];simpa using hx) ?_
   refine (e9 hq).trans ?_
   have e2:=zg Pr (dP a c q) (.int .i64 0) (a8 (dP a c) q) 0 hx
   rw[eh,←Ya hq hx] at e2
   rw[e2,V.toInt_int,Int.toNat_natCast,show (V.int .i64 (cI (dP a c) a.n q:Int))=nV (cI (dP a c) a.n q) from rfl,fin _ rfl,Pn hx]
  ·refine bT (by rw[e1];simpa using hx) ?_
   refine bT Ym ?_
   refine (e9 hq).trans ?_
   have e2:=zh Pr (dP a c q) (a8 (dP a c) q) 0 hx
   rw[eh] at e2
   rw[zf,e2,Int.toNat_natCast,←Yb hq hx,show (V.int .i64 (cI (dP a c) a.n q:Int))=nV (cI (dP a c) a.n q) from rfl,fin _ rfl,IQ hx]
 ·simp only[I7,Du,un]
  refine bF (bq (ax _)) ?_
  rw[bq (ax _)]
  have:(tab a.n fun q=>if q<a.n then nV (cI (dP a c) a.n q) else nV 0)=cV a.n (cI (dP a c) a.n):=eX fun q hq=>af hq
  rw[this]
def mo (a:Da):Nat→Nat
 | 0=>1
 | i+1=>if a.fin i=a.fin 0 then mo a i else 2
def fQ (a:Da) (q:Nat):Nat:=if a.fin q=a.fin 0 then 0 else 1
theorem aim:(a8 (fQ a) a.n).length=mo a a.n:=by
 have key: ∀m,(a8 (fQ a) (m+1)=[0]∧mo a (m+1)=1)∨(a8 (fQ a) (m+1)=[0,1]∧mo a (m+1)=2):=by
  intro m
  induction m with
  | zero=>left;simp[a8,dh,fQ,mo]
  | succ m ih=>
   rw[a8,mo]
   unfold fQ dh
   by_cases hf:a.fin (m+1)=a.fin 0
   ·rw[af hf,af hf]
    rcases ih with ⟨i1,i2⟩|⟨i1,i2⟩
    ·left;refine ⟨?_,i2⟩;unfold fQ at i1;rw[i1];rfl
    ·right;refine ⟨?_,i2⟩;unfold fQ at i1;rw[i1];rfl
   ·rw[ag hf,ag hf]
    rcases ih with ⟨i1,i2⟩|⟨i1,i2⟩
    ·right;refine ⟨?_,rfl⟩;unfold fQ at i1;rw[i1];rfl
    ·right;refine ⟨?_,rfl⟩;unfold fQ at i1;rw[i1];rfl
 have hs:=h.s
 obtain ⟨m,hm⟩: ∃m,a.n=m+1:=⟨a.n-1,by omega⟩
 rw[hm]
 rcases key m with ⟨e1,e2⟩|⟨e1,e2⟩<;>rw[e1,e2]<;>rfl
theorem ain {k2 k3:Int} {l2:List V}:Loop (IW CC a.cZ (a.cZ.length:Int) k2 k3 a.cZ l2) (1,0,List.replicate ((((a.cZ.length:Nat):Int)).toNat) (V.int .i64 0))=some ((mo a a.n:Int),(a.n:Int),false,cV a.n (fQ a)):=by
 have hm:=h.fO
 have hs:=h.s
 rw[Da.pb,Int.toNat_natCast,o8]
 refine (eY a.n (fun i=>((mo a i:Int),(i:Int),(tab a.n fun q=>if q<i then nV (fQ a q) else nV 0))) _ (fun q hq=> ?_) ?_)
 ·simp only[IW,Ds,un]
  refine bT (cU hq) ?_
  refine bs (Da.uH hq) ?_
  refine bs (a:= .bool (a.fin 0)) (by unfold Da.cZ;exact O9 (by omega)) ?_
  rw[cy (by omega)]
  have fin:(tab a.n fun j=>if j<q then nV (fQ a j) else nV 0).set q (nV (fQ a q))=tab a.n fun j=>if j<q+1 then nV (fQ a j) else nV 0:=by
   rw[o7]
   refine eX fun j _=> ?_
   by_cases hj:j=q
   ·rw[af hj,af (by omega),hj]
   ·rw[ag hj]
    by_cases cp:j<q
    ·rw[af cp,af (by omega)]
    ·rw[ag cp,ag (by omega)]
  simp only[V.me]
  by_cases hf:a.fin q=a.fin 0
  ·refine bF (by rw[hf];simp) ?_
   have e:mo a (q+1)=mo a q:=by rw[mo,af hf]
   have e2:(tab a.n fun j=>if j<q then nV (fQ a j) else nV 0)=tab a.n fun j=>if j<q+1 then nV (fQ a j) else nV 0:=eX fun j _=>by
    by_cases hj:j=q
    ·rw[ag (by omega),af (by omega),hj];unfold fQ;rw[af hf]
    ·by_cases cp:j<q
     ·rw[af cp,af (by omega)]
     ·rw[ag cp,ag (by omega)]
   rw[e,e2]
  ·refine bT (by simpa using hf) ?_
   refine (e9 hq).trans ?_
   have e:mo a (q+1)=2:=by rw[mo,ag hf]
   have e3:fQ a q=1:=by unfold fQ;rw[ag hf]
   rw[e3] at fin
   rw[e,Int.toNat_natCast,show (V.int .i64 1)=nV 1 from rfl,fin];rfl
 ·simp only[IW,Ds,un]
  refine bF (bq (ax _)) ?_
  rw[bq (ax _)]
  have:(tab a.n fun q=>if q<a.n then nV (fQ a q) else nV 0)=cV a.n (fQ a):=eX fun q hq=>af hq
  rw[this]
theorem aio {k2 k3:Int} {l2:List V}: ∃p,Loop (DD CC k2 k3 l2 a.cS) ((mo a a.n:Int),cV a.n (fQ a))=some (cV a.n p)∧a.wW p∧∀q,q<a.n→p q≤1000:=by
 have hm:=h.fO
 have:=Us (step:=DD CC k2 k3 l2 a.cS)
  (fun x=> ∃c,x=(((a8 c a.n).length:Int),cV a.n c)∧a.Part c∧∀q,q<a.n→c q≤1000)
  (fun x=>a.n-x.1.toNat)
  (fun r=> ∃p,r=cV a.n p∧a.wW p∧∀q,q<a.n→p q≤1000) (fun x hx=> ?_) ((mo a a.n:Int),cV a.n (fQ a)) ⟨fQ a,by rw[aim h],⟨?_,?_⟩,?_⟩
 ·obtain ⟨r,h1,p,rfl,h2,h3⟩:=this
  exact ⟨p,h1,h2,h3⟩
 ·obtain ⟨c,rfl,hp,hc⟩:=hx
  have hl:(cV a.n c).length=a.n:=by simp[cV]
  have pe:a.IS c (cI (dP a c) a.n):=fun q q' hq cx=>(Dp hq cx).trans (Ps h)
  have hle:=th (dP a c) a.n
  have hb: ∀q,q<a.n→cI (dP a c) a.n q≤1000:=fun q hq=>by have:=Dn (g:=dP a c) hq;omega
  have wZ: ∀q q',q<a.n→q'<a.n→dP a c q=dP a c q'→c q=c q':=fun q q' hq cx e=>(Da.wV.1 ((Ps h).1 e)).1
  have aip:=Yd wZ
  have cr:=ail h hc (k1:=((a8 c a.n).length:Int)) (k2:=k2) (k3:=k3) (l2:=l2)
  by_cases he:(a8 (dP a c) a.n).length=(a8 c a.n).length
  ·right
   refine ⟨_,?_,cI (dP a c) a.n,rfl,⟨fun q q' hq cx=> ?_,Po _ _⟩,hb⟩
   ·simp only[DD,DC,un]
    refine bT (by rw[hl];exact nU (by omega) (by omega)) ?_
    refine bs cr ?_
    refine bT (by rw[zf];simp[he]) ?_
    rfl
   ·have b6:=Pp wZ (by omega)
    rw[Dp hq cx,←hp.Ye h (fun s s' hs uk e=>(Ps h).1 (b6 s s' hs uk e)) q q' hq cx]
    exact ⟨wZ q q' hq cx,b6 q q' hq cx⟩
  ·left
   have e2:(a8 (cI (dP a c) a.n) a.n).length=(a8 (dP a c) a.n).length:=by rw[Yc _ _ _ (ax _),List.length_range]
   refine ⟨(((a8 (dP a c) a.n).length:Int),cV a.n (cI (dP a c) a.n)),?_,⟨cI (dP a c) a.n,by rw[e2],pe.part h hp,hb⟩,?_⟩
   ·simp only[DD,DC,un]
    refine bT (by rw[hl];exact nU (by omega) (by omega)) ?_
    refine bs cr ?_
    refine bF (by rw[zf];simpa using fun e=>he (by omega)) ?_
    rw[zf]
   ·simp only[Int.toNat_natCast]
    omega
 ·intro q q' hq cx he
  have:=he [] WL.nil
  rw[Da.o6,Da.o6] at this
  unfold fQ;rw[this]
 ·intro q q' hq cx he
  unfold fQ at he
  split at he<;>split at he
  ·rename_i h1 h2;rw[h1,h2]
  ·omega
  ·omega
  ·rename_i h1 h2
   revert h1 h2
   cases a.fin q<;>cases a.fin q'<;>cases a.fin 0<;>simp
 ·intro q _
  unfold fQ;split<;>omega
theorem aiq: ∃p,CC HJ (dK a)=some [.list bt (cV a.n p)]∧a.wW p∧∀q,q<a.n→p q≤1000:=by
 have hm:=h.fO
 obtain ⟨p,h1,h2,h3⟩:=aio h (k2:=(a.L:Int)) (k3:=(a.st:Int)) (l2:=a.cZ)
 refine ⟨p,aii ?_,h2,h3⟩
 unfold Yk
 refine bs (Db h) ?_
 refine bF rfl ?_
 refine bT (by rw[Da.pb];exact nU (by omega) (by omega)) ?_
 refine bs (ain h) ?_
 refine bs h1 ?_
 rfl
end
noncomputable abbrev zn:Code:=cJ Tryd.prog (au.bc 86)
noncomputable def DF (C:ae) (q t29 t30:Int) (t47:List V) (t48 aZ bp:Int) (bA bu:List V) (cg ch zo zp:Int) (places dC:List V) (zq zr:Int) (bh cj dL gM n8 Yn:List V) (t49:Int) (rows:List V) {β:Type} (kn:(Int × (List V))→Option β) (kr:(Int × Bool × (List V))→Option β):Option β:=
 bif decide ((t49:Int)<t48) then
  (idx t47 t49).bind fun x5=>
  bif (decide (0≤x5.toInt))&&(decide (x5.toInt<(dC.length:Int))) then
  (dC[(x5.toInt:Int).toNat]?).bind fun x6=>
  bif (decide (0≤t49))&&(decide (t49<(rows.length:Int))) then
   (rows[(t49:Int).toNat]?).bind fun x7=>
   kn (IntKind.wrap .i64 (t49+1),rows.set ((t49:Int).toNat) (.int .i64 x6.toInt))
  else none
  else none
 else
  kr (t49,decide ((t49:Int)<t48),rows)
noncomputable def Ja (C:ae) (q t29 t30:Int) (t47:List V) (t48 aZ bp:Int) (bA bu:List V) (cg ch zo zp:Int) (places dC:List V) (zq zr:Int) (bh cj dL gM n8 Yn:List V):(Int × (List V))→Option ((Int × (List V)) ⊕ (Int × Bool × (List V))):=un fun t49 rows=>DF C q t29 t30 t47 t48 aZ bp bA bu cg ch zo zp places dC zq zr bh cj dL gM n8 Yn t49 rows (fun y=>some (.inl y)) (fun r=>some (.inr r))
noncomputable def DG (C:ae) (t29 aZ bp:Int) (bA bu:List V) (cg ch zo zp:Int) (places dC:List V) (zq zr:Int) (bw bh cj dL:List V) (t30:Int) (gM n8:List V) {β:Type} (kn:(Int × (List V) × (List V))→Option β) (kr:(Int × Bool × (List V) × (List V))→Option β):Option β:=
 bif decide ((t30:Int)<t29) then
  bif (decide (0≤t30))&&(decide (t30<(dC.length:Int))) then
  (dC[(t30:Int).toNat]?).bind fun x3=>
  bif decide ((x3.toInt:Int)<(gM.length:Int)) then
   kn (IntKind.wrap .i64 (t30+1),gM,n8)
  else
   bif (decide (0≤aZ))&&((decide (aZ≤aZ))&&(Nat.ble (((aZ:Int).toNat)*8) bP)) then
   bif (decide (0≤t30))&&(decide (t30<(dL.length:Int))) then
    (dL[(t30:Int).toNat]?).bind fun x4=>
    (Loop (Ja C t30 t29 t30 x4.toList (x4.toList.length:Int) aZ bp bA bu cg ch zo zp places dC zq zr bw bh cj dL gM n8) (0,List.replicate ((aZ:Int).toNat) (V.int .i64 0))).bind (un fun (qe:Int)=>un fun (tc:Bool) (Yo:List V)=>
     bif (decide (0≤t30))&&(decide (t30<(cj.length:Int))) then
     (cj[(t30:Int).toNat]?).bind fun fH=>
     bif Nat.ble ((gM.length+([.bool fH.toBool]:List V).length)*1) bP then
      bif Nat.ble ((n8.length+([.list bt Yo]:List V).length)*24) bP then
      kn (IntKind.wrap .i64 (t30+1),gM++([.bool fH.toBool]:List V),n8++([.list bt Yo]:List V))
      else none
     else none
     else none)
   else none
   else none
  else none
 else
  kr (t30,decide ((t30:Int)<t29),gM,n8)
noncomputable def Jb (C:ae) (t29 aZ bp:Int) (bA bu:List V) (cg ch zo zp:Int) (places dC:List V) (zq zr:Int) (bw bh cj dL:List V):(Int × (List V) × (List V))→Option ((Int × (List V) × (List V)) ⊕ (Int × Bool × (List V) × (List V))):=un fun t30=>un fun gM n8=>DG C t29 aZ bp bA bu cg ch zo zp places dC zq zr bw bh cj dL t30 gM n8 (fun y=>some (.inl y)) (fun r=>some (.inr r))
noncomputable def DH (C:ae) (t88 cg ch:Int) (dC:List V) (ia ib:Int) (numbers Jc bw bh cj dL:List V) (t89:Int) (ed:List V) {β:Type} (kn:(Int × (List V))→Option β) (kr:(Int × Bool × (List V))→Option β):Option β:=
 bif decide ((t89:Int)<t88) then
  bif (decide (0≤t89))&&(decide (t89<(Jc.length:Int))) then
  (Jc[(t89:Int).toNat]?).bind fun rA=>
  bif (decide (0≤t89))&&(decide (t89<(ed.length:Int))) then
   (ed[(t89:Int).toNat]?).bind fun zt=>
   bif decide ((rA.toInt:Int)≥0) then
   bif (decide (0≤rA.toInt))&&(decide (rA.toInt<(dC.length:Int))) then
    (dC[(rA.toInt:Int).toNat]?).bind fun m8=>
    bif (decide (0≤m8.toInt))&&(decide (m8.toInt<(numbers.length:Int))) then
    (numbers[(m8.toInt:Int).toNat]?).bind fun tj=>
    bif (decide (0≤t89))&&(decide (t89<((ed.set ((t89:Int).toNat) (.int .i64 (-1))).length:Int))) then
     ((ed.set ((t89:Int).toNat) (.int .i64 (-1)))[(t89:Int).toNat]?).bind fun DI=>
     kn (IntKind.wrap .i64 (t89+1),(ed.set ((t89:Int).toNat) (.int .i64 (-1))).set ((t89:Int).toNat) (.int .i64 tj.toInt))
    else none
    else none
   else none
   else
   kn (IntKind.wrap .i64 (t89+1),ed.set ((t89:Int).toNat) (.int .i64 (-1)))
  else none
  else none
 else
  kr (t89,decide ((t89:Int)<t88),ed)
noncomputable def Jd (C:ae) (t88 cg ch:Int) (dC:List V) (ia ib:Int) (numbers Jc bw bh cj dL:List V):(Int × (List V))→Option ((Int × (List V)) ⊕ (Int × Bool × (List V))):=un fun t89 ed=>DH C t88 cg ch dC ia ib numbers Jc bw bh cj dL t89 ed (fun y=>some (.inl y)) (fun r=>some (.inr r))
noncomputable def Yp (C:ae):cD:=fun β n ds k=>
 bif Nat.beq n 161 then bz NH [false,false,false,false,false,true,false,false,false,false,false,false,false,false,false,false,false,false,true,false,false,false,false,false,false] [[1,2,3,4,5,0,0,7,8,9,10,11,12,13,14,15,16,17,18,0,20,21,22,23,24,25]] (@DF C) ds k else
 bif Nat.beq n 81 then bz NI [false,true,false,false,false,false,false,false,false,false,false,false,false,false,false,false,false,false,true,true] [[1,0,0,3,4,5,6,7,8,9,10,11,12,13,14,15,16,17,18,0,0]] (@DG C) ds k else
 bif Nat.beq n 321 then bz NJ [false,true,false,false,false,false,false,false,true,false,false,false,false,false] [[1,0,0,3,4,5,6,7,8,0,10,11,12,13,14]] (@DH C) ds k else
 none
abbrev Pt (C:ae) (b:cB):Prop:=cC Tryd.prog au C (Yp C) 86 (cQ Tryd.prog (au.bc 86)) (au.sin 86).bj.length b
theorem air (C:ae):Pt C (.loop (ao [1,1,1,1,0,1,0,0,1,1,0,0,1,1,1,0,1,0,0] zn)):=
 bC NH [false,false,false,false,false,true,false,false,false,false,false,false,false,false,false,false,false,false,true,false,false,false,false,false,false] [[1,2,3,4,5,0,0,7,8,9,10,11,12,13,14,15,16,17,18,0,20,21,22,23,24,25]] (@DF C) (by kernel_rfl) (aW (bs:=[]) (by kernel_rfl) ar) (fun ds=>by kernel_rfl) (fun i x=>by kernel_rfl) (fun i x β k=>by kernel_rfl) (fun β ds k=>by kernel_rfl)
theorem ais (C:ae):Pt C (.loop (ao [1,1,1,1,0,1,0,0] zn)):=
 bC NI [false,true,false,false,false,false,false,false,false,false,false,false,false,false,false,false,false,false,true,true] [[1,0,0,3,4,5,6,7,8,9,10,11,12,13,14,15,16,17,18,0,0]] (@DG C) (by kernel_rfl) (aW (bs:=[.loop (ao [1,1,1,1,0,1,0,0,1,1,0,0,1,1,1,0,1,0,0] zn)]) (by kernel_rfl) (bm (air C) ar)) (fun ds=>by kernel_rfl) (fun i x=>by kernel_rfl) (fun i x β k=>by kernel_rfl) (fun β ds k=>by kernel_rfl)
theorem ait (C:ae):Pt C (.loop (ao [1,1,1,1,1,1,1,0,1,0,0] zn)):=
 bC NJ [false,true,false,false,false,false,false,false,true,false,false,false,false,false] [[1,0,0,3,4,5,6,7,8,0,10,11,12,13,14]] (@DH C) (by kernel_rfl) (aW (bs:=[]) (by kernel_rfl) ar) (fun ds=>by kernel_rfl) (fun i x=>by kernel_rfl) (fun i x β k=>by kernel_rfl) (fun β ds k=>by kernel_rfl)
noncomputable def Yq (C:ae) (aK aO:Int) (aD aT:List V):Option (List V):=
 (C yV [.int .i64 aK,.int .i64 aO,.list aC aD,.list aG aT]).bind fun r1=>
 (C HJ [.int .i64 ((V.nth r1 0).toInt),.int .i64 ((V.nth (r1.drop 1) 0).toInt),.list aC ((V.nth (r1.drop 2) 0).toList),.list aG ((V.nth ((r1.drop 2).drop 1) 0).toList)]).bind fun r2=>
 (Loop (Jb C (((V.nth r2 0).toList).length:Int) aK aO aD aT 0 0 ((V.nth r1 0).toInt) ((V.nth (r1.drop 1) 0).toInt) ((V.nth (((r1.drop 2).drop 1).drop 1) 0).toList) ((V.nth r2 0).toList) aK 0 ([]:List V) ([]:List V) ((V.nth (r1.drop 2) 0).toList) ((V.nth ((r1.drop 2).drop 1) 0).toList)) (0,([]:List V),([]:List V))).bind (un fun (zu:Int)=>un fun (o4:Bool)=>un fun (wS:List V) (wJ:List V)=>
  (C yV [.int .i64 aK,.int .i64 0,.list aC wS,.list aG wJ]).bind fun jQ=>
  bif (decide (0≤(((V.nth (((r1.drop 2).drop 1).drop 1) 0).toList).length:Int)))&&((decide ((((V.nth (((r1.drop 2).drop 1).drop 1) 0).toList).length:Int)≤(((V.nth (((r1.drop 2).drop 1).drop 1) 0).toList).length:Int)))&&(Nat.ble ((((((V.nth (((r1.drop 2).drop 1).drop 1) 0).toList).length:Int):Int).toNat)*8) bP)) then
   (Loop (Jd C (((V.nth (((r1.drop 2).drop 1).drop 1) 0).toList).length:Int) 0 0 ((V.nth r2 0).toList) ((V.nth jQ 0).toInt) ((V.nth (jQ.drop 1) 0).toInt) ((V.nth (((jQ.drop 2).drop 1).drop 1) 0).toList) ((V.nth (((r1.drop 2).drop 1).drop 1) 0).toList) ([]:List V) ([]:List V) ((V.nth (jQ.drop 2) 0).toList) ((V.nth ((jQ.drop 2).drop 1) 0).toList)) (0,List.replicate (((((V.nth (((r1.drop 2).drop 1).drop 1) 0).toList).length:Int):Int).toNat) (V.int .i64 0))).bind (un fun (Pu:Int)=>un fun (zw:Bool) (aiu:List V)=>
    some [.int .i64 ((V.nth jQ 0).toInt),.int .i64 ((V.nth (jQ.drop 1) 0).toInt),.list aC ((V.nth (jQ.drop 2) 0).toList),.list aG ((V.nth ((jQ.drop 2).drop 1) 0).toList),.list bt aiu])
  else none)
theorem aiv {aK aO:Int} {aD aT:List V} {r:Option (List V)} (h:Yq CC aK aO aD aT=r):CC Hz [.int .i64 aK,.int .i64 aO,.list aC aD,.list aG aT]=r:=
 bD (key:=86) (L:=Yp CC) (bs:=[.loop (ao [1,1,1,1,0,1,0,0] zn),.loop (ao [1,1,1,1,1,1,1,0,1,0,0] zn)]) (by kernel_rfl) (bm (ais CC) (bm (ait CC) ar)) (bB (by kernel_rfl) h)
noncomputable def Yr (C:ae) (aK aO:Int) (aD aT:List V):Option (List V):=
 (C sN [.int .i64 aK,.int .i64 aO,.list aC aD,.list aG aT]).bind fun r1=>
 bif (((V.nth r1 0).toInt):Int) != 0 then
  some [.int .i64 0,.int .i64 0,.list aC ([]:List V),.list aG ([]:List V)]
 else
  (C Hz [.int .i64 aK,.int .i64 aO,.list aC aD,.list aG aT]).bind fun r2=>
  some [.int .i64 ((V.nth r2 0).toInt),.int .i64 ((V.nth (r2.drop 1) 0).toInt),.list aC ((V.nth (r2.drop 2) 0).toList),.list aG ((V.nth ((r2.drop 2).drop 1) 0).toList)]
theorem aiw {aK aO:Int} {aD aT:List V} {r:Option (List V)} (h:Yr CC aK aO aD aT=r):CC yR [.int .i64 aK,.int .i64 aO,.list aC aD,.list aG aT]=r:=
 bD (key:=54) (L:=dJ) (bs:=[]) (by kernel_rfl) ar (bB (by kernel_rfl) h)
theorem aix {p:Nat→Nat} {n:Nat} (h:pd p n) (hn:0<n):p 0=0:=by
 simpa[a8,dh] using h 1 (by omega)
theorem Pv {p:Nat→Nat} {n i:Nat} (h:pd p n) (hi:i<n):p i∈a8 p i↔p i<(Da.dX p i).length:=by
 rw[Da.zl]
 constructor
 ·intro hm
  rw[h i (by omega)] at hm
  simpa using hm
 ·intro hm
  rw[h i (by omega)]
  simpa using hm
theorem Pw (p:Nat→Nat) (n:Nat):(Da.dX p n).length≤n:=by rw[Da.zl];exact th p n
def qF (a:Da) (p:Nat→Nat) (i:Nat):List V:=(Da.dX p i).map fun r=>V.bool (a.fin r)
def qN (a:Da) (p:Nat→Nat) (i:Nat):List V:=(Da.dX p i).map fun r=>gb a.L fun x=>p (a.nx r x)
theorem Ys {a:Da} {p:Nat→Nat}:(a.quo p).cZ=qF a p a.n∧(a.quo p).cS=qN a p a.n:=by
 constructor
 ·unfold Da.cZ qF
  rw[C6 _ 0,Da.ti]
  exact eX fun i hi=>by rw[Da.Yf hi,gu hi]
 ·unfold Da.cS qN
  rw[C6 _ 0,Da.ti]
  refine eX fun i hi=> ?_
  unfold gb
  exact congrArg _ (eX fun x hx=>by rw[Da.Yg hi hx,gu hi])
section
variable {a:Da} (h:a.Ok) {p:Nat→Nat}
include h
theorem aiy {q:Nat} (hq:q<a.n) {k1 k2 k3 k4 k5 k6 k7 k8 k9 Px k11:Int} {l1 l2 l3 l4 l5 l6 l7 l8 l9:List V}:
  Loop (Ja CC k1 k2 k3 (tab a.L fun x=>iV (a.nx q x)) ((tab a.L fun x=>iV (a.nx q x)).length:Int) k4 k5 l1 l2 k6 k7 k8 k9 l3 (cV a.n p) Px k11 l4 l5 l6 l7 l8 l9) (0,List.replicate (((a.L:Nat):Int).toNat) (V.int .i64 0))=
   some ((a.L:Int),false,(tab a.L fun x=>nV (p (a.nx q x)))):=by
 have h6:=h.l6
 rw[dI,Int.toNat_natCast,o8]
 refine (eY a.L (fun t=>((t:Int),(tab a.L fun x=>if x<t then nV (p (a.nx q x)) else nV 0))) _ (fun t ht=> ?_) ?_)
 ·simp only[Ja,DF,un]
  refine bT (cU ht) ?_
  refine bs (qk ht) ?_
  refine (e9 (i:=a.nx q t) (h.fP hq ht)).trans ?_
  refine (e9 ht).trans ?_
  rw[cy (by omega),Int.toNat_natCast,o7]
  refine congrArg (fun x=>some (Sum.inl (((t+1:Nat):Int),x))) (eX fun j _=> ?_)
  by_cases hj:j=t
  ·rw[af hj,af (by omega),hj];rfl
  ·rw[ag hj]
   by_cases cp:j<t
   ·rw[af cp,af (by omega)]
   ·rw[ag cp,ag (by omega)]
 ·simp only[Ja,DF,un]
  refine bF (bq (ax _)) ?_
  rw[bq (ax _)]
  refine congrArg (fun x=>some (Sum.inr ((a.L:Int),false,x))) (eX fun j hj=>af hj)
theorem aiz (ho:pd p a.n) {k3 k4 k5 k6 k7 k8 k9:Int} {l1 l2 l3 l4 l5:List V}:
  Loop (Jb CC ((cV a.n p).length:Int) (a.L:Int) k3 l1 l2 k4 k5 k6 k7 l3 (cV a.n p) k8 k9 l4 l5 a.cZ a.cS) (0,([]:List V),([]:List V))=
   some ((a.n:Int),false,qF a p a.n,qN a p a.n):=by
 have h6:=h.l6
 have hm:=h.fO
 rw[show (cV a.n p).length=a.n by simp[cV]]
 refine (eY a.n (fun i=>((i:Int),qF a p i,qN a p i)) _ (fun q hq=> ?_) ?_)
 ·have hle:=Pw p q
  have hF:(qF a p q).length=(Da.dX p q).length:=by simp[qF]
  have hN:(qN a p q).length=(Da.dX p q).length:=by simp[qN]
  simp only[Jb,DG,un]
  refine bT (cU hq) ?_
  refine (e9 (i:=q) hq).trans ?_
  rw[cy (by omega)]
  simp only[nV,V.toInt_int]
  by_cases hx:p q∈a8 p q
  ·refine bT (bN (by rw[hF];have:=(Pv ho hq).1 hx;omega)) ?_
   unfold qF qN
   rw[Da.dX,af hx]
  ·refine bF (db (by rw[hF];intro h2;exact hx ((Pv ho hq).2 (by omega)))) ?_
   refine bT (nU (by omega) (by omega)) ?_
   refine (e9 (i:=q) hq).trans ?_
   simp only[pc]
   refine bs (aiy h hq) ?_
   refine (e9 (i:=q) hq).trans ?_
   refine bT (cap (by rw[hF];simp;omega) (by omega)) ?_
   refine bT (cap (by rw[hN];simp;omega) (by omega)) ?_
   unfold qF qN
   rw[Da.dX,ag hx,qz,qz]
   rfl
 ·simp only[Jb,DG,un]
  refine bF (bq (ax _)) ?_
  rw[bq (ax _)]
end
def tk (U U':List Nat) (p:Nat→Nat) (q:Nat):V:=if q∈U then iV ((if p (U.idxOf q)∈U' then nV (U'.idxOf (p (U.idxOf q))) else V.int .i64 (-1)).toInt) else V.int .i64 (-1)
theorem aiA {n m k:Nat} {U U':List Nat} {p:Nat→Nat} (hn:n≤512) (hU:U.length≤m) (hp: ∀q,q<m→p q<k) {k1 k2 k3 k4:Int} {l1 l2 l3 l4:List V}:
  ∃X,Loop (Jd CC ((jO U n).length:Int) k1 k2 (cV m p) k3 k4 (jO U' k) (jO U n) l1 l2 l3 l4) (0,List.replicate ((((jO U n).length:Int):Int).toNat) (V.int .i64 0))=some ((n:Int),false,X):=by
 rw[show (jO U n).length=n by simp[jO],Int.toNat_natCast,o8]
 refine ⟨tab n fun q=>if q<n then tk U U' p q else V.int .i64 0,eY n (fun i=>((i:Int),(tab n fun q=>if q<i then tk U U' p q else V.int .i64 0))) _ (fun q hq=> ?_) ?_⟩
 ·simp only[Jd,DH,un]
  refine bT (cU hq) ?_
  refine (e9 (i:=q) hq).trans ?_
  refine (e9 (i:=q) hq).trans ?_
  rw[cy (by omega)]
  have fin: ∀v,v=tk U U' p q→((tab n fun j=>if j<q then tk U U' p j else V.int .i64 0).set q v)=tab n fun j=>if j<q+1 then tk U U' p j else V.int .i64 0:=by
   rintro v rfl
   rw[o7]
   refine eX fun j _=> ?_
   by_cases hj:j=q
   ·rw[af hj,af (show j<q+1 by omega),hj]
   ·rw[ag hj]
    by_cases cp:j<q
    ·rw[af cp,af (show j<q+1 by omega)]
    ·rw[ag cp,ag (show¬j<q+1 by omega)]
  by_cases hx:q∈U
  ·have es:tk U U' p q=iV ((if p (U.idxOf q)∈U' then nV (U'.idxOf (p (U.idxOf q))) else V.int .i64 (-1)).toInt):=by unfold tk;rw[af hx]
   have hi:=vg hx
   rw[af hx]
   refine bT (bN (by simp only[nV,V.toInt_int];omega)) ?_
   simp only[nV,V.toInt_int]
   refine (e9 (i:=U.idxOf q) (by omega)).trans ?_
   simp only[nV,V.toInt_int]
   refine (e9 (i:=p (U.idxOf q)) (hp _ (by omega))).trans ?_
   refine bT (by rw[rN,dI];exact ahh hq) ?_
   refine bs (a:= .int .i64 (-1)) (by rw[Int.toNat_natCast,xx];simp[hq]) ?_
   rw[Int.toNat_natCast,List.set_set,←fin _ es.symm]
  ·rw[ag hx]
   refine bF (db (by simp)) ?_
   rw[Int.toNat_natCast,←fin _ (show V.int .i64 (-1)=tk U U' p q by unfold tk;rw[ag hx])]
 ·simp only[Jd,DH,un]
  refine bF (bq (ax _)) ?_
  rw[bq (ax _)]
theorem Canon.congr {m:Da} {L:Nat} {K K':List Nat→Bool} (h:m.Canon L K) (e: ∀w,WL L w→K w=K' w):m.Canon L K':=⟨h.ok,h.hL,h.st,h.num,h.red,fun w hw=>(h.mU w hw).trans (e w hw)⟩
theorem aiB {a:Da} (h:a.Ok): ∃m X,CC Hz (dK a)=some (dK m++[.list bt X])∧m.Canon a.L (a.acc a.st):=by
 have ht:=h.Xr
 have hm:=h.fO
 have hle:=h.nR a.n
 have e3:a.trim.n=(an a.L a.nx a.st a.n).length:=mi
 obtain ⟨p,c1,c2,c3⟩:=aiq ht
 have hq:=Da.IU ht c2
 obtain ⟨q1,q2⟩:=Ys (a:=a.trim) (p:=p)
 have aiC:=Da.Pq ht c2
 have b6:(a.trim.quo p).st=0:=aix c2.2 ht.s
 have yv:=X9 hq
 obtain ⟨X,hX⟩:=aiA (n:=a.n) (m:=a.trim.n) (k:=(a.trim.quo p).n) (U:=an a.L a.nx a.st a.n) (U':=an (a.trim.quo p).L (a.trim.quo p).nx (a.trim.quo p).st (a.trim.quo p).n) (p:=p) hm (by omega) (fun q hq=>by rw[Da.ti];exact Da.Dr c2.2 hq) (k1:=0) (k2:=0) (k3:=((a.trim.quo p).trim.L:Int)) (k4:=((a.trim.quo p).trim.st:Int)) (l1:=[]) (l2:=[]) (l3:=(a.trim.quo p).trim.cZ) (l4:=(a.trim.quo p).trim.cS)
 refine ⟨(a.trim.quo p).trim,X,aiv ?_,Canon.congr aiC fun w hw=>h.Xs hw⟩
 unfold Yq
 refine bs (X9 h) ?_
 refine bs c1 ?_
 refine bs (aiz ht c2.2) ?_
 simp only[un]
 rw[←q1,←q2]
 have aiD:CC yV [.int .i64 (a.L:Int),.int .i64 0,.list aC (a.trim.quo p).cZ,.list aG (a.trim.quo p).cS]=some (dK (a.trim.quo p).trim++[.list bt (jO (an (a.trim.quo p).L (a.trim.quo p).nx (a.trim.quo p).st (a.trim.quo p).n) (a.trim.quo p).n)]):=by
  rw[←yv]
  unfold dK gd
  rw[b6];rfl
 refine bs aiD ?_
 have e0:(jO (an a.L a.nx a.st a.n) a.n).length=a.n:=by simp[jO]
 refine bT (show ((decide (0≤((jO (an a.L a.nx a.st a.n) a.n).length:Int)))&&((decide (((jO (an a.L a.nx a.st a.n) a.n).length:Int)≤((jO (an a.L a.nx a.st a.n) a.n).length:Int)))&&(Nat.ble (((((jO (an a.L a.nx a.st a.n) a.n).length:Nat):Int).toNat)*8) bP)))=true from nU (by rw[e0];omega) (by omega)) ?_
 refine bs hX ?_
 rfl
theorem Yt {a:Da} (h:a.Ok): ∃m,CC yR (dK a)=some (dK m)∧m.Canon a.L (a.acc a.st):=by
 obtain ⟨m,X,h1,h2⟩:=aiB h
 refine ⟨m,aiw ?_,h2⟩
 unfold Yr
 refine bs (Db h) ?_
 refine bF rfl ?_
 refine bs h1 ?_
 rfl
open Classical in
noncomputable def minD (a:Da):Da:=if h: ∃m:Da,m.Canon a.L (a.acc a.st) then Classical.choose h else a
theorem zx {a:Da} (h:a.Ok):(minD a).Canon a.L (a.acc a.st):=by
 obtain ⟨m,_,h2⟩:=Yt h
 have: ∃m:Da,m.Canon a.L (a.acc a.st):=⟨m,h2⟩
 unfold minD
 rw[pB this]
 exact Classical.choose_spec this
theorem zy {a m:Da} (h:a.Ok) (hm:m.Canon a.L (a.acc a.st)):m=minD a:=hm.eq (zx h)
theorem Yu {a:Da} (h:a.Ok):CC yR (dK a)=some (dK (minD a)):=by
 obtain ⟨m,h1,h2⟩:=Yt h
 rw[h1,zy h h2]
end Go.AM
set_option maxRecDepth 100000
namespace Go.AM
section
variable {α:Type} [DecidableEq α] {L:Nat} {next:α→Nat→α} {a0:α}
theorem Yv (S:List α) (a:α): ∀x,(bf next S a x).length≤S.length+x
 | 0=>ax _
 | x+1=>by
  have:=Yv S a x
  rw[bf,qh]
  split<;>omega
theorem aiE {m:Nat} (h:(an L next a0 m).length≤m) (i:Nat):(an L next a0 i).length≤m:=by
 rcases eg m i with c|c
 ·rw[CT h (by omega)];exact h
 ·exact jT (lH c).length_le h
theorem Yw {k:Nat} (hd:(an L next a0 k).length≤k) (i:Nat):(an L next a0 i).length≤(an L next a0 k).length:=by
 rcases eg k i with c|c
 ·rw[CT hd (by omega)];exact ax _
 ·exact (lH c).length_le
theorem Yx {k m:Nat} (h:m<(an L next a0 k).length):m<(an L next a0 m).length:=by
 rcases eg m (an L next a0 m).length with c|c
 ·exact c
 ·have:=aiE c k
  omega
theorem Yy {m:Nat} (h:m<(an L next a0 m).length) (hm:1≤m): ∃i,i<m∧(∀j,j≤i→j<(an L next a0 j).length∧(an L next a0 j).length≤m)∧m<(an L next a0 (i+1)).length:=by
 have key: ∀d k,k+d=m→(∀j,j≤k→(an L next a0 j).length≤m)→∃i,i<m∧(∀j,j≤i→j<(an L next a0 j).length∧(an L next a0 j).length≤m)∧m<(an L next a0 (i+1)).length:=by
  intro d
  induction d with
  | zero=>
   intro k hk hj
   have:=hj k (ax _)
   rw[show k=m by omega] at this
   omega
  | succ d ih=>
   intro k hk hj
   rcases eg m (an L next a0 (k+1)).length with c|c
   ·refine ⟨k,by omega,fun j Yz=>⟨?_,hj j Yz⟩,c⟩
    rcases eg j (an L next a0 j).length with c1|c1
    ·exact c1
    ·have h1:=hj j Yz
     rw[←CT c1 (show j≤m by omega)] at h1
     omega
   ·refine ih (k+1) (by omega) fun j cp=> ?_
    rcases eg j (k+1) with c1|c1
    ·exact hj j (by omega)
    ·rw[show j=k+1 by omega];exact c
 exact key m 0 (by omega) fun j hj=>by rw[tJ.1 hj];simp[an];omega
theorem aiF {S:List α} {a:α} {m:Nat} (hS:S.length≤m) (h:m<(bf next S a L).length): ∃x,x<L∧(bf next S a x).length=m∧next a x∉bf next S a x∧∀y,y≤x→(bf next S a y).length≤m:=by
 have key: ∀d k,k+d=L→(∀y,y≤k→(bf next S a y).length≤m)→∃x,x<L∧(bf next S a x).length=m∧next a x∉bf next S a x∧∀y,y≤x→(bf next S a y).length≤m:=by
  intro d
  induction d with
  | zero=>
   intro k hk hj
   have:=hj k (ax _)
   rw[show k=L by omega] at this
   omega
  | succ d ih=>
   intro k hk hj
   rcases eg m (bf next S a (k+1)).length with c|c
   ·have h0:=hj k (ax _)
    rw[bf,qh] at c
    split at c
    ·omega
    ·rename_i hn
     exact ⟨k,by omega,by omega,hn,hj⟩
   ·refine ih (k+1) (by omega) fun j cp=> ?_
    rcases eg j (k+1) with c1|c1
    ·exact hj j (by omega)
    ·rw[show j=k+1 by omega];exact c
 exact key L 0 (by omega) fun y hy=>by rw[tJ.1 hy];exact hS
theorem aiG {P:α→Prop} (h0:P a0) (hP: ∀a,P a→∀x,x<L→P (next a x)) (i:Nat): ∀a∈an L next a0 i,P a:=by
 intro a ha
 obtain ⟨w,hw,rfl⟩:=CV i a ha
 have: ∀(w:List Nat) (b:α),P b→WL L w→P (w.foldl next b):=by
  intro w
  induction w with
  | nil=>intro b hb _;exact hb
  | cons x w ih=>intro b hb hw;exact ih _ (hP b hb x hw.head) hw.tail
 exact this w a0 h0 hw
end
end Go.AM
set_option maxRecDepth 100000
namespace Go.AM
open Go.Proofs
structure NP where
 p:Nat
 q:Nat
deriving DecidableEq
section
variable {a b:Da} (ha:a.Ok) (hb:b.Ok) (hL:a.L=b.L) {op:Nat}
include ha hb hL
end
def zD:Da:=⟨0,0,[],[]⟩
def fR (m:Da) (e:Int):List V:=[.int .i64 (m.L:Int),.int .i64 (m.st:Int),.int .i64 e,.list aC m.cZ,.list aG m.cS]
section
variable {a b:Da} (ha:a.Ok) (hb:b.Ok) (hL:a.L=b.L) {op:Nat}
include ha hb hL
end
section
variable {a b:Da} (ha:a.Ok) (hb:b.Ok) (hL:a.L=b.L) {op:Nat}
include ha hb hL
end
noncomputable def YA (C:ae) (dH letter:Int) (DJ:List V):Option (List V):=
 (idx DJ letter).bind fun x1=>
 (C HR [.list ct x1.toList,.int .u64 dH]).bind fun r2=>
 some [.int .u64 ((V.nth r2 0).toInt),.list eW DJ]
theorem aiH {dH letter:Int} {DJ:List V} {r:Option (List V)} (h:YA CC dH letter DJ=r):CC rk [.int .u64 dH,.int .i64 letter,.list eW DJ]=r:=
 bD (key:=138) (L:=dJ) (bs:=[]) (by kernel_rfl) ar (bB (by kernel_rfl) h)
noncomputable def YB (C:ae) (dH td te ry rz:Int) (Je:List V):Option (List V):=
 some [.bool (((IntKind.wrap .u64 ((BitVec.ofInt (IntKind.bits .u64) dH&&&BitVec.ofInt (IntKind.bits .u64) rz).toNat)):Int) != 0),.int .i64 td,.int .i64 te,.int .u64 ry,.int .u64 rz,.list av Je]
theorem aiI {dH td te ry rz:Int} {Je:List V} {r:Option (List V)} (h:YB CC dH td te ry rz Je=r):CC sQ [.int .u64 dH,.int .i64 td,.int .i64 te,.int .u64 ry,.int .u64 rz,.list av Je]=r:=
 bD (key:=119) (L:=dJ) (bs:=[]) (by kernel_rfl) ar (bB (by kernel_rfl) h)
noncomputable def YC (C:ae) (x:Int) (bS:List V):Option (List V):=
 bif dp .u64 x&&true then
  bif dp .u64 x&&true then
  bif Nat.ble ((bS.length+([.int .u64 x]:List V).length)*8) bP then
   some [.int .i64 (bS.length:Int),.list ct (bS++([.int .u64 x]:List V)),.list iQ (fB (.int .u64 x) (.int .i64 (bS.length:Int)) ([]:List V))]
  else none
  else none
 else none
theorem aiJ {x:Int} {bS:List V} {r:Option (List V)} (h:YC CC x bS=r):CC Ck [.int .u64 x,.list ct bS]=r:=
 bD (key:=137) (L:=dJ) (bs:=[]) (by kernel_rfl) ar (bB (by kernel_rfl) h)
noncomputable def YD (C:ae) (x:Int) (bS dy:List V):Option (List V):=
 bif dp .u64 x&&true then
  bif !(gk (.int .u64 x) dy) then
  bif dp .u64 x&&true then
   bif Nat.ble ((bS.length+([.int .u64 x]:List V).length)*8) bP then
   some [.int .i64 (bS.length:Int),.list iQ (fB (.int .u64 x) (.int .i64 (bS.length:Int)) dy),.list ct (bS++([.int .u64 x]:List V))]
   else none
  else none
  else
  some [.int .i64 ((jb (.int .u64 x) dy (.int .i64 0)).toInt),.list iQ dy,.list ct bS]
 else none
theorem aiK {x:Int} {bS dy:List V} {r:Option (List V)} (h:YD CC x bS dy=r):CC MM [.int .u64 x,.list ct bS,.list iQ dy]=r:=
 bD (key:=183) (L:=dJ) (bs:=[]) (by kernel_rfl) ar (bB (by kernel_rfl) h)
noncomputable abbrev Jf:Code:=cJ Tryd.prog (au.bc 117)
noncomputable def DK (C:ae) (aY i state t36 m9 na nc nd:Int) (nf:List V) (nY nZ aZ bp:Int) (bw bh gM n8:List V) (t37:Int) (ng rows cj dL:List V) {β:Type} (kn:(Int × (List V) × (List V) × (List V) × (List V))→Option β) (kr:(Int × Bool × (List V) × (List V) × (List V) × (List V))→Option β):Option β:=
 bif decide ((t37:Int)<t36) then
  (C rk [.int .u64 state,.int .i64 t37,.list eW ng]).bind fun r3=>
  (C MM [.int .u64 ((V.nth r3 0).toInt),.list ct cj,.list iQ dL]).bind fun r4=>
  bif (decide (0≤t37))&&(decide (t37<(rows.length:Int))) then
  (rows[(t37:Int).toNat]?).bind fun x5=>
  kn (IntKind.wrap .i64 (t37+1),(V.nth (r3.drop 1) 0).toList,rows.set ((t37:Int).toNat) (.int .i64 ((V.nth r4 0).toInt)),(V.nth ((r4.drop 1).drop 1) 0).toList,(V.nth (r4.drop 1) 0).toList)
  else none
 else
  kr (t37,decide ((t37:Int)<t36),ng,rows,cj,dL)
noncomputable def Jg (C:ae) (aY i state t36 m9 na nc nd:Int) (nf:List V) (nY nZ aZ bp:Int) (bw bh gM n8:List V):(Int × (List V) × (List V) × (List V) × (List V))→Option ((Int × (List V) × (List V) × (List V) × (List V)) ⊕ (Int × Bool × (List V) × (List V) × (List V) × (List V))):=un fun t37=>un fun ng=>un fun rows=>un fun cj dL=>DK C aY i state t36 m9 na nc nd nf nY nZ aZ bp bw bh gM n8 t37 ng rows cj dL (fun y=>some (.inl y)) (fun r=>some (.inr r))
noncomputable def DL (C:ae) (aY nY nZ aZ bp:Int) (bO bw:List V) (i:Int) (ng:List V) (m9 na nc nd:Int) (nf bh cj dL gM:List V) {β:Type} (kn:(Int × (List V) × Int × Int × Int × Int × (List V) × (List V) × (List V) × (List V) × (List V))→Option β) (kr:((Int × (List V) × Int × Int × Int × Int × (List V) × Int × Int × (List V) × (List V) × (List V)) ⊕ (Int × Bool × (List V) × Int × Int × Int × Int × (List V) × (List V) × (List V) × (List V) × (List V)))→Option β):Option β:=
 bif decide ((i:Int)<(bh.length:Int)) then
  bif (decide (0≤i))&&(decide (i<(bh.length:Int))) then
  (bh[(i:Int).toNat]?).bind fun x2=>
  bif (decide (0≤aY))&&((decide (aY≤aY))&&(Nat.ble (((aY:Int).toNat)*8) bP)) then
   (Loop (Jg C aY i x2.toInt ((List.replicate ((aY:Int).toNat) (V.int .i64 0)).length:Int) m9 na nc nd nf nY nZ aZ bp bO bw dL gM) (0,ng,List.replicate ((aY:Int).toNat) (V.int .i64 0),bh,cj)).bind (un fun (mN:Int)=>un fun (mh:Bool)=>un fun (De:List V)=>un fun (DM:List V)=>un fun (Jh:List V) (Py:List V)=>
    bif decide (((Jh.length:Int):Int)>512) then
    kr (.inl (3,De,m9,na,nc,nd,nf,0,0,([]:List V),([]:List V),([]:List V)))
    else
    bif Nat.ble ((gM.length+([.list bt DM]:List V).length)*24) bP then
     (C sQ [.int .u64 x2.toInt,.int .i64 m9,.int .i64 na,.int .u64 nc,.int .u64 nd,.list av nf]).bind fun iw=>
     bif Nat.ble ((dL.length+([.bool ((V.nth iw 0).toBool)]:List V).length)*1) bP then
     kn (IntKind.wrap .i64 (i+1),De,(V.nth (iw.drop 1) 0).toInt,(V.nth ((iw.drop 1).drop 1) 0).toInt,(V.nth (((iw.drop 1).drop 1).drop 1) 0).toInt,(V.nth ((((iw.drop 1).drop 1).drop 1).drop 1) 0).toInt,(V.nth (((((iw.drop 1).drop 1).drop 1).drop 1).drop 1) 0).toList,Jh,Py,dL++([.bool ((V.nth iw 0).toBool)]:List V),gM++([.list bt DM]:List V))
     else none
    else none)
  else none
  else none
 else
  kr (.inr (i,decide ((i:Int)<(bh.length:Int)),ng,m9,na,nc,nd,nf,bh,cj,dL,gM))
noncomputable def zz (C:ae) (aY nY nZ aZ bp:Int) (bO bw:List V):(Int × (List V) × Int × Int × Int × Int × (List V) × (List V) × (List V) × (List V) × (List V))→Option ((Int × (List V) × Int × Int × Int × Int × (List V) × (List V) × (List V) × (List V) × (List V)) ⊕ ((Int × (List V) × Int × Int × Int × Int × (List V) × Int × Int × (List V) × (List V) × (List V)) ⊕ (Int × Bool × (List V) × Int × Int × Int × Int × (List V) × (List V) × (List V) × (List V) × (List V)))):=un fun i=>un fun ng=>un fun m9=>un fun na=>un fun nc=>un fun nd=>un fun nf=>un fun bh=>un fun cj=>un fun dL gM=>DL C aY nY nZ aZ bp bO bw i ng m9 na nc nd nf bh cj dL gM (fun y=>some (.inl y)) (fun r=>some (.inr r))
noncomputable def YE (C:ae):cD:=fun β n ds k=>
 bif Nat.beq n 161 then bz Oa [false,false,false,false,true,true,false,false,false,false,false,false,false,false,false,true,false,false,true,true,false,false] [[1,2,3,4,0,0,0,7,8,9,10,11,12,13,14,15,0,17,18,0,0,21,22]] (@DK C) ds k else
 bif Nat.beq n 81 then bz Ob [false,true,true,true,true,true,true,true,false,false,false,false,false,false,true,true,true,true] [[0,0,0,0,0,0,0,0,0,0,0,0],[1,0,0,0,0,0,0,0,0,9,10,11,12,13,14,0,0,0,0]] (@DL C) ds k else
 none
abbrev YF (C:ae) (b:cB):Prop:=cC Tryd.prog au C (YE C) 117 (cQ Tryd.prog (au.bc 117)) (au.sin 117).bj.length b
theorem aiL (C:ae):YF C (.loop (ao [1,1,1,1,0,1,0,0,1,0,0,1,1,0,1,0,0] Jf)):=
 bC Oa [false,false,false,false,true,true,false,false,false,false,false,false,false,false,false,true,false,false,true,true,false,false] [[1,2,3,4,0,0,0,7,8,9,10,11,12,13,14,15,0,17,18,0,0,21,22]] (@DK C) (by kernel_rfl) (aW (bs:=[]) (by kernel_rfl) ar) (fun ds=>by kernel_rfl) (fun i x=>by kernel_rfl) (fun i x β k=>by kernel_rfl) (fun β ds k=>by kernel_rfl)
theorem aiM (C:ae):YF C (.loop (ao [1,1,1,1,0,1,0,0] Jf)):=
 bC Ob [false,true,true,true,true,true,true,true,false,false,false,false,false,false,true,true,true,true] [[0,0,0,0,0,0,0,0,0,0,0,0],[1,0,0,0,0,0,0,0,0,9,10,11,12,13,14,0,0,0,0]] (@DL C) (by kernel_rfl) (aW (bs:=[.loop (ao [1,1,1,1,0,1,0,0,1,0,0,1,1,0,1,0,0] Jf)]) (by kernel_rfl) (bm (aiL C) ar)) (fun ds=>by kernel_rfl) (fun i x=>by kernel_rfl) (fun i x β k=>by kernel_rfl) (fun β ds k=>by kernel_rfl)
noncomputable def Pz (C:ae) (aY start:Int) (ng:List V) (m9 na nc nd:Int) (nf:List V):Option (List V):=
 (C Ck [.int .u64 start,.list ct ([]:List V)]).bind fun r1=>
 (Loop (zz C aY 0 0 aY 0 ([]:List V) ([]:List V)) (0,ng,m9,na,nc,nd,nf,(V.nth (r1.drop 1) 0).toList,(V.nth ((r1.drop 1).drop 1) 0).toList,([]:List V),([]:List V))).bind (cL (un fun (o4:Int)=>un fun (wS:List V)=>un fun (wJ:Int)=>un fun (PA:Int)=>un fun (tf:Int)=>un fun (Dh:Int)=>un fun (Pg:List V)=>un fun (aiN:Int)=>un fun (Ph:Int)=>un fun (PB:List V)=>un fun (Pj:List V) (aiO:List V)=>
  some [.int .i64 aiN,.int .i64 Ph,.int .i64 o4,.list eW wS,.int .i64 wJ,.int .i64 PA,.int .u64 tf,.int .u64 Dh,.list av Pg,.list aC PB,.list aG Pj,.list ct aiO]) (un fun (aoi:Int)=>un fun (aiP:Bool)=>un fun (aiQ:List V)=>un fun (aiR:Int)=>un fun (aiS:Int)=>un fun (aiT:Int)=>un fun (aiU:Int)=>un fun (aiV:List V)=>un fun (X3:List V)=>un fun (X4:List V)=>un fun (Di:List V) (DN:List V)=>
  some [.int .i64 aY,.int .i64 0,.int .i64 0,.list eW aiQ,.int .i64 aiR,.int .i64 aiS,.int .u64 aiT,.int .u64 aiU,.list av aiV,.list aC Di,.list aG DN,.list ct X3]))
theorem YG {aY start:Int} {ng:List V} {m9 na nc nd:Int} {nf:List V} {r:Option (List V)} (h:Pz CC aY start ng m9 na nc nd nf=r):CC wv [.int .i64 aY,.int .u64 start,.list eW ng,.int .i64 m9,.int .i64 na,.int .u64 nc,.int .u64 nd,.list av nf]=r:=
 bD (key:=117) (L:=YE CC) (bs:=[.loop (ao [1,1,1,1,0,1,0,0] Jf)]) (by kernel_rfl) (bm (aiM CC) ar) (bB (by kernel_rfl) h)
noncomputable def PC (C:ae) (cM dc cN dB:Int) (cP:List V):Option (List V):=
 (C HC [.int .i64 cM,.int .i64 dc,.int .u64 cN,.int .u64 dB,.list av cP]).bind fun r1=>
 bif (((V.nth r1 0).toInt):Int) != 0 then
  some [.int .i64 0,.int .i64 0,.int .i64 ((V.nth r1 0).toInt),.list aC ([]:List V),.list aG ([]:List V),.list ct ([]:List V)]
 else
  (C HL [.int .i64 cM,.int .i64 dc,.int .u64 cN,.int .u64 dB,.list av cP]).bind fun r2=>
  (C wv [.int .i64 cM,.int .u64 cN,.list eW ((V.nth r2 0).toList),.int .i64 cM,.int .i64 dc,.int .u64 cN,.int .u64 dB,.list av cP]).bind fun r3=>
  some [.int .i64 ((V.nth r3 0).toInt),.int .i64 ((V.nth (r3.drop 1) 0).toInt),.int .i64 ((V.nth (r3.drop 2) 0).toInt),.list aC ((V.nth (((r3.drop 3).drop 1).drop 5) 0).toList),.list aG ((V.nth ((((r3.drop 3).drop 1).drop 5).drop 1) 0).toList),.list ct ((V.nth (((((r3.drop 3).drop 1).drop 5).drop 1).drop 1) 0).toList)]
theorem YH {cM dc cN dB:Int} {cP:List V} {r:Option (List V)} (h:PC CC cM dc cN dB cP=r):CC Ce [.int .i64 cM,.int .i64 dc,.int .u64 cN,.int .u64 dB,.list av cP]=r:=
 bD (key:=99) (L:=dJ) (bs:=[]) (by kernel_rfl) ar (bB (by kernel_rfl) h)
def uV (q:Nat):V:= .int .u64 (q:Int)
def uM (S:List Nat):List V:=gv uV 0 S
theorem w4 (a b:Nat):jX (uV a) (uV b)=decide (a=b):=ahD a b
theorem Ji {S:List Nat} {i:Nat} (h:i<S.length):(U1 S)[i]? =some (uV S[i]):=OY (bM h)
theorem YI {x:Nat} (hx:x<2^64):CC Ck [uV x,.list ct []]=some [nV 0,.list ct (U1 [x]),.list iQ (uM [x])]:=by
 refine aiJ ?_
 unfold YC
 rw[zi hx]
 exact bT rfl (bT rfl (bT (cap (by simp) (by omega)) rfl))
theorem aiW {S:List Nat} {x:Nat} (hx:x<2^64) (hl:S.length≤1000000):CC MM [uV x,.list ct (U1 S),.list iQ (uM S)]=some [nV ((dh S x).idxOf x),.list iQ (uM (dh S x)),.list ct (U1 (dh S x))]:=by
 refine aiK ?_
 unfold YD
 have e1:=wR w4 x S 0
 rw[zi hx]
 refine bT rfl ?_
 rw[show (V.int .u64 (x:Int))=uV x from rfl,Pf]
 by_cases h:x∈S
 ·refine bF (by rw[show gk (uV x) (uM S)=_ from e1];simpa using h) ?_
  have e2:=zg w4 x (.int .i64 0) S 0 h
  rw[show jb (uV x) (uM S) (.int .i64 0)=_ from e2,af h,eh,show dh S x=S by unfold dh;rw[af h]]
  rfl
 ·refine bT (by rw[show gk (uV x) (uM S)=_ from e1];simpa using h) ?_
  refine bT rfl ?_
  refine bT (cap (by rw[lF];simp;omega) (by omega)) ?_
  have e2:=zh w4 x S 0 h
  rw[eh] at e2
  rw[lF,show fB (uV x) (.int .i64 (S.length:Int)) (uM S)=_ from e2,ag h,show dh S x=S++[x] by unfold dh;rw[ag h]]
  simp[U1,nV,uM,uV]
def sn (E:List Ed) (s x:Nat):Nat:=iv E s (x:Int)
def sf (fin s:Nat):Bool:= !((s&&&fin)==0)
structure Nat6 (n:Nf) (L S:Nat):Prop where
 code:n.code=0
 ok:n.Ok
 hL:n.L=(L:Int)
 hS:n.S=(S:Int)
namespace Nat6
variable {n:Nf} {L S:Nat} (h:Nat6 n L S)
include h
theorem good:n.Good:=Nf.afH h.code
theorem l1:1≤L:=by have:=h.good.L1;have:=h.hL;omega
theorem l6:L≤6:=by have:=h.good.L6;have:=h.hL;omega
theorem rv:S≤64:=by have:=h.good.S64;have:=h.hS;omega
theorem sS:n.S.toNat=S:=by have:=h.hS;omega
theorem lL:n.L.toNat=L:=by have:=h.hL;omega
theorem edF: ∀e∈n.E,e.f.toNat<S:=fun e he=>by have:=h.good.E e he;have:=h.hS;unfold Ed.In at*;omega
theorem YJ: ∀e∈n.E,e.t.toNat<S:=fun e he=>by have:=h.good.E e he;have:=h.hS;unfold Ed.In at*;omega
theorem st:n.st<2^S:=by have:=h.good.st;rwa [h.sS] at this
theorem fin:n.fin<2^S:=by have:=h.good.fin;rwa [h.sS] at this
theorem pow:2^S≤2^64:=ox (by omega) h.rv
theorem next (s x:Nat):sn n.E s x<2^S:=OU h.YJ
end Nat6
def eC (n:Nf) (L S:Nat):List Nat:=an L (sn n.E) n.st (2^S)
def fg (n:Nf) (L S:Nat):Da:=fI L (sn n.E) (sf n.fin) (eC n L S)
def gN (n:Nf) (L S:Nat):Prop:=512<(eC n L S).length
def tV (n:Nf) (L S:Nat):List V:=U2 (kP L S n.E)
def Jj (m:Da) (e:Int) (X:V):List V:=[.int .i64 (m.L:Int),.int .i64 (m.st:Int),.int .i64 e,.list aC m.cZ,.list aG m.cS,X]
section
variable {n:Nf} {L S:Nat} (h:Nat6 n L S)
include h
theorem aiX {s x:Nat} (hs:s<2^S) (hx:x<L):CC rk [uV s,nV x,.list eW (tV n L S)]=some [uV (sn n.E s x),.list eW (tV n L S)]:=by
 have hp:=h.pow
 refine aiH ?_
 unfold YA
 have e1:idx (tV n L S) (x:Int)=some (.list ct (U1 (mT S n.E (x:Int)))):=by
  rw[Mu rfl]
  unfold tV U2
  rw[eZ,OZ hx];rfl
 refine bs e1 ?_
 have hr:za (mT S n.E (x:Int)):=agT h.rv h.YJ
 have e2:=agS hr (s:=s) (by omega)
 have hl:(mT S n.E (x:Int)).length=S:=by simp[mT]
 rw[hl,agU (by omega) h.rv h.edF] at e2
 refine bs e2 ?_
 rfl
theorem aiY {s:Nat} (hs:s<2^S):CC sQ (uV s::kO n [])=some (.bool (sf n.fin s)::kO n []):=by
 have hp:=h.pow
 have hf:=h.fin
 refine aiI ?_
 unfold YB
 have e:IntKind.wrap .u64 ((BitVec.ofInt (IntKind.bits .u64) (s:Int)&&&BitVec.ofInt (IntKind.bits .u64) (n.fin:Int)).toNat)=((s&&&n.fin:Nat):Int):=u64_and (by omega) (by omega)
 rw[e]
 have e2:(((s&&&n.fin:Nat):Int) != 0)=sf n.fin s:=by
  unfold sf
  rw[qB]
  simp
 rw[e2];rfl
theorem sub_lt (i:Nat): ∀s∈an L (sn n.E) n.st i,s<2^S:=aiG (P:=fun s=>s<2^S) h.st (fun s _ x _=>h.next s x) i
theorem w5 (i:Nat):(an L (sn n.E) n.st i).length≤2^S:=by
 have:=Xq (L:=L) (next:=sn n.E) (a0:=n.st) (U:=List.range (2^S)) (ja.2 h.st) (fun s _ x _=>ja.2 (h.next s x)) i
 simpa using this
theorem aiZ {T U:List Nat} {s:Nat} (hs:s<2^S) (hT:T.length≤1000) (hp:bf (sn n.E) T s L <+: U) {i c1 c2:Int} {l1 l2 l3 l4:List V}:
  Loop (Jg CC (L:Int) i (s:Int) ((List.replicate (((L:Nat):Int).toNat) (V.int .i64 0)).length:Int) n.L n.S (n.st:Int) (n.fin:Int) (n.E.map Ed.enc) c1 c2 (L:Int) 0 l1 l2 l3 l4) (0,tV n L S,List.replicate (((L:Nat):Int).toNat) (V.int .i64 0),U1 T,uM T)=
   some ((L:Int),false,tV n L S,(tab L fun x=>nV (U.idxOf (sn n.E s x))),U1 (bf (sn n.E) T s L),uM (bf (sn n.E) T s L)):=by
 have h6:=h.l6
 have zA:=h.pow
 rw[Int.toNat_natCast,o8,dI]
 refine (eY L (fun x=>((x:Int),tV n L S,(tab L fun j=>if j<x then nV (U.idxOf (sn n.E s j)) else nV 0),U1 (bf (sn n.E) T s x),uM (bf (sn n.E) T s x))) _ (fun x hx=> ?_) ?_)
 ·simp only[Jg,DK,un]
  refine bT (cU hx) ?_
  refine bs (aiX h hs hx) ?_
  have hl:=Yv (next:=sn n.E) T s x
  have hn:=h.next s x
  refine bs (aiW (S:=bf (sn n.E) T s x) (x:=sn n.E s x) (by omega) (by omega)) ?_
  refine (e9 hx).trans ?_
  rw[cy (by omega),Int.toNat_natCast,o7]
  have e:(dh (bf (sn n.E) T s x) (sn n.E s x)).idxOf (sn n.E s x)=U.idxOf (sn n.E s x):=(wO ((ta T s (show x+1≤L by omega)).trans hp) wK).symm
  show some (Sum.inl _)=some (Sum.inl _)
  refine congrArg (fun x=>some (Sum.inl x)) ?_
  refine iE rfl (iE rfl (iE ?_ (iE rfl rfl)))
  refine eX fun j _=> ?_
  by_cases hj:j=x
  ·rw[af hj,af (by omega),hj,←e];rfl
  ·rw[ag hj]
   by_cases cp:j<x
   ·rw[af cp,af (by omega)]
   ·rw[ag cp,ag (by omega)]
 ·simp only[Jg,DK,un]
  refine bF (bq (ax _)) ?_
  rw[bq (ax _)]
  have:(tab L fun j=>if j<L then nV (U.idxOf (sn n.E s j)) else nV 0)=tab L fun j=>nV (U.idxOf (sn n.E s j)):=eX fun j hj=>af hj
  rw[this]
theorem PD {i:Nat} (fY:i<(an L (sn n.E) n.st i).length) (hlen:(an L (sn n.E) n.st i).length≤512) {U:List Nat} (hp:an L (sn n.E) n.st (i+1) <+: U) {l1 l2 l3 l4:List V} (hl3:l3.length≤1000) (hl4:l4.length≤1000):
  zz CC (L:Int) 0 0 (L:Int) 0 l1 l2 ((i:Int),tV n L S,n.L,n.S,(n.st:Int),(n.fin:Int),n.E.map Ed.enc,U1 (an L (sn n.E) n.st i),uM (an L (sn n.E) n.st i),l3,l4)=
   if 512<(an L (sn n.E) n.st (i+1)).length then some (.inr (.inl (3,tV n L S,n.L,n.S,(n.st:Int),(n.fin:Int),n.E.map Ed.enc,0,0,[],[],[])))
   else some (.inl (((i+1:Nat):Int),tV n L S,n.L,n.S,(n.st:Int),(n.fin:Int),n.E.map Ed.enc,U1 (an L (sn n.E) n.st (i+1)),uM (an L (sn n.E) n.st (i+1)),l3++[V.bool (sf n.fin (an L (sn n.E) n.st i)[i])],l4++[V.list bt (tab L fun x=>nV (U.idxOf (sn n.E (an L (sn n.E) n.st i)[i] x)))])):=by
 have h6:=h.l6
 have hq:=sub_lt h i _ (eQ fY)
 have jl:an L (sn n.E) n.st (i+1)=bf (sn n.E) (an L (sn n.E) n.st i) (an L (sn n.E) n.st i)[i] L:=O5 (bM fY)
 simp only[zz,DL,un]
 refine bT (bN (by rw[lF];omega)) ?_
 refine (qj (Ji fY)).trans ?_
 refine bT (nU (by omega) (by omega)) ?_
 refine bs (aiZ h hq (by omega) (U:=U) (by rw[←jl];exact hp)) ?_
 rw[←jl]
 by_cases pZ:512<(an L (sn n.E) n.st (i+1)).length
 ·rw[af pZ]
  refine bT (bN (by rw[lF];omega)) ?_
  rfl
 ·rw[ag pZ]
  refine bF (db (by rw[lF];omega)) ?_
  refine bT (cap (by simp;omega) (by omega)) ?_
  refine bs (aiY h hq) ?_
  refine bT (cap (by simp;omega) (by omega)) ?_
  rw[cy (by omega)]
  rfl
theorem ai0 (hn: ¬gN n L S): ∃X,CC wv (nV L::uV n.st:: .list eW (tV n L S)::kO n [])=some ([nV L,nV 0,.int .i64 0,.list eW (tV n L S)]++(kO n []++[.list aC (fg n L S).cZ,.list aG (fg n L S).cS,X])):=by
 have h6:=h.l6
 have b6:=h.st
 have zA:=h.pow
 have hd:(an L (sn n.E) n.st (2^S)).length≤2^S:=w5 h _
 have hle: ∀i,(an L (sn n.E) n.st i).length≤(eC n L S).length:=Yw hd
 have ai1:(eC n L S).length≤512:=by unfold gN at hn;omega
 refine ⟨.list ct (U1 (eC n L S)),YG ?_⟩
 unfold Pz
 refine bs (YI (x:=n.st) (by omega)) ?_
 have key:Loop (zz CC (L:Int) 0 0 (L:Int) 0 ([]:List V) ([]:List V)) (0,tV n L S,n.L,n.S,(n.st:Int),(n.fin:Int),n.E.map Ed.enc,U1 [n.st],uM [n.st],([]:List V),([]:List V))=
   some (.inr (((eC n L S).length:Int),false,tV n L S,n.L,n.S,(n.st:Int),(n.fin:Int),n.E.map Ed.enc,U1 (eC n L S),uM (eC n L S),(fg n L S).cZ,(fg n L S).cS)):=by
  refine (eY (eC n L S).length (fun i=>((i:Int),tV n L S,n.L,n.S,(n.st:Int),(n.fin:Int),n.E.map Ed.enc,U1 (an L (sn n.E) n.st i),uM (an L (sn n.E) n.st i),(tab i fun j=>V.bool ((fg n L S).fin j)),(tab i fun j=>gb L ((fg n L S).nx j)))) _ (fun i hi=> ?_) ?_)
  ·have fY:=zb hd hi
   have hiK:i<2^S:=gy hi hd
   have wU:(an L (sn n.E) n.st i)[i]=(eC n L S)[i]:=(lH (show i≤2^S by omega)).getElem fY
   have ai2:=hle (i+1)
   have ai3:=hle i
   have:=PD h fY (by omega) (U:=eC n L S) (lH (by omega)) (l1:=[]) (l2:=[]) (l3:=(tab i fun j=>V.bool ((fg n L S).fin j))) (l4:=(tab i fun j=>gb L ((fg n L S).nx j))) (by rw[dI];omega) (by rw[dI];omega)
   rw[ag (by omega),wU] at this
   rw[this,ki,ki]
   have e1:(fg n L S).fin i=sf n.fin (eC n L S)[i]:=CW hi
   have e2:gb L ((fg n L S).nx i)= .list bt (tab L fun x=>nV ((eC n L S).idxOf (sn n.E (eC n L S)[i] x))):=by
    unfold gb
    refine congrArg _ (eX fun x hx=> ?_)
    rw[show (fg n L S).nx i x=_ from wM hi hx];rfl
   rw[e1,e2]
  ·simp only[zz,DL,un]
   rw[show an L (sn n.E) n.st (eC n L S).length=eC n L S from CX hd,lF]
   refine bF (bq (ax _)) ?_
   rw[bq (ax _)]
   have e3:(fg n L S).n=(eC n L S).length:=mi
   unfold Da.cZ Da.cS
   rw[e3];rfl
 refine bs key ?_
 rfl
theorem ai4 (hn:gN n L S): ∃X,CC wv (nV L::uV n.st:: .list eW (tV n L S)::kO n [])=some ([nV 0,nV 0,.int .i64 3,.list eW (tV n L S)]++(kO n []++[.list aC [],.list aG [],X])):=by
 have h6:=h.l6
 have b6:=h.st
 have zA:=h.pow
 obtain ⟨m,hm1,pO,hm3⟩:=Yy (Yx (show 512<(an L (sn n.E) n.st (2^S)).length from hn)) (by omega)
 refine ⟨.list ct [],YG ?_⟩
 unfold Pz
 refine bs (YI (x:=n.st) (by omega)) ?_
 have key: ∃r,Loop (zz CC (L:Int) 0 0 (L:Int) 0 ([]:List V) ([]:List V)) (0,tV n L S,n.L,n.S,(n.st:Int),(n.fin:Int),n.E.map Ed.enc,U1 [n.st],uM [n.st],([]:List V),([]:List V))=some r∧r=(.inl (3,tV n L S,n.L,n.S,(n.st:Int),(n.fin:Int),n.E.map Ed.enc,0,0,[],[],[])):=by
  refine ze (fun i st=> ∃l3 l4:List V,l3.length=i∧l4.length=i∧st=((i:Int),tV n L S,n.L,n.S,(n.st:Int),(n.fin:Int),n.E.map Ed.enc,U1 (an L (sn n.E) n.st i),uM (an L (sn n.E) n.st i),l3,l4)) _ m 0 _ (fun i _ hi st b6=> ?_) (fun st b6=> ?_) ⟨[],[],rfl,rfl,rfl⟩
  ·obtain ⟨l3,l4,e3,e4,rfl⟩:=b6
   obtain ⟨h1,h2⟩:=pO i (by omega)
   have h3:=(pO (i+1) (by omega)).2
   have:=PD h h1 h2 (np _) (l1:=[]) (l2:=[]) (l3:=l3) (l4:=l4) (by omega) (by omega)
   rw[ag (by omega)] at this
   exact ⟨_,this,_,_,by simp[e3],by simp[e4],rfl⟩
  ·obtain ⟨l3,l4,e3,e4,rfl⟩:=b6
   rw[eh] at*
   obtain ⟨h1,h2⟩:=pO m (by omega)
   have:=PD h h1 h2 (np _) (l1:=[]) (l2:=[]) (l3:=l3) (l4:=l4) (by omega) (by omega)
   rw[af (by omega)] at this
   exact ⟨_,this,rfl⟩
 obtain ⟨r,h1,rfl⟩:=key
 refine bs h1 ?_
 rfl
theorem ai5 (hn: ¬gN n L S): ∃X,CC Ce (kO n [])=some (Jj (fg n L S) 0 (.list ct X)):=by
 obtain ⟨X,hX⟩:=ai0 h hn
 refine ⟨X.toList,YH ?_⟩
 unfold PC
 have hv:=WB n h.ok
 rw[h.code] at hv
 refine bs hv (bF rfl ?_)
 have hs:=Xb n h.ok h.good
 rw[h.lL,h.sS] at hs
 refine bs hs ?_
 refine bs ((congrArg (fun z=>CC wv (.int .i64 z::uV n.st:: .list eW (tV n L S)::kO n [])) h.hL).trans hX) ?_
 rfl
theorem ai6 (hn:gN n L S): ∃X,CC Ce (kO n [])=some (Jj zD 3 (.list ct X)):=by
 obtain ⟨X,hX⟩:=ai4 h hn
 refine ⟨X.toList,YH ?_⟩
 unfold PC
 have hv:=WB n h.ok
 rw[h.code] at hv
 refine bs hv (bF rfl ?_)
 have hs:=Xb n h.ok h.good
 rw[h.lL,h.sS] at hs
 refine bs hs ?_
 refine bs ((congrArg (fun z=>CC wv (.int .i64 z::uV n.st:: .list eW (tV n L S)::kO n [])) h.hL).trans hX) ?_
 rfl
theorem w6 (hn: ¬gN n L S):(fg n L S).Ok:=by
 unfold gN at hn
 exact Xo (w5 h _) h.l1 h.l6 (show (eC n L S).length≤512 by omega)
theorem ai7 {w:List Nat} (hw:WL L w):(fg n L S).acc 0 w=sf n.fin (w.foldl (sn n.E) n.st):=by
 have h1:=Xn (fin:=sf n.fin) (w5 h _) (CU _) hw
 have h2:=Xl (L:=L) (next:=sn n.E) (a0:=n.st) (2^S)
 rw[bM (CU _)] at h2
 rw[dr h2] at h1
 exact h1
end
noncomputable abbrev Jk:Code:=cJ Tryd.prog (au.bc 107)
noncomputable def zB (C:ae) (i aZ bp:Int) (bA bu:List V) (x:Int) (ed n9 nh:List V) {β:Type} (kn:(Int × (List V) × (List V) × (List V))→Option β) (kr:(Int × Bool × (List V) × (List V) × (List V))→Option β):Option β:=
 bif decide ((x:Int)<aZ) then
  bif (decide (0≤i))&&(decide (i<(ed.length:Int))) then
  (ed[(i:Int).toNat]?).bind fun x2=>
  (idx bu x2.toInt).bind fun x3=>
  (idx x3.toList x).bind fun x4=>
  bif (decide (0≤x4.toInt))&&(decide (x4.toInt<(nh.length:Int))) then
   (nh[(x4.toInt:Int).toNat]?).bind fun x5=>
   bif !x5.toBool then
   bif (decide (0≤x4.toInt))&&(decide (x4.toInt<(nh.length:Int))) then
    (nh[(x4.toInt:Int).toNat]?).bind fun x6=>
    bif Nat.ble ((ed.length+([.int .i64 x4.toInt]:List V).length)*8) bP then
    bif (decide (0≤i))&&(decide (i<(n9.length:Int))) then
     (n9[(i:Int).toNat]?).bind fun x7=>
     bif Nat.ble (x7.toStr.length+(jZ ([.int .u8 (IntKind.wrap .u8 (IntKind.wrap .i64 (97+x)))]:List V)).length) vj then
     bif Nat.ble ((n9.length+([.str (x7.toStr++(jZ ([.int .u8 (IntKind.wrap .u8 (IntKind.wrap .i64 (97+x)))]:List V)))]:List V).length)*16) bP then
      kn (IntKind.wrap .i64 (x+1),ed++([.int .i64 x4.toInt]:List V),n9++([.str (x7.toStr++(jZ ([.int .u8 (IntKind.wrap .u8 (IntKind.wrap .i64 (97+x)))]:List V)))]:List V),nh.set ((x4.toInt:Int).toNat) (.bool true))
     else none
     else none
    else none
    else none
   else none
   else
   kn (IntKind.wrap .i64 (x+1),ed,n9,nh)
  else none
  else none
 else
  kr (x,decide ((x:Int)<aZ),ed,n9,nh)
noncomputable def DO (C:ae) (i aZ bp:Int) (bA bu:List V):(Int × (List V) × (List V) × (List V))→Option ((Int × (List V) × (List V) × (List V)) ⊕ (Int × Bool × (List V) × (List V) × (List V))):=un fun x=>un fun ed=>un fun n9 nh=>zB C i aZ bp bA bu x ed n9 nh (fun y=>some (.inl y)) (fun r=>some (.inr r))
noncomputable def DP (C:ae) (aZ bp:Int) (bA bu:List V) (i:Int) (ed n9 nh:List V) {β:Type} (kn:(Int × (List V) × (List V) × (List V))→Option β) (kr:(Int × Bool × (List V) × (List V) × (List V))→Option β):Option β:=
 bif decide ((i:Int)<(ed.length:Int)) then
  (Loop (DO C i aZ bp bA bu) (0,ed,n9,nh)).bind (un fun (x_8:Int)=>un fun (tc:Bool)=>un fun (ai8:List V)=>un fun (ai9:List V) (aja:List V)=>
   kn (IntKind.wrap .i64 (i+1),ai8,ai9,aja))
 else
  kr (i,decide ((i:Int)<(ed.length:Int)),ed,n9,nh)
noncomputable def Jl (C:ae) (aZ bp:Int) (bA bu:List V):(Int × (List V) × (List V) × (List V))→Option ((Int × (List V) × (List V) × (List V)) ⊕ (Int × Bool × (List V) × (List V) × (List V))):=un fun i=>un fun ed=>un fun n9 nh=>DP C aZ bp bA bu i ed n9 nh (fun y=>some (.inl y)) (fun r=>some (.inr r))
noncomputable def YK (C:ae):cD:=fun β n ds k=>
 bif Nat.beq n 129 then bz NY [false,true,false,false,false,false,true,true,true] [[1,0,0,3,4,5,6,0,0,0]] (@zB C) ds k else
 bif Nat.beq n 81 then bz NZ [true,false,false,false,false,true,true,true] [[0,0,2,3,4,5,0,0,0]] (@DP C) ds k else
 none
abbrev YL (C:ae) (b:cB):Prop:=cC Tryd.prog au C (YK C) 107 (cQ Tryd.prog (au.bc 107)) (au.sin 107).bj.length b
theorem ajb (C:ae):YL C (.loop (ao [1,1,1,1,0,1,0,0,1,0,0,1,0,0] Jk)):=
 bC NY [false,true,false,false,false,false,true,true,true] [[1,0,0,3,4,5,6,0,0,0]] (@zB C) (by kernel_rfl) (aW (bs:=[]) (by kernel_rfl) ar) (fun ds=>by kernel_rfl) (fun i x=>by kernel_rfl) (fun i x β k=>by kernel_rfl) (fun β ds k=>by kernel_rfl)
theorem ajc (C:ae):YL C (.loop (ao [1,1,1,1,0,1,0,0] Jk)):=
 bC NZ [true,false,false,false,false,true,true,true] [[0,0,2,3,4,5,0,0,0]] (@DP C) (by kernel_rfl) (aW (bs:=[.loop (ao [1,1,1,1,0,1,0,0,1,0,0,1,0,0] Jk)]) (by kernel_rfl) (bm (ajb C) ar)) (fun ds=>by kernel_rfl) (fun i x=>by kernel_rfl) (fun i x β k=>by kernel_rfl) (fun β ds k=>by kernel_rfl)
noncomputable def YM (C:ae) (aK aO:Int) (aD aT:List V):Option (List V):=
 bif (decide (0≤(aD.length:Int)))&&((decide ((aD.length:Int)≤(aD.length:Int)))&&(Nat.ble ((((aD.length:Int):Int).toNat)*1) bP)) then
  bif (decide (0≤aO))&&(decide (aO<((List.replicate (((aD.length:Int):Int).toNat) (V.bool false)).length:Int))) then
  ((List.replicate (((aD.length:Int):Int).toNat) (V.bool false))[(aO:Int).toNat]?).bind fun x1=>
  (Loop (Jl C aK aO aD aT) (0,([.int .i64 aO]:List V),([.str []]:List V),(List.replicate (((aD.length:Int):Int).toNat) (V.bool false)).set ((aO:Int).toNat) (.bool true))).bind (un fun (aoj:Int)=>un fun (CR:Bool)=>un fun (ajd:List V)=>un fun (aje:List V) (aok:List V)=>
   some [.list bt ajd,.list jM aje])
  else none
 else none
theorem ajf {aK aO:Int} {aD aT:List V} {r:Option (List V)} (h:YM CC aK aO aD aT=r):CC HI [.int .i64 aK,.int .i64 aO,.list aC aD,.list aG aT]=r:=
 bD (key:=107) (L:=YK CC) (bs:=[.loop (ao [1,1,1,1,0,1,0,0] Jk)]) (by kernel_rfl) (bm (ajc CC) ar) (bB (by kernel_rfl) h)
noncomputable abbrev uJ:Code:=cJ Tryd.prog (au.bc 85)
noncomputable def DQ (C:ae) (t26 aZ bp:Int) (bA bu:List V) (cg ch:Int) (ed bY bO:List V) (t27:Int) (places:List V) {β:Type} (kn:(Int × (List V))→Option β) (kr:(Int × Bool × (List V))→Option β):Option β:=
 bif decide ((t27:Int)<t26) then
  bif (decide (0≤t27))&&(decide (t27<(places.length:Int))) then
  (places[(t27:Int).toNat]?).bind fun x2=>
  kn (IntKind.wrap .i64 (t27+1),places.set ((t27:Int).toNat) (.int .i64 (-1)))
  else none
 else
  kr (t27,decide ((t27:Int)<t26),places)
noncomputable def Jm (C:ae) (t26 aZ bp:Int) (bA bu:List V) (cg ch:Int) (ed bY bO:List V):(Int × (List V))→Option ((Int × (List V)) ⊕ (Int × Bool × (List V))):=un fun t27 places=>DQ C t26 aZ bp bA bu cg ch ed bY bO t27 places (fun y=>some (.inl y)) (fun r=>some (.inr r))
noncomputable def DR (C:ae) (t35 aZ bp:Int) (bA bu:List V) (cg ch:Int) (ed bY bO:List V) (t36:Int) (places:List V) {β:Type} (kn:(Int × (List V))→Option β) (kr:(Int × Bool × (List V))→Option β):Option β:=
 bif decide ((t36:Int)<t35) then
  bif (decide (0≤t36))&&(decide (t36<(ed.length:Int))) then
  (ed[(t36:Int).toNat]?).bind fun x6=>
  bif (decide (0≤x6.toInt))&&(decide (x6.toInt<(places.length:Int))) then
   (places[(x6.toInt:Int).toNat]?).bind fun x7=>
   kn (IntKind.wrap .i64 (t36+1),places.set ((x6.toInt:Int).toNat) (.int .i64 t36))
  else none
  else none
 else
  kr (t36,decide ((t36:Int)<t35),places)
noncomputable def Jn (C:ae) (t35 aZ bp:Int) (bA bu:List V) (cg ch:Int) (ed bY bO:List V):(Int × (List V))→Option ((Int × (List V)) ⊕ (Int × Bool × (List V))):=un fun t36 places=>DR C t35 aZ bp bA bu cg ch ed bY bO t36 places (fun y=>some (.inl y)) (fun r=>some (.inr r))
noncomputable def DS (C:ae) (q t50 t51:Int) (t59:List V) (t60 aZ bp:Int) (bA bu:List V) (cg ch:Int) (places:List V) (iy iz:Int) (uK bw bh cj dL:List V) (t61:Int) (rows:List V) {β:Type} (kn:(Int × (List V))→Option β) (kr:(Int × Bool × (List V))→Option β):Option β:=
 bif decide ((t61:Int)<t60) then
  (idx t59 t61).bind fun gO=>
  bif (decide (0≤gO.toInt))&&(decide (gO.toInt<(places.length:Int))) then
  (places[(gO.toInt:Int).toNat]?).bind fun kQ=>
  bif Nat.ble ((rows.length+([.int .i64 kQ.toInt]:List V).length)*8) bP then
   kn (IntKind.wrap .i64 (t61+1),rows++([.int .i64 kQ.toInt]:List V))
  else none
  else none
 else
  kr (t61,decide ((t61:Int)<t60),rows)
noncomputable def Jo (C:ae) (q t50 t51:Int) (t59:List V) (t60 aZ bp:Int) (bA bu:List V) (cg ch:Int) (places:List V) (iy iz:Int) (uK bw bh cj dL:List V):(Int × (List V))→Option ((Int × (List V)) ⊕ (Int × Bool × (List V))):=un fun t61 rows=>DS C q t50 t51 t59 t60 aZ bp bA bu cg ch places iy iz uK bw bh cj dL t61 rows (fun y=>some (.inl y)) (fun r=>some (.inr r))
noncomputable def DT (C:ae) (t50 aZ bp:Int) (bA bu:List V) (cg ch:Int) (places:List V) (iy iz:Int) (uK bO bw:List V) (t51:Int) (bh cj:List V) {β:Type} (kn:(Int × (List V) × (List V))→Option β) (kr:(Int × Bool × (List V) × (List V))→Option β):Option β:=
 bif decide ((t51:Int)<t50) then
  bif (decide (0≤t51))&&(decide (t51<(uK.length:Int))) then
  (uK[(t51:Int).toNat]?).bind fun fH=>
  (idx bu fH.toInt).bind fun lG=>
  (Loop (Jo C fH.toInt t50 t51 lG.toList (lG.toList.length:Int) aZ bp bA bu cg ch places iy iz uK bO bw bh cj) (0,([]:List V))).bind (un fun (YN:Int)=>un fun (Dg:Bool) (YO:List V)=>
   bif Nat.ble ((cj.length+([.list bt YO]:List V).length)*24) bP then
    (idx bA fH.toInt).bind fun zt=>
    bif Nat.ble ((bh.length+([.bool zt.toBool]:List V).length)*1) bP then
    kn (IntKind.wrap .i64 (t51+1),bh++([.bool zt.toBool]:List V),cj++([.list bt YO]:List V))
    else none
   else none)
  else none
 else
  kr (t51,decide ((t51:Int)<t50),bh,cj)
noncomputable def Jp (C:ae) (t50 aZ bp:Int) (bA bu:List V) (cg ch:Int) (places:List V) (iy iz:Int) (uK bO bw:List V):(Int × (List V) × (List V))→Option ((Int × (List V) × (List V)) ⊕ (Int × Bool × (List V) × (List V))):=un fun t51=>un fun bh cj=>DT C t50 aZ bp bA bu cg ch places iy iz uK bO bw t51 bh cj (fun y=>some (.inl y)) (fun r=>some (.inr r))
noncomputable def YP (C:ae):cD:=fun β n ds k=>
 bif Nat.beq n 65 then bz NC [false,true,false,false,false,false,false,false,false,true,false,false] [[1,0,0,3,4,5,6,7,8,9,0,11,12]] (@DQ C) ds k else
 bif Nat.beq n 145 then bz ND [false,true,false,false,false,false,false,false,false,true,false,false] [[1,0,0,3,4,5,6,7,8,9,0,11,12]] (@DR C) ds k else
 bif Nat.beq n 305 then bz NF [false,false,false,false,false,true,false,false,false,false,false,false,false,false,false,true,false,false,false,false,false] [[1,2,3,4,5,0,0,7,8,9,10,11,12,13,14,15,0,17,18,19,20,21]] (@DS C) ds k else
 bif Nat.beq n 241 then bz NG [false,true,false,false,false,false,false,false,false,false,false,false,false,false,true,true] [[1,0,0,3,4,5,6,7,8,9,10,11,12,13,14,0,0]] (@DT C) ds k else
 none
abbrev Jq (C:ae) (b:cB):Prop:=cC Tryd.prog au C (YP C) 85 (cQ Tryd.prog (au.bc 85)) (au.sin 85).bj.length b
theorem ajg (C:ae):Jq C (.loop (ao [1,1,1,0,1,0,0] uJ)):=
 bC NC [false,true,false,false,false,false,false,false,false,true,false,false] [[1,0,0,3,4,5,6,7,8,9,0,11,12]] (@DQ C) (by kernel_rfl) (aW (bs:=[]) (by kernel_rfl) ar) (fun ds=>by kernel_rfl) (fun i x=>by kernel_rfl) (fun i x β k=>by kernel_rfl) (fun β ds k=>by kernel_rfl)
theorem ajh (C:ae):Jq C (.loop (ao [1,1,1,1,0,1,0,0] uJ)):=
 bC ND [false,true,false,false,false,false,false,false,false,true,false,false] [[1,0,0,3,4,5,6,7,8,9,0,11,12]] (@DR C) (by kernel_rfl) (aW (bs:=[]) (by kernel_rfl) ar) (fun ds=>by kernel_rfl) (fun i x=>by kernel_rfl) (fun i x β k=>by kernel_rfl) (fun β ds k=>by kernel_rfl)
theorem aji (C:ae):Jq C (.loop (ao [1,1,1,1,1,1,0,1,0,0,1,1,0,0,1,1,0,1,0,0] uJ)):=
 bC NF [false,false,false,false,false,true,false,false,false,false,false,false,false,false,false,true,false,false,false,false,false] [[1,2,3,4,5,0,0,7,8,9,10,11,12,13,14,15,0,17,18,19,20,21]] (@DS C) (by kernel_rfl) (aW (bs:=[]) (by kernel_rfl) ar) (fun ds=>by kernel_rfl) (fun i x=>by kernel_rfl) (fun i x β k=>by kernel_rfl) (fun β ds k=>by kernel_rfl)
theorem ajj (C:ae):Jq C (.loop (ao [1,1,1,1,1,1,0,1,0,0] uJ)):=
 bC NG [false,true,false,false,false,false,false,false,false,false,false,false,false,false,true,true] [[1,0,0,3,4,5,6,7,8,9,10,11,12,13,14,0,0]] (@DT C) (by kernel_rfl) (aW (bs:=[.loop (ao [1,1,1,1,1,1,0,1,0,0,1,1,0,0,1,1,0,1,0,0] uJ)]) (by kernel_rfl) (bm (aji C) ar)) (fun ds=>by kernel_rfl) (fun i x=>by kernel_rfl) (fun i x β k=>by kernel_rfl) (fun β ds k=>by kernel_rfl)
noncomputable def YQ (C:ae) (aK aO:Int) (aD aT:List V):Option (List V):=
 (C HI [.int .i64 aK,.int .i64 aO,.list aC aD,.list aG aT]).bind fun r1=>
 bif (decide (0≤(aD.length:Int)))&&((decide ((aD.length:Int)≤(aD.length:Int)))&&(Nat.ble ((((aD.length:Int):Int).toNat)*8) bP)) then
  (Loop (Jm C ((List.replicate (((aD.length:Int):Int).toNat) (V.int .i64 0)).length:Int) aK aO aD aT 0 0 ((V.nth r1 0).toList) ([]:List V) ([]:List V)) (0,List.replicate (((aD.length:Int):Int).toNat) (V.int .i64 0))).bind (un fun (lC:Int)=>un fun (jr:Bool) (ajk:List V)=>
   (Loop (Jn C (((V.nth r1 0).toList).length:Int) aK aO aD aT 0 0 ((V.nth r1 0).toList) ([]:List V) ([]:List V)) (0,ajk)).bind (un fun (qe:Int)=>un fun (tc:Bool) (YR:List V)=>
    (Loop (Jp C (((V.nth r1 0).toList).length:Int) aK aO aD aT 0 0 YR aK 0 ((V.nth r1 0).toList) ([]:List V) ([]:List V)) (0,([]:List V),([]:List V))).bind (un fun (ajl:Int)=>un fun (YS:Bool)=>un fun (PE:List V) (PB:List V)=>
     some [.int .i64 aK,.int .i64 0,.list aC PE,.list aG PB,.list bt YR])))
 else none
theorem ajm {aK aO:Int} {aD aT:List V} {r:Option (List V)} (h:YQ CC aK aO aD aT=r):CC Hy [.int .i64 aK,.int .i64 aO,.list aC aD,.list aG aT]=r:=
 bD (key:=85) (L:=YP CC) (bs:=[.loop (ao [1,1,1,0,1,0,0] uJ),.loop (ao [1,1,1,1,0,1,0,0] uJ),.loop (ao [1,1,1,1,1,1,0,1,0,0] uJ)]) (by kernel_rfl) (bm (ajg CC) (bm (ajh CC) (bm (ajj CC) ar))) (bB (by kernel_rfl) h)
def qn (n:Nat) (S:List Nat):List V:=tab n fun q=>V.bool (decide (q∈S))
def Jr (S:List Nat) (ws:List (List UInt8)):Prop:=ws.length=S.length∧∀j (hj:j<ws.length),ws[j].length≤j
section
variable {a:Da} (h:a.Ok)
include h
theorem ajn {S:List Nat} {i:Nat} (hi:i<S.length) (hS: ∀s∈S,s<a.n) (hSn:S.length≤1000) {ws:List (List UInt8)} (hw:Jr S ws) {l2:List V} {c1:Int}:
  ∃r,Loop (DO CC (i:Int) (a.L:Int) c1 l2 a.cS) (0,nS S,ws.map V.str,qn a.n S)=some r∧∃gP,r=((a.L:Int),false,nS (bf a.nx S S[i] a.L),List.map V.str gP,qn a.n (bf a.nx S S[i] a.L))∧Jr (bf a.nx S S[i] a.L) gP:=by
 have h6:=h.l6
 have hq:=hS _ (eQ hi)
 have hlen: ∀x,(bf a.nx S S[i] x).length≤S.length+x:=by
  intro x
  induction x with
  | zero=>exact ax _
  | succ x ih=>rw[bf,qh];split<;>omega
 refine ze (fun x st=> ∃gP,st=((x:Int),nS (bf a.nx S S[i] x),List.map V.str gP,qn a.n (bf a.nx S S[i] x))∧Jr (bf a.nx S S[i] x) gP) _ a.L 0 _ (fun x _ hx st b6=> ?_) (fun st b6=> ?_) ⟨ws,rfl,hw⟩
 ·obtain ⟨gP,rfl,kJ⟩:=b6
  rw[eh] at hx
  have hT:=hlen x
  have qo:=CS (next:=a.nx) S S[i] x
  have PF:i<(bf a.nx S S[i] x).length:=gy hi qo.length_le
  have zC:(bf a.nx S S[i] x)[i]=S[i]:=(qo.getElem hi).symm
  have uh:=h.fP hq hx
  have hm:=h.fO
  by_cases lY:a.nx S[i] x∈bf a.nx S S[i] x
  ·have e:bf a.nx S S[i] (x+1)=bf a.nx S S[i] x:=by rw[bf];unfold dh;rw[af lY]
   refine ⟨_,?_,gP,rfl,by rw[e];exact kJ⟩
   simp only[DO,zB,un]
   refine bT (cU hx) ?_
   refine (qj (zk PF)).trans ?_
   rw[zC]
   refine bs (Da.nW hq) ?_
   simp only[pc]
   refine bs (qk hx) ?_
   refine (e9 (i:=a.nx S[i] x) uh).trans ?_
   refine bF (by simp[lY]) ?_
   rw[cy (by omega),e]
  ·have e:bf a.nx S S[i] (x+1)=bf a.nx S S[i] x++[a.nx S[i] x]:=by rw[bf];unfold dh;rw[ag lY]
   have YT:i<gP.length:=by rw[kJ.1];exact PF
   have hwi:=kJ.2 i YT
   refine ⟨(((x+1:Nat):Int),nS (bf a.nx S S[i] (x+1)),List.map V.str (gP++[gP[i]++jZ [.int .u8 (IntKind.wrap .u8 (IntKind.wrap .i64 (97+(x:Int))))]]),qn a.n (bf a.nx S S[i] (x+1))),?_,_,rfl,?_⟩
   ·simp only[DO,zB,un]
    refine bT (cU hx) ?_
    refine (qj (zk PF)).trans ?_
    rw[zC]
    refine bs (Da.nW hq) ?_
    simp only[pc]
    refine bs (qk hx) ?_
    refine (e9 (i:=a.nx S[i] x) uh).trans ?_
    refine bT (by simp[lY]) ?_
    refine (e9 (i:=a.nx S[i] x) uh).trans ?_
    refine bT (cap (by rw[qm];simp;omega) (by omega)) ?_
    refine (qj (v:= .str gP[i]) (by simp[YT])).trans ?_
    refine bT (by
     rw[fy]
     simp only[V.toStr,jZ,cb,List.length_cons,List.length_nil,vj]
     omega) ?_
    refine bT (cap (by rw[cb,kJ.1];simp;omega) (by omega)) ?_
    rw[cy (by omega),e]
    refine congrArg (fun x=>some (Sum.inl x)) (iE rfl (iE ?_ (iE ?_ ?_)))
    ·simp[nS,nV]
    ·simp[V.toStr]
    ·show (qn a.n (bf a.nx S S[i] x)).set _ _=qn a.n _
     unfold qn
     rw[V.toInt_int,Int.toNat_natCast,o7]
     refine eX fun j _=> ?_
     by_cases hj:j=a.nx S[i] x
     ·rw[af hj,bN (by rw[hj];simp)]
     ·rw[ag hj]
      congr 1
      rw[Az,eP,gX]
      exact ⟨.inl,fun h=>h.resolve_right hj⟩
   ·rw[e]
    refine ⟨by simp[kJ.1],fun j hj=> ?_⟩
    rw[dd,List.length_singleton] at hj
    rcases eg j gP.length with c|c
    ·rw[List.getElem_append_left c];exact kJ.2 j c
    ·rw[List.getElem_append_right c]
     simp only[List.getElem_singleton,dd,jZ,cb,List.length_cons,List.length_nil]
     omega
 ·obtain ⟨gP,rfl,kJ⟩:=b6
  rw[eh] at*
  refine ⟨_,?_,gP,rfl,kJ⟩
  simp only[DO,zB,un]
  refine bF (bq (ax _)) ?_
  rw[bq (ax _)]
theorem ajo: ∃W,CC HI (dK a)=some [.list bt (nS (an a.L a.nx a.st a.n)),W]:=by
 have hm:=h.fO
 have hd:=h.nR a.n
 have key: ∃r,Loop (Jl CC (a.L:Int) (a.st:Int) a.cZ a.cS) (0,nS [a.st],[[]].map V.str,qn a.n [a.st])=some r∧∃gP,r=(((an a.L a.nx a.st a.n).length:Int),false,nS (an a.L a.nx a.st a.n),List.map V.str gP,qn a.n (an a.L a.nx a.st a.n)):=by
  refine ze (fun i st=> ∃gP,st=((i:Int),nS (an a.L a.nx a.st i),List.map V.str gP,qn a.n (an a.L a.nx a.st i))∧Jr (an a.L a.nx a.st i) gP) _ (an a.L a.nx a.st a.n).length 0 _ (fun i _ hi st b6=> ?_) (fun st b6=> ?_) ⟨[[]],rfl,⟨rfl,fun j hj=>by simp at hj;subst hj;simp⟩⟩
  ·obtain ⟨gP,rfl,kJ⟩:=b6
   rw[eh] at hi
   have fY:=zb hd hi
   have wU:(an a.L a.nx a.st i)[i]=(an a.L a.nx a.st a.n)[i]:=(lH (show i≤a.n by omega)).getElem fY
   have hlen:(an a.L a.nx a.st i).length≤512:=jT (h.nR i) hm
   have jl:=zc hd hi
   obtain ⟨r,h1,ws2,rfl,h3⟩:=ajn h fY (h.wP i) (by omega) kJ (l2:=a.cZ) (c1:=(a.st:Int))
   rw[wU,←jl] at h1 h3
   refine ⟨_,?_,ws2,rfl,h3⟩
   simp only[Jl,DP,un]
   refine bT (bN (by rw[qm];omega)) ?_
   refine bs h1 ?_
   rw[cy (by omega)]
   rfl
  ·obtain ⟨gP,rfl,kJ⟩:=b6
   rw[eh,CX hd] at*
   refine ⟨_,?_,gP,rfl⟩
   simp only[Jl,DP,un]
   rw[qm]
   refine bF (bq (ax _)) ?_
   rw[bq (ax _)]
 obtain ⟨r,h1,gP,rfl⟩:=key
 refine ⟨.list jM (gP.map V.str),ajf ?_⟩
 unfold YM
 rw[Da.pb,Int.toNat_natCast,o8]
 refine bT (by have:=nU (n:=a.n) (m:=1) (by omega) (by omega);rwa [Int.toNat_natCast] at this) ?_
 refine (e9 (i:=a.st) h.s).trans ?_
 have e:(tab a.n fun _=>V.bool false).set (((a.st:Nat):Int).toNat) (.bool true)=qn a.n [a.st]:=by
  rw[Int.toNat_natCast,o7]
  refine eX fun j _=> ?_
  by_cases hj:j=a.st
  ·rw[af hj,bN (by rw[hj];simp)]
  ·rw[ag hj,db (by simpa using hj)]
 rw[e]
 refine bs h1 ?_
 rfl
theorem ajp {q:Nat} (hq:q<a.n) (hU: ∀x,x<a.L→a.nx q x∈an a.L a.nx a.st a.n) {c1 c2 c3 c4 c5 c6 c7 c8 c9:Int} {l1 l2 l3 l4 l5 l6 l7:List V}:
  Loop (Jo CC c1 c2 c3 (tab a.L fun x=>iV (a.nx q x)) ((tab a.L fun x=>iV (a.nx q x)).length:Int) c4 c5 l1 l2 c6 c7 (jO (an a.L a.nx a.st a.n) a.n) c8 c9 l3 l4 l5 l6 l7) (0,([]:List V))=
   some ((a.L:Int),false,tab a.L fun x=>nV ((an a.L a.nx a.st a.n).idxOf (a.nx q x))):=by
 have h6:=h.l6
 rw[dI]
 refine (eY a.L (fun t=>((t:Int),(tab t fun x=>nV ((an a.L a.nx a.st a.n).idxOf (a.nx q x))))) _ (fun t ht=> ?_) ?_)
 ·simp only[Jo,DS,un]
  refine bT (cU ht) ?_
  refine bs (qk ht) ?_
  refine (e9 (i:=a.nx q t) (h.fP hq ht)).trans ?_
  refine bT (cap (by rw[dI];simp;omega) (by omega)) ?_
  rw[cy (by omega),af (hU t ht),ki]
  rfl
 ·simp only[Jo,DS,un]
  refine bF (bq (ax _)) ?_
  rw[bq (ax _)]
theorem ajq:CC Hy (dK a)=some (dK a.trim++[.list bt (jO (an a.L a.nx a.st a.n) a.n)]):=by
 have h6:=h.l6
 have hm:=h.fO
 have hU:=h.wP a.n
 have hle:=h.nR a.n
 obtain ⟨W,hW⟩:=ajo h
 refine ajm ?_
 unfold YQ
 refine bs hW ?_
 rw[Da.pb]
 refine bT (nU (by omega) (by omega)) ?_
 rw[Int.toNat_natCast,o8,dI]
 have row:=fun {q:Nat} (hq:q<a.n) hU=> @ajp a h q hq hU
 have e1: ∀{i:Nat} (hi:i<(an a.L a.nx a.st a.n).length),a.trim.fin i=a.fin (an a.L a.nx a.st a.n)[i]:=fun hi=>CW hi
 have e2: ∀{i:Nat} (hi:i<(an a.L a.nx a.st a.n).length),gb a.L (a.trim.nx i)= .list bt (tab a.L fun x=>nV ((an a.L a.nx a.st a.n).idxOf (a.nx (an a.L a.nx a.st a.n)[i] x))):=fun hi=>by
  unfold gb
  refine congrArg _ (eX fun x hx=> ?_)
  rw[show a.trim.nx _ x=_ from wM hi hx];rfl
 have e3:a.trim.n=(an a.L a.nx a.st a.n).length:=mi
 have lx: ∀q∈an a.L a.nx a.st a.n,∀x,x<a.L→a.nx q x∈an a.L a.nx a.st a.n:=fun q hq x hx=>O6 hle hq hx
 have Pl:(an a.L a.nx a.st a.n).Nodup:=wL _
 have er:a.trim.cZ=(tab (an a.L a.nx a.st a.n).length fun i=>V.bool (a.trim.fin i)):=by unfold Da.cZ;rw[e3]
 have en:a.trim.cS=(tab (an a.L a.nx a.st a.n).length fun i=>gb a.L (a.trim.nx i)):=by unfold Da.cS;rw[e3];rfl
 have eL:a.trim.L=a.L:=rfl
 unfold dK gd
 rw[er,en,eL]
 generalize an a.L a.nx a.st a.n=U at*
 have l1: ∀{c1 c2 c3 c4:Int} {s1 s2 s3 s4 s5:List V},Loop (Jm CC (a.n:Int) c1 c2 s1 s2 c3 c4 s3 s4 s5) (0,tab a.n fun _=>V.int .i64 0)=some ((a.n:Int),false,tab a.n fun q=>if q∈U.take 0 then nV (U.idxOf q) else V.int .i64 (-1)):=by
  intro c1 c2 c3 c4 s1 s2 s3 s4 s5
  refine (eY a.n (fun i=>((i:Int),(tab a.n fun j=>if j<i then V.int .i64 (-1) else V.int .i64 0))) _ (fun i hi=> ?_) ?_)
  ·simp only[Jm,DQ,un]
   refine bT (cU hi) ?_
   refine (e9 hi).trans ?_
   rw[cy (by omega),Int.toNat_natCast,o7]
   refine congrArg (fun x=>some (Sum.inl (((i+1:Nat):Int),x))) (eX fun j _=> ?_)
   by_cases hj:j=i
   ·rw[af hj,af (by omega)]
   ·rw[ag hj]
    by_cases cp:j<i
    ·rw[af cp,af (by omega)]
    ·rw[ag cp,ag (by omega)]
  ·simp only[Jm,DQ,un]
   refine bF (bq (ax _)) ?_
   rw[bq (ax _)]
   refine congrArg (fun x=>some (Sum.inr ((a.n:Int),false,x))) (eX fun j hj=> ?_)
   rw[af hj,List.take_zero,ag (by simp)]
 refine bs l1 ?_
 simp only[un]
 have l2: ∀{c1 c2 c3 c4:Int} {s1 s2 s3 s4:List V},Loop (Jn CC ((nS U).length:Int) c1 c2 s1 s2 c3 c4 (nS U) s3 s4) (0,tab a.n fun q=>if q∈U.take 0 then nV (U.idxOf q) else V.int .i64 (-1))=some ((U.length:Int),false,jO U a.n):=by
  intro c1 c2 c3 c4 s1 s2 s3 s4
  rw[qm]
  refine (eY U.length (fun i=>((i:Int),(tab a.n fun q=>if q∈U.take i then nV (U.idxOf q) else V.int .i64 (-1)))) _ (fun i hi=> ?_) ?_)
  ·have hq:=hU U[i] (eQ hi)
   simp only[Jn,DR,un]
   refine bT (cU hi) ?_
   refine (qj (zk hi)).trans ?_
   refine (e9 (i:=U[i]) hq).trans ?_
   rw[cy (by omega)]
   refine congrArg (fun x=>some (Sum.inl (((i+1:Nat):Int),x))) ?_
   exact X8 Pl hi
  ·simp only[Jn,DR,un]
   refine bF (bq (ax _)) ?_
   rw[bq (ax _),u7]
   rfl
 refine bs l2 ?_
 have l4: ∀{c1 c2 c3 c4:Int} {s1 s2:List V},Loop (Jp CC ((nS U).length:Int) (a.L:Int) (a.st:Int) a.cZ a.cS c1 c2 (jO U a.n) c3 c4 (nS U) s1 s2) (0,([]:List V),([]:List V))=some ((U.length:Int),false,(tab U.length fun i=>V.bool (a.trim.fin i)),(tab U.length fun i=>gb a.L (a.trim.nx i))):=by
  intro c1 c2 c3 c4 s1 s2
  rw[qm]
  refine (eY U.length (fun i=>((i:Int),(tab i fun i=>V.bool (a.trim.fin i)),(tab i fun i=>gb a.L (a.trim.nx i)))) _ (fun i hi=> ?_) ?_)
  ·have hq:=hU U[i] (eQ hi)
   simp only[Jp,DT,un]
   refine bT (cU hi) ?_
   refine (qj (zk hi)).trans ?_
   refine bs (Da.nW hq) ?_
   simp only[pc]
   refine bs (row hq (lx _ (eQ hi))) ?_
   refine bT (cap (by rw[dI];simp;omega) (by omega)) ?_
   refine bs (Da.uH hq) ?_
   refine bT (cap (by rw[dI];simp;omega) (by omega)) ?_
   rw[cy (by omega),ki,ki,e1 hi,e2 hi]
   rfl
  ·simp only[Jp,DT,un]
   refine bF (bq (ax _)) ?_
   rw[bq (ax _)]
 refine bs l4 ?_
 rfl
end
noncomputable abbrev YU:Code:=cJ Tryd.prog (au.bc 106)
noncomputable def DU (C:ae) (a b':List V) (t12 t13:Int) {β:Type} (kn:Int→Option β) (kr:((Bool) ⊕ (Int × Bool))→Option β):Option β:=
 bif decide ((t13:Int)<t12) then
  (idx a t13).bind fun x1=>
  (idx b' t13).bind fun x2=>
  bif (x1.toInt:Int) != x2.toInt then
  kr (.inl false)
  else
  kn (IntKind.wrap .i64 (t13+1))
 else
  kr (.inr (t13,decide ((t13:Int)<t12)))
noncomputable def PH (C:ae) (a b':List V) (t12:Int):(Int)→Option ((Int) ⊕ ((Bool) ⊕ (Int × Bool))):=fun t13=>DU C a b' t12 t13 (fun y=>some (.inl y)) (fun r=>some (.inr r))
noncomputable def YV (C:ae):cD:=fun β n ds k=>
 bif Nat.beq n 65 then bz NX [false,false,false,true] [[0],[1,2,3,0,0]] (@DU C) ds k else
 none
abbrev ajr (C:ae) (b:cB):Prop:=cC Tryd.prog au C (YV C) 106 (cQ Tryd.prog (au.bc 106)) (au.sin 106).bj.length b
theorem ajs (C:ae):ajr C (.loop (ao [1,1,0,1,0,0] YU)):=
 bC NX [false,false,false,true] [[0],[1,2,3,0,0]] (@DU C) (by kernel_rfl) (aW (bs:=[]) (by kernel_rfl) ar) (fun ds=>by kernel_rfl) (fun i x=>by kernel_rfl) (fun i x β k=>by kernel_rfl) (fun β ds k=>by kernel_rfl)
noncomputable def YW (C:ae) (a b':List V):Option (List V):=
 bif ((a.length:Int):Int) != (b'.length:Int) then
  some [.bool false]
 else
  (Loop (PH C a b' (a.length:Int)) 0).bind (cL (fun (lC:Bool)=>
   some [.bool lC]) (un fun (jr:Int) (lD:Bool)=>
   some [.bool true]))
theorem ajt {a b':List V} {r:Option (List V)} (h:YW CC a b'=r):CC HH [.list bt a,.list bt b']=r:=
 bD (key:=106) (L:=YV CC) (bs:=[.loop (ao [1,1,0,1,0,0] YU)]) (by kernel_rfl) (bm (ajs CC) ar) (bB (by kernel_rfl) h)
noncomputable abbrev YX:Code:=cJ Tryd.prog (au.bc 104)
noncomputable def DV (C:ae) (t13:List V) (t14 t15:Int) (tm outs:List V) {β:Type} (kn:(Int × (List V) × (List V))→Option β) (kr:(Int × Bool × (List V) × (List V))→Option β):Option β:=
 bif decide ((t15:Int)<t14) then
  (idx t13 t15).bind fun x1=>
  bif dp .i64 x1.toInt&&true then
  bif !(gk (.int .i64 x1.toInt) tm) then
   bif dp .i64 x1.toInt&&true then
   bif (decide (0≤t15))&&(decide (t15<(outs.length:Int))) then
    (outs[(t15:Int).toNat]?).bind fun x2=>
    kn (IntKind.wrap .i64 (t15+1),fB (.int .i64 x1.toInt) (.int .i64 (tm.length:Int)) tm,outs.set ((t15:Int).toNat) (.int .i64 (tm.length:Int)))
   else none
   else none
  else
   bif (decide (0≤t15))&&(decide (t15<(outs.length:Int))) then
   (outs[(t15:Int).toNat]?).bind fun x3=>
   kn (IntKind.wrap .i64 (t15+1),tm,outs.set ((t15:Int).toNat) (.int .i64 ((jb (.int .i64 x1.toInt) tm (.int .i64 0)).toInt)))
   else none
  else none
 else
  kr (t15,decide ((t15:Int)<t14),tm,outs)
noncomputable def PI (C:ae) (t13:List V) (t14:Int):(Int × (List V) × (List V))→Option ((Int × (List V) × (List V)) ⊕ (Int × Bool × (List V) × (List V))):=un fun t15=>un fun tm outs=>DV C t13 t14 t15 tm outs (fun y=>some (.inl y)) (fun r=>some (.inr r))
noncomputable def YY (C:ae):cD:=fun β n ds k=>
 bif Nat.beq n 65 then bz NV [false,false,true,true,true] [[1,2,0,0,0,0]] (@DV C) ds k else
 none
abbrev aju (C:ae) (b:cB):Prop:=cC Tryd.prog au C (YY C) 104 (cQ Tryd.prog (au.bc 104)) (au.sin 104).bj.length b
theorem ajv (C:ae):aju C (.loop (ao [1,1,1,0,1,0,0] YX)):=
 bC NV [false,false,true,true,true] [[1,2,0,0,0,0]] (@DV C) (by kernel_rfl) (aW (bs:=[]) (by kernel_rfl) ar) (fun ds=>by kernel_rfl) (fun i x=>by kernel_rfl) (fun i x β k=>by kernel_rfl) (fun β ds k=>by kernel_rfl)
noncomputable def YZ (C:ae) (l:List V):Option (List V):=
 bif (decide (0≤(l.length:Int)))&&((decide ((l.length:Int)≤(l.length:Int)))&&(Nat.ble ((((l.length:Int):Int).toNat)*8) bP)) then
  (Loop (PI C l (l.length:Int)) (0,([]:List V),List.replicate (((l.length:Int):Int).toNat) (V.int .i64 0))).bind (un fun (jr:Int)=>un fun (lD:Bool)=>un fun (aol:List V) (ajw:List V)=>
   some [.list bt ajw])
 else none
theorem ajx {l:List V} {r:Option (List V)} (h:YZ CC l=r):CC Cf [.list bt l]=r:=
 bD (key:=104) (L:=YY CC) (bs:=[.loop (ao [1,1,1,0,1,0,0] YX)]) (by kernel_rfl) (bm (ajv CC) ar) (bB (by kernel_rfl) h)
noncomputable abbrev Y0:Code:=cJ Tryd.prog (au.bc 105)
noncomputable def DW (C:ae) (p q:List V) (t11 t12:Int) (outs:List V) {β:Type} (kn:(Int × (List V))→Option β) (kr:(Int × Bool × (List V))→Option β):Option β:=
 bif decide ((t12:Int)<t11) then
  (idx p t12).bind fun x1=>
  (idx q t12).bind fun x2=>
  bif (decide (0≤t12))&&(decide (t12<(outs.length:Int))) then
  (outs[(t12:Int).toNat]?).bind fun x3=>
  kn (IntKind.wrap .i64 (t12+1),outs.set ((t12:Int).toNat) (.int .i64 (IntKind.wrap .i64 ((IntKind.wrap .i64 ((IntKind.wrap .i64 ((p.length:Int)+1))*x1.toInt))+x2.toInt))))
  else none
 else
  kr (t12,decide ((t12:Int)<t11),outs)
noncomputable def PJ (C:ae) (p q:List V) (t11:Int):(Int × (List V))→Option ((Int × (List V)) ⊕ (Int × Bool × (List V))):=un fun t12 outs=>DW C p q t11 t12 outs (fun y=>some (.inl y)) (fun r=>some (.inr r))
noncomputable def Y1 (C:ae):cD:=fun β n ds k=>
 bif Nat.beq n 49 then bz NW [false,false,false,true,true] [[1,2,3,0,0,0]] (@DW C) ds k else
 none
abbrev ajy (C:ae) (b:cB):Prop:=cC Tryd.prog au C (Y1 C) 105 (cQ Tryd.prog (au.bc 105)) (au.sin 105).bj.length b
theorem ajz (C:ae):ajy C (.loop (ao [1,1,0,1,0,0] Y0)):=
 bC NW [false,false,false,true,true] [[1,2,3,0,0,0]] (@DW C) (by kernel_rfl) (aW (bs:=[]) (by kernel_rfl) ar) (fun ds=>by kernel_rfl) (fun i x=>by kernel_rfl) (fun i x β k=>by kernel_rfl) (fun β ds k=>by kernel_rfl)
noncomputable def Y2 (C:ae) (p q:List V):Option (List V):=
 bif (decide (0≤(p.length:Int)))&&((decide ((p.length:Int)≤(p.length:Int)))&&(Nat.ble ((((p.length:Int):Int).toNat)*8) bP)) then
  (Loop (PJ C p q (p.length:Int)) (0,List.replicate (((p.length:Int):Int).toNat) (V.int .i64 0))).bind (un fun (jr:Int)=>un fun (lD:Bool) (ajA:List V)=>
   (C Cf [.list bt ajA]).bind fun r7=>
   some [.list bt ((V.nth r7 0).toList)])
 else none
theorem ajB {p q:List V} {r:Option (List V)} (h:Y2 CC p q=r):CC HG [.list bt p,.list bt q]=r:=
 bD (key:=105) (L:=Y1 CC) (bs:=[.loop (ao [1,1,0,1,0,0] Y0)]) (by kernel_rfl) (bm (ajz CC) ar) (bB (by kernel_rfl) h)
noncomputable abbrev uL:Code:=cJ Tryd.prog (au.bc 84)
noncomputable def DX (C:ae) (t14 aZ bp:Int) (bA bu:List V) (t15:Int) (ps:List V) {β:Type} (kn:(Int × (List V))→Option β) (kr:(Int × Bool × (List V))→Option β):Option β:=
 bif decide ((t15:Int)<t14) then
  (idx bA t15).bind fun x1=>
  bif x1.toBool then
  bif (decide (0≤t15))&&(decide (t15<(ps.length:Int))) then
   (ps[(t15:Int).toNat]?).bind fun x2=>
   kn (IntKind.wrap .i64 (t15+1),ps.set ((t15:Int).toNat) (.int .i64 1))
  else none
  else
  kn (IntKind.wrap .i64 (t15+1),ps)
 else
  kr (t15,decide ((t15:Int)<t14),ps)
noncomputable def PK (C:ae) (t14 aZ bp:Int) (bA bu:List V):(Int × (List V))→Option ((Int × (List V)) ⊕ (Int × Bool × (List V))):=un fun t15 ps=>DX C t14 aZ bp bA bu t15 ps (fun y=>some (.inl y)) (fun r=>some (.inr r))
noncomputable def DY (C:ae) (p next':List V) (x t37 aZ bp:Int) (bA bu:List V) (t38:Int) (DZ:List V) {β:Type} (kn:(Int × (List V))→Option β) (kr:(Int × Bool × (List V))→Option β):Option β:=
 bif decide ((t38:Int)<t37) then
  (idx bu t38).bind fun x7=>
  (idx x7.toList x).bind fun x8=>
  (idx p x8.toInt).bind fun x9=>
  bif Nat.ble ((DZ.length+([.int .i64 x9.toInt]:List V).length)*8) bP then
  kn (IntKind.wrap .i64 (t38+1),DZ++([.int .i64 x9.toInt]:List V))
  else none
 else
  kr (t38,decide ((t38:Int)<t37),DZ)
noncomputable def Js (C:ae) (p next':List V) (x t37 aZ bp:Int) (bA bu:List V):(Int × (List V))→Option ((Int × (List V)) ⊕ (Int × Bool × (List V))):=un fun t38 DZ=>DY C p next' x t37 aZ bp bA bu t38 DZ (fun y=>some (.inl y)) (fun r=>some (.inr r))
noncomputable def D0 (C:ae) (p:List V) (aZ bp:Int) (bA bu next':List V) (x:Int) {β:Type} (kn:((List V) × Int)→Option β) (kr:((List V) × Int × Bool)→Option β):Option β:=
 bif decide ((x:Int)<aZ) then
  (Loop (Js C p next' x (p.length:Int) aZ bp bA bu) (0,([]:List V))).bind (un fun (Pk:Int)=>un fun (zE:Bool) (ajC:List V)=>
   (C HG [.list bt next',.list bt ajC]).bind fun r13=>
   kn ((V.nth r13 0).toList,IntKind.wrap .i64 (x+1)))
 else
  kr (next',x,decide ((x:Int)<aZ))
noncomputable def Jt (C:ae) (p:List V) (aZ bp:Int) (bA bu:List V):((List V) × Int)→Option (((List V) × Int) ⊕ ((List V) × Int × Bool)):=un fun next' x=>D0 C p aZ bp bA bu next' x (fun y=>some (.inl y)) (fun r=>some (.inr r))
noncomputable def D1 (C:ae) (aZ bp:Int) (bA bu p:List V) {β:Type} (kn:List V→Option β) (kr:(List V)→Option β):Option β:=
 (Loop (Jt C p aZ bp bA bu) (p,0)).bind (un fun (Y3:List V)=>un fun (aom:Int) (Dg:Bool)=>
  (C HH [.list bt Y3,.list bt p]).bind fun cG=>
  bif (V.nth cG 0).toBool then
   kr p
  else
   kn Y3)
noncomputable def D2 (C:ae) (aZ bp:Int) (bA bu:List V):(List V)→Option ((List V) ⊕ (List V)):=fun p=>D1 C aZ bp bA bu p (fun y=>some (.inl y)) (fun r=>some (.inr r))
noncomputable def Y4 (C:ae):cD:=fun β n ds k=>
 bif Nat.beq n 49 then bz Ny [false,true,false,false,false,false,true] [[1,0,0,3,4,5,6,0]] (@DX C) ds k else
 bif Nat.beq n 241 then bz Nz [false,false,false,false,true,false,false,false,false,true] [[1,2,3,4,0,0,6,7,8,9,0]] (@DY C) ds k else
 bif Nat.beq n 177 then bz NA [false,true,true,false,false,false,false] [[1,0,0,0,4,5,6,7]] (@D0 C) ds k else
 bif Nat.beq n 145 then bz NB [true,false,false,false,false] [[0]] (@D1 C) ds k else
 none
abbrev Ju (C:ae) (b:cB):Prop:=cC Tryd.prog au C (Y4 C) 84 (cQ Tryd.prog (au.bc 84)) (au.sin 84).bj.length b
theorem ajD (C:ae):Ju C (.loop (ao [1,1,0,1,0,0] uL)):=
 bC Ny [false,true,false,false,false,false,true] [[1,0,0,3,4,5,6,0]] (@DX C) (by kernel_rfl) (aW (bs:=[]) (by kernel_rfl) ar) (fun ds=>by kernel_rfl) (fun i x=>by kernel_rfl) (fun i x β k=>by kernel_rfl) (fun β ds k=>by kernel_rfl)
theorem ajE (C:ae):Ju C (.loop (ao [1,1,1,1,0,0,0,1,0,1,0,0,1,0,0,1,0,1,0,0] uL)):=
 bC Nz [false,false,false,false,true,false,false,false,false,true] [[1,2,3,4,0,0,6,7,8,9,0]] (@DY C) (by kernel_rfl) (aW (bs:=[]) (by kernel_rfl) ar) (fun ds=>by kernel_rfl) (fun i x=>by kernel_rfl) (fun i x β k=>by kernel_rfl) (fun β ds k=>by kernel_rfl)
theorem ajF (C:ae):Ju C (.loop (ao [1,1,1,1,0,0,0,1,0,1,0,0] uL)):=
 bC NA [false,true,true,false,false,false,false] [[1,0,0,0,4,5,6,7]] (@D0 C) (by kernel_rfl) (aW (bs:=[.loop (ao [1,1,1,1,0,0,0,1,0,1,0,0,1,0,0,1,0,1,0,0] uL)]) (by kernel_rfl) (bm (ajE C) ar)) (fun ds=>by kernel_rfl) (fun i x=>by kernel_rfl) (fun i x β k=>by kernel_rfl) (fun β ds k=>by kernel_rfl)
theorem ajG (C:ae):Ju C (.loop (ao [1,1,1,1,0,0] uL)):=
 bC NB [true,false,false,false,false] [[0]] (@D1 C) (by kernel_rfl) (aW (bs:=[.loop (ao [1,1,1,1,0,0,0,1,0,1,0,0] uL)]) (by kernel_rfl) (bm (ajF C) ar)) (fun ds=>by kernel_rfl) (fun i x=>by kernel_rfl) (fun i x β k=>by kernel_rfl) (fun β ds k=>by kernel_rfl)
noncomputable def Y5 (C:ae) (aK aO:Int) (aD aT:List V):Option (List V):=
 bif (decide (0≤(aD.length:Int)))&&((decide ((aD.length:Int)≤(aD.length:Int)))&&(Nat.ble ((((aD.length:Int):Int).toNat)*8) bP)) then
  (Loop (PK C ((List.replicate (((aD.length:Int):Int).toNat) (V.int .i64 0)).length:Int) aK aO aD aT) (0,List.replicate (((aD.length:Int):Int).toNat) (V.int .i64 0))).bind (un fun (lC:Int)=>un fun (jr:Bool) (ajH:List V)=>
   (C Cf [.list bt ajH]).bind fun r6=>
   (Loop (D2 C aK aO aD aT) ((V.nth r6 0).toList)).bind (fun (PL:List V)=>
    some [.list bt PL]))
 else none
theorem ajI {aK aO:Int} {aD aT:List V} {r:Option (List V)} (h:Y5 CC aK aO aD aT=r):CC Hw [.int .i64 aK,.int .i64 aO,.list aC aD,.list aG aT]=r:=
 bD (key:=84) (L:=Y4 CC) (bs:=[.loop (ao [1,1,0,1,0,0] uL),.loop (ao [1,1,1,1,0,0] uL)]) (by kernel_rfl) (bm (ajD CC) (bm (ajG CC) ar)) (bB (by kernel_rfl) h)
noncomputable abbrev Jv:Code:=cJ Tryd.prog (au.bc 53)
noncomputable def D3 (C:ae) (p:List V) (rB q:Int) (t21:List V) (t22 t23:Int) (t37:List V) (t38 aZ bp:Int) (bA bu:List V) (cg ch iy iz:Int) (bY bO bw bh:List V) (t39:Int) (rows:List V) {β:Type} (kn:(Int × (List V))→Option β) (kr:(Int × Bool × (List V))→Option β):Option β:=
 bif decide ((t39:Int)<t38) then
  (idx t37 t39).bind fun x5=>
  (idx p x5.toInt).bind fun x6=>
  bif Nat.ble ((rows.length+([.int .i64 x6.toInt]:List V).length)*8) bP then
  kn (IntKind.wrap .i64 (t39+1),rows++([.int .i64 x6.toInt]:List V))
  else none
 else
  kr (t39,decide ((t39:Int)<t38),rows)
noncomputable def Jw (C:ae) (p:List V) (rB q:Int) (t21:List V) (t22 t23:Int) (t37:List V) (t38 aZ bp:Int) (bA bu:List V) (cg ch iy iz:Int) (bY bO bw bh:List V):(Int × (List V))→Option ((Int × (List V)) ⊕ (Int × Bool × (List V))):=un fun t39 rows=>D3 C p rB q t21 t22 t23 t37 t38 aZ bp bA bu cg ch iy iz bY bO bw bh t39 rows (fun y=>some (.inl y)) (fun r=>some (.inr r))
noncomputable def D4 (C:ae) (p t21:List V) (t22 aZ bp:Int) (bA bu:List V) (cg ch iy iz:Int) (eH bY:List V) (rB t23:Int) (bO bw:List V) {β:Type} (kn:(Int × Int × (List V) × (List V))→Option β) (kr:(Int × Int × Bool × (List V) × (List V))→Option β):Option β:=
 bif decide ((t23:Int)<t22) then
  (idx t21 t23).bind fun x3=>
  bif (x3.toInt:Int) != rB then
  kn (rB,IntKind.wrap .i64 (t23+1),bO,bw)
  else
  (idx bu t23).bind fun x4=>
  (Loop (Jw C p (IntKind.wrap .i64 (rB+1)) t23 t21 t22 t23 x4.toList (x4.toList.length:Int) aZ bp bA bu cg ch iy iz eH bY bO bw) (0,([]:List V))).bind (un fun (mh:Int)=>un fun (qe:Bool) (DM:List V)=>
   bif Nat.ble ((bw.length+([.list bt DM]:List V).length)*24) bP then
    (idx bA t23).bind fun iT=>
    bif Nat.ble ((bO.length+([.bool iT.toBool]:List V).length)*1) bP then
    kn (IntKind.wrap .i64 (rB+1),IntKind.wrap .i64 (t23+1),bO++([.bool iT.toBool]:List V),bw++([.list bt DM]:List V))
    else none
   else none)
 else
  kr (rB,t23,decide ((t23:Int)<t22),bO,bw)
noncomputable def Jx (C:ae) (p t21:List V) (t22 aZ bp:Int) (bA bu:List V) (cg ch iy iz:Int) (eH bY:List V):(Int × Int × (List V) × (List V))→Option ((Int × Int × (List V) × (List V)) ⊕ (Int × Int × Bool × (List V) × (List V))):=un fun rB=>un fun t23=>un fun bO bw=>D4 C p t21 t22 aZ bp bA bu cg ch iy iz eH bY rB t23 bO bw (fun y=>some (.inl y)) (fun r=>some (.inr r))
noncomputable def Y6 (C:ae):cD:=fun β n ds k=>
 bif Nat.beq n 177 then bz Nn [false,false,false,false,false,false,false,false,true,false,false,false,false,false,false,false,false,true,false,false,false,false] [[1,2,3,4,5,6,7,8,0,0,10,11,12,13,14,15,16,17,0,19,20,21,22]] (@D3 C) ds k else
 bif Nat.beq n 81 then bz No [false,true,false,false,true,false,false,false,false,false,false,false,false,false,false,true,true] [[1,0,3,4,0,0,6,7,8,9,10,11,12,13,14,15,0,0]] (@D4 C) ds k else
 none
abbrev Y7 (C:ae) (b:cB):Prop:=cC Tryd.prog au C (Y6 C) 53 (cQ Tryd.prog (au.bc 53)) (au.sin 53).bj.length b
theorem ajJ (C:ae):Y7 C (.loop (ao [1,1,1,1,0,1,0,0,1,1,0,0,1,1,1,1,0,1,0,0] Jv)):=
 bC Nn [false,false,false,false,false,false,false,false,true,false,false,false,false,false,false,false,false,true,false,false,false,false] [[1,2,3,4,5,6,7,8,0,0,10,11,12,13,14,15,16,17,0,19,20,21,22]] (@D3 C) (by kernel_rfl) (aW (bs:=[]) (by kernel_rfl) ar) (fun ds=>by kernel_rfl) (fun i x=>by kernel_rfl) (fun i x β k=>by kernel_rfl) (fun β ds k=>by kernel_rfl)
theorem ajK (C:ae):Y7 C (.loop (ao [1,1,1,1,0,1,0,0] Jv)):=
 bC No [false,true,false,false,true,false,false,false,false,false,false,false,false,false,false,true,true] [[1,0,3,4,0,0,6,7,8,9,10,11,12,13,14,15,0,0]] (@D4 C) (by kernel_rfl) (aW (bs:=[.loop (ao [1,1,1,1,0,1,0,0,1,1,0,0,1,1,1,1,0,1,0,0] Jv)]) (by kernel_rfl) (bm (ajJ C) ar)) (fun ds=>by kernel_rfl) (fun i x=>by kernel_rfl) (fun i x β k=>by kernel_rfl) (fun β ds k=>by kernel_rfl)
noncomputable def Y8 (C:ae) (aK aO:Int) (aD aT:List V):Option (List V):=
 (C Hw [.int .i64 aK,.int .i64 aO,.list aC aD,.list aG aT]).bind fun r1=>
 (idx ((V.nth r1 0).toList) aO).bind fun x2=>
 (Loop (Jx C ((V.nth r1 0).toList) ((V.nth r1 0).toList) (((V.nth r1 0).toList).length:Int) aK aO aD aT 0 0 aK x2.toInt ([]:List V) ([]:List V)) (0,0,([]:List V),([]:List V))).bind (un fun (aon:Int)=>un fun (zu:Int)=>un fun (o4:Bool)=>un fun (wS:List V) (wJ:List V)=>
  (C Hy [.int .i64 aK,.int .i64 x2.toInt,.list aC wS,.list aG wJ]).bind fun jQ=>
  some [.int .i64 ((V.nth jQ 0).toInt),.int .i64 ((V.nth (jQ.drop 1) 0).toInt),.list aC ((V.nth (jQ.drop 2) 0).toList),.list aG ((V.nth ((jQ.drop 2).drop 1) 0).toList)])
theorem ajL {aK aO:Int} {aD aT:List V} {r:Option (List V)} (h:Y8 CC aK aO aD aT=r):CC yQ [.int .i64 aK,.int .i64 aO,.list aC aD,.list aG aT]=r:=
 bD (key:=53) (L:=Y6 CC) (bs:=[.loop (ao [1,1,1,1,0,1,0,0] Jv)]) (by kernel_rfl) (bm (ajK CC) ar) (bB (by kernel_rfl) h)
theorem w7 {n:Nat} {c:Nat→Nat}:(cV n c).length=n:=by simp[cV]
theorem tn {n q:Nat} {c:Nat→Nat} (h:q<n):idx (cV n c) (q:Int)=some (nV (c q)):=o9 h
theorem Jy {n q:Nat} {f:Nat→V} {z v:V} (hv:v=f q):(tab n fun j=>if j<q then f j else z).set q v=tab n fun j=>if j<q+1 then f j else z:=by
 rw[hv,o7]
 refine eX fun j _=> ?_
 by_cases hj:j=q
 ·rw[af hj,af (by omega),hj]
 ·rw[ag hj]
  by_cases cp:j<q
  ·rw[af cp,af (by omega)]
  ·rw[ag cp,ag (by omega)]
theorem PM {n:Nat} {f:Nat→V} {z:V}:(tab n fun j=>if j<n then f j else z)=tab n f:=eX fun j hj=>af hj
theorem Y9 {n:Nat} {g:Nat→Nat} (hn:n≤1000) (hg: ∀q,q<n→g q≤1000000000):CC Cf [.list bt (cV n g)]=some [.list bt (cV n (cI g n))]:=by
 refine ajx ?_
 unfold YZ
 rw[w7]
 refine bT (nU (by omega) (by omega)) ?_
 rw[Int.toNat_natCast,o8]
 refine bs (eY n (fun i=>((i:Int),gv nV 0 (a8 g i),(tab n fun q=>if q<i then nV (cI g n q) else nV 0))) ((n:Int),false,gv nV 0 (a8 g n),cV n (cI g n)) (fun q hq=> ?_) ?_) ?_
 ·have hle:=th g q
  simp only[PI,DV,un]
  refine bT (cU hq) ?_
  refine bs (tn hq) ?_
  have hk:dp .i64 (g q:Int)=true:=IG (by have:=hg q hq;omega)
  refine bT (by simp only[nV,V.toInt_int,hk,Ap]) ?_
  have e1:=wR zj (g q) (a8 g q) 0
  rw[cy (by omega)]
  simp only[nV,V.toInt_int]
  rw[show (V.int .i64 (g q:Int))=nV (g q) from rfl]
  by_cases hx:g q∈a8 g q
  ·refine bF (by rw[show gk (nV (g q)) _=_ from e1];simpa using hx) ?_
   refine (e9 hq).trans ?_
   have e2:=zg zj (g q) (.int .i64 0) (a8 g q) 0 hx
   rw[eh,←Ya hq hx] at e2
   rw[show jb (nV (g q)) _ (.int .i64 0)=_ from e2,V.toInt_int,Int.toNat_natCast,Pn hx]
   exact congrArg (fun x=>some (Sum.inl (((q+1:Nat):Int),gv nV 0 (a8 g q),x))) (Jy (f:=fun j=>nV (cI g n j)) rfl)
  ·refine bT (by rw[show gk (nV (g q)) _=_ from e1];simpa using hx) ?_
   refine bT (by simp only[hk,Ap]) ?_
   refine (e9 hq).trans ?_
   have e2:=zh zj (g q) (a8 g q) 0 hx
   rw[eh] at e2
   rw[show List.length (gv nV 0 (a8 g q))=(a8 g q).length from zf _ _,show fB (nV (g q)) _ _=_ from e2,Int.toNat_natCast,←Yb hq hx,IQ hx]
   exact congrArg (fun x=>some (Sum.inl (((q+1:Nat):Int),gv nV 0 (a8 g q++[g q]),x))) (Jy (f:=fun j=>nV (cI g n j)) rfl)
 ·simp only[PI,DV,un]
  refine bF (bq (ax _)) ?_
  rw[bq (ax _)]
  exact congrArg (fun x=>some (Sum.inr ((n:Int),false,gv nV 0 (a8 g n),x))) (PM (f:=fun j=>nV (cI g n j)))
 ·rfl
def mq (n:Nat) (p q:Nat→Nat) (i:Nat):Nat:=p i*(n+1)+q i
theorem ajM {n:Nat} {p q:Nat→Nat} (hn:n≤512) (hp: ∀i,i<n→p i≤1000) (hq: ∀i,i<n→q i≤1000):CC HG [.list bt (cV n p),.list bt (cV n q)]=some [.list bt (cV n (cI (mq n p q) n))]:=by
 have hb: ∀i,i<n→mq n p q i≤1000000000:=fun i hi=>by
  have h1:=hp i hi
  have h2:=hq i hi
  have:=AF h1 (show n+1≤513 by omega)
  unfold mq
  omega
 refine ajB ?_
 unfold Y2
 rw[w7]
 refine bT (nU (by omega) (by omega)) ?_
 rw[Int.toNat_natCast,o8]
 refine bs (eY n (fun i=>((i:Int),(tab n fun j=>if j<i then nV (mq n p q j) else nV 0))) ((n:Int),false,cV n (mq n p q)) (fun i hi=> ?_) ?_) ?_
 ·simp only[PJ,DW,un]
  refine bT (cU hi) ?_
  refine bs (tn hi) ?_
  refine bs (tn hi) ?_
  refine (e9 hi).trans ?_
  have h1:=hp i hi
  have h2:=hq i hi
  have h3:=hb i hi
  have h4:IntKind.wrap .i64 ((IntKind.wrap .i64 ((IntKind.wrap .i64 (((cV n p).length:Int)+1))*(p i:Int)))+(q i:Int))=(mq n p q i:Int):=by
   rw[w7,cy (by omega)]
   have e:((n+1:Nat):Int)*(p i:Int)=((p i*(n+1):Nat):Int):=by rw[ic];push_cast;rfl
   unfold mq at*
   rw[e]
   have h5:p i*(n+1)≤1000000000:=by omega
   generalize p i*(n+1)=z at*
   rw[wrap64 (x:=(z:Int)) (by omega) (by omega),wrap64 (by omega) (by omega)]
   push_cast;rfl
  simp only[nV,V.toInt_int]
  rw[h4,cy (by omega),Int.toNat_natCast]
  exact congrArg (fun x=>some (Sum.inl (((i+1:Nat):Int),x))) (Jy (f:=fun j=>nV (mq n p q j)) rfl)
 ·simp only[PJ,DW,un]
  refine bF (bq (ax _)) ?_
  rw[bq (ax _)]
  exact congrArg (fun x=>some (Sum.inr ((n:Int),false,x))) (PM (f:=fun j=>nV (mq n p q j)))
 ·simp only[un]
  refine bs (Y9 (by omega) hb) ?_
  rfl
theorem Za {n:Nat} {p q:Nat→Nat} (hn:n≤1000):CC HH [.list bt (cV n p),.list bt (cV n q)]=some [.bool (decide (∀i,i<n→p i=q i))]:=by
 refine ajt ?_
 unfold YW
 rw[w7,w7]
 refine bF (by simp) ?_
 refine bs (ru (fun i=>p i=q i) n (fun i=>(i:Int)) (.inl false:Bool ⊕ (Int × Bool)) (.inr ((n:Int),false)) (fun i hi=> ?_) ?_) ?_
 ·simp only[PH,DU]
  refine bT (cU hi) ?_
  refine bs (tn hi) ?_
  refine bs (tn hi) ?_
  simp only[nV,V.toInt_int]
  by_cases h:p i=q i
  ·refine bF (by simp[h]) ?_
   rw[af h,cy (by omega)]
  ·refine bT (by simp;omega) ?_
   rw[ag h]
 ·simp only[PH,DU]
  refine bF (bq (ax _)) ?_
  rw[bq (ax _)]
 ·by_cases h: ∀i,i<n→p i=q i
  ·rw[af h,bN h];rfl
  ·rw[ag h,db h];rfl
theorem ajN {n:Nat} {p q:Nat→Nat} {i j:Nat} (hi:q i≤n) (hj:q j≤n):mq n p q i=mq n p q j↔p i=p j∧q i=q j:=by
 unfold mq
 constructor
 ·intro h
  have h1:(p i*(n+1)+q i)/(n+1)=p i:=by rw[ic,Al (by omega),Am (by omega)];rfl
  have h2:(p j*(n+1)+q j)/(n+1)=p j:=by rw[ic,Al (by omega),Am (by omega)];rfl
  have h3:p i=p j:=by rw[←h1,←h2,h]
  rw[h3] at h
  exact ⟨h3,by omega⟩
 ·rintro ⟨h1,h2⟩
  rw[h1,h2]
section
variable {a:Da} (h:a.Ok)
def kj (a:Da) (c:Nat→Nat):Nat→Nat→Nat
 | 0=>c
 | x+1=>cI (mq a.n (kj a c x) fun q=>c (a.nx q x)) a.n
theorem Zb {c:Nat→Nat} (hc: ∀q,q<a.n→c q<a.n): ∀x q,q<a.n→kj a c x q<a.n
 | 0,q,hq=>hc q hq
 | x+1,q,hq=>by
  have h1:=Dn (g:=mq a.n (kj a c x) fun q=>c (a.nx q x)) hq
  have h2:=th (mq a.n (kj a c x) fun q=>c (a.nx q x)) a.n
  show cI _ _ _<_
  omega
include h
theorem ajO {c:Nat→Nat} (hc: ∀q,q<a.n→c q<a.n): ∀x,x≤a.L→∀q q',q<a.n→q'<a.n→(kj a c x q=kj a c x q'↔c q=c q'∧∀y,y<x→c (a.nx q y)=c (a.nx q' y)):=by
 intro x
 induction x with
 | zero=>intro _ q q' _ _;exact ⟨fun e=>⟨e,fun y hy=>by omega⟩,fun e=>e.1⟩
 | succ x ih=>
  intro hx q q' hq cx
  show cI _ _ _=cI _ _ _↔_
  rw[Dp hq cx,ajN (by have:=hc _ (h.fP hq (show x<a.L by omega));omega) (by have:=hc _ (h.fP cx (show x<a.L by omega));omega),ih (by omega) q q' hq cx]
  constructor
  ·rintro ⟨⟨e1,e2⟩,e3⟩
   refine ⟨e1,fun y hy=> ?_⟩
   rcases eg y x with c1|c1
   ·exact e2 y c1
   ·rw[show y=x by omega];exact e3
  ·rintro ⟨e1,e2⟩
   exact ⟨⟨e1,fun y hy=>e2 y (by omega)⟩,e2 x (by omega)⟩
theorem ajP {c:Nat→Nat} {x:Nat} (hx:x<a.L) {k1 k2:Int} {l1 l2:List V}:
  Loop (Js CC (cV a.n c) l1 (x:Int) ((cV a.n c).length:Int) k1 k2 l2 a.cS) (0,([]:List V))=some ((a.n:Int),false,cV a.n fun q=>c (a.nx q x)):=by
 have hm:=h.fO
 rw[w7]
 refine (eY a.n (fun t=>((t:Int),(tab t fun q=>nV (c (a.nx q x))))) _ (fun q hq=> ?_) ?_)
 ·simp only[Js,DY,un]
  refine bT (cU hq) ?_
  refine bs (Da.nW hq) ?_
  simp only[pc]
  refine bs (qk hx) ?_
  refine bs (tn (h.fP hq hx)) ?_
  refine bT (cap (by rw[dI];simp;omega) (by omega)) ?_
  rw[cy (by omega),ki]
  rfl
 ·simp only[Js,DY,un]
  refine bF (bq (ax _)) ?_
  rw[bq (ax _)]
  rfl
theorem Zc {c:Nat→Nat} (hc: ∀q,q<a.n→c q<a.n) {k2:Int} {l2:List V}:
  Loop (Jt CC (cV a.n c) (a.L:Int) k2 l2 a.cS) (cV a.n c,0)=some (cV a.n (kj a c a.L),(a.L:Int),false):=by
 have hm:=h.fO
 have h6:=h.l6
 refine (eY a.L (fun x=>(cV a.n (kj a c x),(x:Int))) _ (fun x hx=> ?_) ?_)
 ·simp only[Jt,D0,un]
  refine bT (cU hx) ?_
  refine bs (ajP h hx) ?_
  refine bs (ajM hm (fun q hq=>by have:=Zb hc x q hq;omega) fun q hq=>by have:=hc _ (h.fP hq hx);omega) ?_
  rw[cy (by omega)]
  rfl
 ·simp only[Jt,D0,un]
  refine bF (bq (ax _)) ?_
  rw[bq (ax _)]
theorem ajQ {c0:Nat→Nat} (hp0:a.Part c0) (ho0:pd c0 a.n) (Gx: ∀q,q<a.n→c0 q<a.n) {k2:Int} {l2:List V}: ∃p,Loop (D2 CC (a.L:Int) k2 l2 a.cS) (cV a.n c0)=some (cV a.n p)∧a.wW p∧∀q,q<a.n→p q<a.n:=by
 have hm:=h.fO
 have:=Us (step:=D2 CC (a.L:Int) k2 l2 a.cS)
  (fun x=> ∃c,x=cV a.n c∧a.Part c∧pd c a.n∧∀q,q<a.n→c q<a.n)
  (fun x=>a.n-(a8 (fun q=>(x.getD q (nV 0)).toInt) a.n).length)
  (fun r=> ∃p,r=cV a.n p∧a.wW p∧∀q,q<a.n→p q<a.n) (fun x hx=> ?_) (cV a.n c0) ⟨c0,rfl,hp0,ho0,Gx⟩
 ·obtain ⟨r,h1,p,rfl,h2,h3⟩:=this
  exact ⟨p,h1,h2,h3⟩
 ·obtain ⟨c,rfl,hp,ho,hc⟩:=hx
  have pe:a.IS c (kj a c a.L):=fun q q' hq cx=>(ajO h hc a.L (ax _) q q' hq cx).trans Da.wV.symm
  have hb:=Zb hc a.L
  have wZ: ∀q q',q<a.n→q'<a.n→kj a c a.L q=kj a c a.L q'→c q=c q':=fun q q' hq cx e=>(Da.wV.1 ((pe q q' hq cx).1 e)).1
  have j7:pd (kj a c a.L) a.n:=by
   have h1:=h.l1
   obtain ⟨m,hm⟩: ∃m,a.L=m+1:=⟨a.L-1,by omega⟩
   rw[hm]
   exact Po _ _
  by_cases he: ∀q,q<a.n→kj a c a.L q=c q
  ·right
   refine ⟨_,?_,c,rfl,⟨hp.Ye h fun q q' hq cx e=>(pe q q' hq cx).1 (by rw[he q hq,he q' cx,e]),ho⟩,hc⟩
   simp only[D2,D1,un]
   refine bs (Zc h hc) ?_
   refine bs (Za (by omega)) ?_
   refine bT (by simpa using he) ?_
   rfl
  ·left
   refine ⟨cV a.n (kj a c a.L),?_,⟨kj a c a.L,rfl,pe.part h hp,j7,hb⟩,?_⟩
   ·simp only[D2,D1,un]
    refine bs (Zc h hc) ?_
    refine bs (Za (by omega)) ?_
    refine bF (by rw[V.cd,V.me];exact db he) ?_
    rfl
   ·have ec: ∀d:Nat→Nat,(a8 (fun q=>((cV a.n d).getD q (nV 0)).toInt) a.n).length=(a8 d a.n).length:=fun d=>by
     have key: ∀m,m≤a.n→a8 (fun q=>((cV a.n d).getD q (nV 0)).toInt) m=(a8 d m).map fun n:Nat=>(n:Int):=by
      intro m
      induction m with
      | zero=>intro _;rfl
      | succ m ih=>
       intro hm
       have e:((cV a.n d).getD m (nV 0)).toInt=(d m:Int):=by unfold cV;rw[zd (by omega)];rfl
       rw[a8,a8,ih (by omega),e]
       unfold dh
       by_cases hx:d m∈a8 d m
       ·rw[af hx,af (fL.2 ⟨d m,hx,rfl⟩)]
       ·rw[ag hx,ag]
        ·simp
        ·intro h2
         obtain ⟨y,h3,h4⟩:=fL.1 h2
         exact hx ((show y=d m by omega)▸h3)
     rw[key a.n (ax _),cb]
    simp only[ec]
    have aip:=Yd wZ
    have hle:=th (kj a c a.L) a.n
    have ca:(a8 c a.n).length≠(a8 (kj a c a.L) a.n).length:=by
     intro e
     have b6:=Pp wZ (by omega)
     refine he fun q hq=> ?_
     have h1:=ah7 (f:=kj a c a.L) (c:=c) (fun s s' hs uk=>⟨wZ s s' hs uk,b6 s s' hs uk⟩) q hq
     have own: ∀(d:Nat→Nat),pd d a.n→cI d a.n q=d q:=fun d hd=>by
      have h2:d q∈a8 d a.n:=jP.2 ⟨q,hq,rfl⟩
      unfold cI
      rw[hd a.n (ax _)] at h2⊢
      have h3:=ja.1 h2
      have h4:=(List.nodup_range (n:=(a8 d a.n).length)).idxOf_getElem (d q) (by rw[List.length_range];exact h3)
      rwa [List.getElem_range] at h4
     rw[own _ j7,own _ ho] at h1
     exact h1
    omega
theorem Zd: ∃p,CC Hw (dK a)=some [.list bt (cV a.n p)]∧a.wW p∧∀q,q<a.n→p q<a.n:=by
 have hm:=h.fO
 have hf0: ∀q,q<a.n→(if a.fin q=true then 1 else 0)≤1000000000:=fun q _=>by split<;>omega
 have hb: ∀q,q<a.n→cI (fun q=>if a.fin q=true then 1 else 0) a.n q<a.n:=fun q hq=>by
  have h1:=Dn (g:=fun q=>if a.fin q=true then 1 else 0) hq
  have h2:=th (fun q=>if a.fin q=true then 1 else 0) a.n
  omega
 obtain ⟨p,h1,h2,h3⟩:=ajQ h (c0:=cI (fun q=>if a.fin q=true then 1 else 0) a.n)
  ⟨fun q q' hq cx he=>(Dp hq cx).2 (by have:=he [] WL.nil;rw[Da.o6,Da.o6] at this;rw[this]),
   fun q q' hq cx he=>by
   have h1:=(Dp hq cx).1 he
   revert h1
   cases a.fin q<;>cases a.fin q'<;>simp⟩ (Po _ _) hb (k2:=(a.st:Int)) (l2:=a.cZ)
 refine ⟨p,ajI ?_,h2,h3⟩
 unfold Y5
 rw[Da.pb]
 refine bT (nU (by omega) (by omega)) ?_
 rw[Int.toNat_natCast,o8,dI]
 refine bs (eY a.n (fun i=>((i:Int),(tab a.n fun j=>if j<i then nV (if a.fin j=true then 1 else 0) else nV 0))) ((a.n:Int),false,cV a.n fun q=>if a.fin q=true then 1 else 0) (fun q hq=> ?_) ?_) ?_
 ·simp only[PK,DX,un]
  refine bT (cU hq) ?_
  refine bs (Da.uH hq) ?_
  rw[cy (by omega),V.me]
  cases hf:a.fin q with
  | true=>
   refine bT rfl ?_
   refine (e9 hq).trans ?_
   rw[Int.toNat_natCast]
   exact congrArg (fun x=>some (Sum.inl (((q+1:Nat):Int),x))) (Jy (f:=fun j=>nV (if a.fin j=true then 1 else 0)) (by rw[hf];rfl))
  | false=>
   refine bF rfl ?_
   refine congrArg (fun x=>some (Sum.inl (((q+1:Nat):Int),x))) (eX fun j _=> ?_)
   by_cases hj:j=q
   ·rw[ag (show¬j<q by omega),af (show j<q+1 by omega),hj,hf];rfl
   ·by_cases cp:j<q
    ·rw[af cp,af (show j<q+1 by omega)]
    ·rw[ag cp,ag (show¬j<q+1 by omega)]
 ·simp only[PK,DX,un]
  refine bF (bq (ax _)) ?_
  rw[bq (ax _)]
  exact congrArg (fun x=>some (Sum.inr ((a.n:Int),false,x))) (PM (f:=fun j=>nV (if a.fin j=true then 1 else 0)))
 ·simp only[un]
  refine bs (Y9 (by omega) hf0) ?_
  refine bs h1 ?_
  rfl
theorem ajR {p:Nat→Nat} {q:Nat} (hq:q<a.n) {k1 k2 k3 k4 k5 k6 k7 k8 k9 Px:Int} {l1 l2 l3 l4 l5 l6 l7:List V}:
  Loop (Jw CC (cV a.n p) k1 k2 l1 k3 k4 (tab a.L fun x=>iV (a.nx q x)) ((tab a.L fun x=>iV (a.nx q x)).length:Int) k5 k6 l2 l3 k7 k8 k9 Px l4 l5 l6 l7) (0,([]:List V))=
   some ((a.L:Int),false,(tab a.L fun x=>nV (p (a.nx q x)))):=by
 have h6:=h.l6
 rw[dI]
 refine (eY a.L (fun t=>((t:Int),(tab t fun x=>nV (p (a.nx q x))))) _ (fun t ht=> ?_) ?_)
 ·simp only[Jw,D3,un]
  refine bT (cU ht) ?_
  refine bs (qk ht) ?_
  refine bs (tn (h.fP hq ht)) ?_
  refine bT (cap (by rw[dI];simp;omega) (by omega)) ?_
  rw[cy (by omega),ki]
  rfl
 ·simp only[Jw,D3,un]
  refine bF (bq (ax _)) ?_
  rw[bq (ax _)]
theorem ajS {p:Nat→Nat} (ho:pd p a.n) {k2 k3 k4 k5 k6:Int} {l4 l5:List V}:
  Loop (Jx CC (cV a.n p) (cV a.n p) ((cV a.n p).length:Int) (a.L:Int) k2 a.cZ a.cS k3 k4 k5 k6 l4 l5) (0,0,([]:List V),([]:List V))=
   some (((Da.dX p a.n).length:Int),(a.n:Int),false,qF a p a.n,qN a p a.n):=by
 have h6:=h.l6
 have hm:=h.fO
 rw[w7]
 refine (eY a.n (fun i=>(((Da.dX p i).length:Int),(i:Int),qF a p i,qN a p i)) _ (fun q hq=> ?_) ?_)
 ·have hle:=Pw p q
  have hF:(qF a p q).length=(Da.dX p q).length:=by simp[qF]
  have hN:(qN a p q).length=(Da.dX p q).length:=by simp[qN]
  simp only[Jx,D4,un]
  refine bT (cU hq) ?_
  refine bs (tn hq) ?_
  rw[cy (by omega)]
  simp only[nV,V.toInt_int]
  by_cases hx:p q∈a8 p q
  ·have:=(Pv ho hq).1 hx
   refine bT (by simp;omega) ?_
   unfold qF qN
   rw[Da.dX,af hx]
  ·have e:p q=(Da.dX p q).length:=by
    have h1:=ho (q+1) (by omega)
    rw[IQ hx,dd,List.length_singleton,AB] at h1
    rw[Da.zl]
    exact List.singleton_inj.1 (List.append_inj_right h1 (by simp))
   refine bF (by rw[e];simp) ?_
   refine bs (Da.nW hq) ?_
   simp only[pc]
   refine bs (ajR h hq) ?_
   refine bT (cap (by rw[hN];simp;omega) (by omega)) ?_
   refine bs (Da.uH hq) ?_
   refine bT (cap (by rw[hF];simp;omega) (by omega)) ?_
   unfold qF qN
   rw[Da.dX,ag hx,qz,qz,dd,cy (by omega)]
   rfl
 ·simp only[Jx,D4,un]
  refine bF (bq (ax _)) ?_
  rw[bq (ax _)]
theorem PN:CC yQ (dK a)=some (dK (minD a)):=by
 obtain ⟨p,c1,c2,c3⟩:=Zd h
 have hq:=Da.IU h c2
 obtain ⟨q1,q2⟩:=Ys (a:=a) (p:=p)
 rw[←zy h (Da.Pq h c2)]
 refine ajL ?_
 unfold Y8
 refine bs c1 ?_
 refine bs (tn h.s) ?_
 refine bs (ajS h c2.2) ?_
 simp only[un]
 rw[←q1,←q2]
 have yv:=ajq hq
 refine bs yv ?_
 rfl
end
end Go.AM
set_option maxRecDepth 100000
namespace Go.AM
open Go.Proofs Go.Sort
section
variable {α:Type} {enc:α→V}
def rC (enc:α→V) (d:Array α):List V:=d.toList.map enc
theorem gQ (d:Array α):(rC enc d).length=d.size:=by simp[rC]
theorem gR (d:Array α) (i:Nat) (x:α):(rC enc d).set i (enc x)=rC enc (d.setIfInBounds i x):=by
 unfold rC;rw[Array.toList_setIfInBounds,List.map_set]
variable [Inhabited α]
theorem gS {d:Array α} {i:Nat} (h:i<d.size):(rC enc d)[i]? =some (enc d[i]!):=by
 unfold rC;rw[eZ,tG,lP h,getElem!_pos d i h];rfl
theorem jt {d:Array α} {i j:Nat} {x:α} (h:i<d.size):(rC enc (d.setIfInBounds j x))[i]? =some (enc (d.setIfInBounds j x)[i]!):=gS (by rw[iF];exact h)
theorem gT (a b:Nat):(a:Int)+(b:Int)=((a+b:Nat):Int):=(Int.natCast_add a b).symm
theorem dY (a:Nat):(a:Int)+1=((a+1:Nat):Int):=rfl
theorem uN (a:Nat):((a+1:Nat):Int)-1=(a:Int):=by omega
theorem D5 (a:Nat):(a:Int)*2=((a*2:Nat):Int):=by omega
theorem oa {a b:Nat} (h:b≤a):(a:Int)-(b:Int)=((a-b:Nat):Int):=by omega
theorem kR {a:Nat} (h:1≤a):(a:Int)-1=((a-1:Nat):Int):=by omega
theorem divC (a b:Nat):Int.tdiv (a:Int) (b:Int)=((a/b:Nat):Int):=by rw[Int.tdiv_eq_ediv_of_nonneg (by omega)];rfl
theorem pf {p:Prop} [Decidable p] (h:p):decide p=true:=bN h
theorem tp {p:Prop} [Decidable p] (h: ¬p):decide p=false:=db h
variable {lt:α→α→Bool}
theorem Ze (a j:Nat) (d:Array α):insInner lt a (j+1) d=if j+1>a&&lt d[j+1]! d[j]! then insInner lt a j (swp d (j+1) j) else d:=rfl
theorem PO {a:Nat}: ∀(j:Nat) (d:Array α),(insInner lt a j d).size=d.size
 | 0,d=>rfl
 | j+1,d=>by
  rw[Ze]
  split
  ·rw[PO j,size_swp]
  ·rfl
theorem D6 (hi first:Nat): ∀(n root:Nat) (d:Array α),hi-root≤n→(siftDown lt hi first root d).size=d.size:=by
 intro n
 induction n with
 | zero=>intro root d h;rw[siftDown,pB (by omega)]
 | succ n ih=>
  intro root d h
  rw[siftDown]
  split
  ·rfl
  ·split
   ·split
    ·rfl
    ·split
     ·rw[ih _ _ (by omega),size_swp]
     ·rfl
   ·split
    ·rfl
    ·rw[ih _ _ (by omega),size_swp]
theorem PQ (hi first:Nat): ∀(k:Nat) (d:Array α),(heapBuild lt hi first k d).size=d.size
 | 0,d=>rfl
 | k+1,d=>by rw[heapBuild,PQ,D6 _ _ _ _ _ (ax _)]
end
end Go.AM
set_option maxRecDepth 100000
namespace Go.AM
open Go.Proofs
noncomputable abbrev Jz:Code:=cJ Tryd.prog (au.bc 92)
noncomputable def D7 (C:ae) (t7:List V) (t8 t9:Int) (outs:List V) (PR PS PT k':Int) {β:Type} (kn:Int→Option β) (kr:(Int × Bool)→Option β):Option β:=
 bif decide ((k':Int)>0) then
  bif (decide (0≤(IntKind.wrap .i64 (k'-1))))&&(decide ((IntKind.wrap .i64 (k'-1))<(outs.length:Int))) then
  (outs[(IntKind.wrap .i64 (k'-1):Int).toNat]?).bind fun x2=>
  (C Ci [.int .i64 PR,.int .i64 PS,.int .i64 PT,.int .i64 ((x2.cell 0).toInt),.int .i64 ((x2.cell 1).toInt),.int .i64 ((x2.cell 2).toInt)]).bind fun r3=>
  bif (V.nth r3 0).toBool then
   kn (IntKind.wrap .i64 (k'-1))
  else
   kr (k',(V.nth r3 0).toBool)
  else none
 else
  kr (k',false)
noncomputable def D8 (C:ae) (t7:List V) (t8 t9:Int) (outs:List V) (PR PS PT:Int):(Int)→Option ((Int) ⊕ (Int × Bool)):=fun k'=>D7 C t7 t8 t9 outs PR PS PT k' (fun y=>some (.inl y)) (fun r=>some (.inr r))
noncomputable def D9 (C:ae) (t7:List V) (t8 t9:Int) (outs:List V) {β:Type} (kn:(Int × (List V))→Option β) (kr:(Int × Bool × (List V))→Option β):Option β:=
 bif decide ((t9:Int)<t8) then
  (idx t7 t9).bind fun x1=>
  (Loop (D8 C t7 t8 t9 outs ((x1.cell 0).toInt) ((x1.cell 1).toInt) ((x1.cell 2).toInt)) (outs.length:Int)).bind (un fun (fJ:Int) (lD:Bool)=>
   bif (fJ:Int)==0 then
   bif (decide (0≤fJ))&&(decide (fJ≤(outs.length:Int))) then
    bif Nat.ble ((([]:List V).length+((outs.drop 0).take (((fJ:Int).toNat)-0)).length)*24) bP then
    bif Nat.ble (((([]:List V)++((outs.drop 0).take (((fJ:Int).toNat)-0))).length+([.agg [.int .i64 ((x1.cell 0).toInt),.int .i64 ((x1.cell 1).toInt),.int .i64 ((x1.cell 2).toInt)]]:List V).length)*24) bP then
     bif (decide (0≤fJ))&&(decide (fJ≤(outs.length:Int))) then
     bif Nat.ble ((((([]:List V)++((outs.drop 0).take (((fJ:Int).toNat)-0)))++([.agg [.int .i64 ((x1.cell 0).toInt),.int .i64 ((x1.cell 1).toInt),.int .i64 ((x1.cell 2).toInt)]]:List V)).length+((outs.drop ((fJ:Int).toNat)).take (outs.length-((fJ:Int).toNat))).length)*24) bP then
      kn (IntKind.wrap .i64 (t9+1),((([]:List V)++((outs.drop 0).take (((fJ:Int).toNat)-0)))++([.agg [.int .i64 ((x1.cell 0).toInt),.int .i64 ((x1.cell 1).toInt),.int .i64 ((x1.cell 2).toInt)]]:List V))++((outs.drop ((fJ:Int).toNat)).take (outs.length-((fJ:Int).toNat))))
     else none
     else none
    else none
    else none
   else none
   else
   bif (decide (0≤(IntKind.wrap .i64 (fJ-1))))&&(decide ((IntKind.wrap .i64 (fJ-1))<(outs.length:Int))) then
    (outs[(IntKind.wrap .i64 (fJ-1):Int).toNat]?).bind fun x6=>
    bif !(((((x6.cell 0).toInt):Int)==((x1.cell 0).toInt))&&(((((x6.cell 1).toInt):Int)==((x1.cell 1).toInt))&&(((((x6.cell 2).toInt):Int)==((x1.cell 2).toInt))&&true))) then
    bif (decide (0≤fJ))&&(decide (fJ≤(outs.length:Int))) then
     bif Nat.ble ((([]:List V).length+((outs.drop 0).take (((fJ:Int).toNat)-0)).length)*24) bP then
     bif Nat.ble (((([]:List V)++((outs.drop 0).take (((fJ:Int).toNat)-0))).length+([.agg [.int .i64 ((x1.cell 0).toInt),.int .i64 ((x1.cell 1).toInt),.int .i64 ((x1.cell 2).toInt)]]:List V).length)*24) bP then
      bif (decide (0≤fJ))&&(decide (fJ≤(outs.length:Int))) then
      bif Nat.ble ((((([]:List V)++((outs.drop 0).take (((fJ:Int).toNat)-0)))++([.agg [.int .i64 ((x1.cell 0).toInt),.int .i64 ((x1.cell 1).toInt),.int .i64 ((x1.cell 2).toInt)]]:List V)).length+((outs.drop ((fJ:Int).toNat)).take (outs.length-((fJ:Int).toNat))).length)*24) bP then
       kn (IntKind.wrap .i64 (t9+1),((([]:List V)++((outs.drop 0).take (((fJ:Int).toNat)-0)))++([.agg [.int .i64 ((x1.cell 0).toInt),.int .i64 ((x1.cell 1).toInt),.int .i64 ((x1.cell 2).toInt)]]:List V))++((outs.drop ((fJ:Int).toNat)).take (outs.length-((fJ:Int).toNat))))
      else none
      else none
     else none
     else none
    else none
    else
    kn (IntKind.wrap .i64 (t9+1),outs)
   else none)
 else
  kr (t9,decide ((t9:Int)<t8),outs)
noncomputable def Ea (C:ae) (t7:List V) (t8:Int):(Int × (List V))→Option ((Int × (List V)) ⊕ (Int × Bool × (List V))):=un fun t9 outs=>D9 C t7 t8 t9 outs (fun y=>some (.inl y)) (fun r=>some (.inr r))
noncomputable def Zf (C:ae):cD:=fun β n ds k=>
 bif Nat.beq n 97 then bz NN [true,false,false,false,false,false,false,false] [[0,2,3,4,0,5,6,7,8]] (@D7 C) ds k else
 bif Nat.beq n 49 then bz NO [false,false,true,true] [[1,2,0,0,0]] (@D9 C) ds k else
 none
abbrev Zg (C:ae) (b:cB):Prop:=cC Tryd.prog au C (Zf C) 92 (cQ Tryd.prog (au.bc 92)) (au.sin 92).bj.length b
theorem ajT (C:ae):Zg C (.loop (ao [1,1,0,1,0,0,1,1,0,0,1,1,0,0,0] Jz)):=
 bC NN [true,false,false,false,false,false,false,false] [[0,2,3,4,0,5,6,7,8]] (@D7 C) (by kernel_rfl) (aW (bs:=[]) (by kernel_rfl) ar) (fun ds=>by kernel_rfl) (fun i x=>by kernel_rfl) (fun i x β k=>by kernel_rfl) (fun β ds k=>by kernel_rfl)
theorem ajU (C:ae):Zg C (.loop (ao [1,1,0,1,0,0] Jz)):=
 bC NO [false,false,true,true] [[1,2,0,0,0]] (@D9 C) (by kernel_rfl) (aW (bs:=[.loop (ao [1,1,0,1,0,0,1,1,0,0,1,1,0,0,0] Jz)]) (by kernel_rfl) (bm (ajT C) ar)) (fun ds=>by kernel_rfl) (fun i x=>by kernel_rfl) (fun i x β k=>by kernel_rfl) (fun β ds k=>by kernel_rfl)
noncomputable def Zh (C:ae) (l:List V):Option (List V):=
 (Loop (Ea C l (l.length:Int)) (0,([]:List V))).bind (un fun (mh:Int)=>un fun (qe:Bool) (ajV:List V)=>
  some [.list av ajV])
theorem ajW {l:List V} {r:Option (List V)} (h:Zh CC l=r):CC HB [.list av l]=r:=
 bD (key:=92) (L:=Zf CC) (bs:=[.loop (ao [1,1,0,1,0,0] Jz)]) (by kernel_rfl) (bm (ajU CC) ar) (bB (by kernel_rfl) h)
end Go.AM
set_option maxRecDepth 100000
set_option maxHeartbeats 1000000
namespace Go.AM
open Go.Proofs
theorem Ed.lt_irrefl (a:Ed): ¬a.lt a:=by unfold Ed.lt;omega
theorem Ed.lt_trans {a b c:Ed}:a.lt b→b.lt c→a.lt c:=by unfold Ed.lt;omega
theorem Ed.lt_asymm {a b:Ed}:a.lt b→¬b.lt a:=by unfold Ed.lt;omega
theorem Ed.Zi {a b:Ed} (h1: ¬a.lt b) (h2: ¬b.lt a):a=b:=by
 cases a;cases b
 simp only[Ed.lt,Ed.mk.injEq] at*
 omega
abbrev pg (E:List Ed):Prop:=E.Pairwise Ed.lt
def Ed.key (e:Ed):Nat:=(e.f.toNat*6+e.l.toNat)*64+e.t.toNat
theorem Ed.ajX {a b:Ed} {L S:Int} (hL:L≤6) (hS:S≤64) (ha:a.In L S) (hb:b.In L S) (h:a.lt b):a.key<b.key:=by
 unfold Ed.In at ha hb
 unfold Ed.lt at h
 unfold Ed.key
 omega
theorem ajY {L S:Int} (hL:L≤6) (hS:S≤64): ∀(E:List Ed),pg E→(∀e∈E,e.In L S)→∀i (hi:i<E.length),i≤E[i].key:=by
 intro E h hE i
 induction i with
 | zero=>intro hi;omega
 | succ i ih=>
  intro hi
  have h1:=ih (by omega)
  have h2:=(xA.1 h) i (i+1) (by omega) hi (by omega)
  have:=Ed.ajX hL hS (hE _ (eQ _)) (hE _ (eQ _)) h2
  omega
theorem ajZ {L S:Int} (hL:L≤6) (hS:S≤64) {E:List Ed} (h:pg E) (hE: ∀e∈E,e.In L S):E.length≤24576:=by
 by_cases h0:E.length=0
 ·omega
 ·have h1:=ajY hL hS E h hE (E.length-1) (by omega)
  have h2:=hE E[E.length-1] (eQ _)
  unfold Ed.In at h2
  unfold Ed.key at h1
  omega
theorem Zj: ∀{A B:List Ed},pg A→pg B→(∀x,x∈A↔x∈B)→A=B
 | [],[],_,_,_=>rfl
 | [],b::B,_,_,h=>by have:=(h b).2 (by simp);cases this
 | a::A,[],_,_,h=>by have:=(h a).1 (by simp);cases this
 | a::A,b::B,hA,hB,h=>by
  have a1:=vc.1 hA
  have b1:=vc.1 hB
  have gH:a=b:=by
   have ha:=(h a).1 (by simp)
   have hb:=(h b).2 (by simp)
   rcases gz.1 ha with e|e
   ·exact e
   ·rcases gz.1 hb with e'|e'
    ·exact e'.symm
    ·exact absurd (a1.1 b e') (Ed.lt_asymm (b1.1 a e))
  subst gH
  rw[Zj a1.2 b1.2 fun x=> ?_]
  constructor
  ·intro hx
   rcases gz.1 ((h x).1 (by simp[hx])) with e|e
   ·subst e;exact absurd (a1.1 x hx) (Ed.lt_irrefl x)
   ·exact e
  ·intro hx
   rcases gz.1 ((h x).2 (by simp[hx])) with e|e
   ·subst e;exact absurd (b1.1 x hx) (Ed.lt_irrefl x)
   ·exact e
def ju (out:List Ed) (e:Ed):Nat→Nat
 | 0=>0
 | k+1=>if e.lt (out.getD k default) then ju out e k else k+1
def ph (out:List Ed) (e:Ed):List Ed:=
 if ju out e out.length=0∨¬out.getD (ju out e out.length-1) default=e then out.take (ju out e out.length)++[e]++out.drop (ju out e out.length) else out
def rD (l:List Ed):List Ed:=l.foldl ph []
theorem Eb (out:List Ed) (e:Ed): ∀k,ju out e k≤k
 | 0=>ax _
 | k+1=>by unfold ju;split;exact Nat.le_succ_of_le (Eb out e k);exact ax _
theorem Zk (out:List Ed) (e:Ed): ∀k i,ju out e k≤i→i<k→e.lt (out.getD i default)
 | 0,i,_,h=>by omega
 | k+1,i,h1,h2=>by
  unfold ju at h1
  split at h1
  ·rename_i h3
   by_cases hi:i=k
   ·subst hi;exact h3
   ·exact Zk out e k i h1 (by omega)
  ·omega
theorem Zl (out:List Ed) (e:Ed): ∀k,ju out e k≠0→¬e.lt (out.getD (ju out e k-1) default)
 | 0,h=>by simp[ju] at h
 | k+1,h=>by
  unfold ju at h⊢
  split
  ·rename_i h3
   rw[af h3] at h
   exact Zl out e k h
  ·rename_i h3
   simpa using h3
theorem aj0 {out:List Ed} {e x:Ed} (hk:ju out e out.length≤out.length):x∈ph out e↔x=e∨x∈out:=by
 unfold ph
 split
 ·rename_i h
  have:=List.take_append_drop (ju out e out.length) out
  constructor
  ·intro hx
   simp only[dk,eP,gX] at hx
   rcases hx with hx|hx|hx
   ·exact .inr (Fu hx)
   ·exact .inl hx
   ·exact .inr (List.mem_of_mem_drop hx)
  ·rintro (rfl|hx)
   ·simp
   ·rw[←this] at hx
    simp only[eP] at hx
    simp only[dk,eP,gX]
    rcases hx with hx|hx
    ·exact .inl hx
    ·exact .inr (.inr hx)
 ·rename_i h
  simp only[not_or,Aw] at h
  constructor
  ·exact .inr
  ·rintro (rfl|hx)
   ·have h1:=h.2
    have h2:ju out x out.length-1<out.length:=by omega
    rw[←h1]
    simp[h2]
   ·exact hx
theorem aj1 {out:List Ed} {e:Ed} (h:pg out):pg (ph out e):=by
 have hk:=Eb out e out.length
 have up:=Zk out e out.length
 have dn:=Zl out e out.length
 unfold ph
 generalize hq:ju out e out.length=k at*
 split
 ·rename_i hc
  have g:=xA.1 h
  have jI: ∀x∈out.take k,x.lt e:=by
   intro x hx
   obtain ⟨i,hi,rfl⟩:=ve hx
   have eB:i<k:=by rw[iZ] at hi;omega
   have oN:i<out.length:=by omega
   rw[List.getElem_take]
   have Ec:k≠0:=by omega
   have h1:=dn Ec
   have h2: ¬out.getD (k-1) default=e:=by
    rcases hc with hc|hc
    ·exact absurd hc Ec
    ·exact hc
   have mG:k-1<out.length:=by omega
   have e1:out.getD (k-1) default=out[k-1]:=by simp[mG]
   rw[e1] at h1 h2
   have h3:out[k-1].lt e:=by
    by_cases h4:out[k-1].lt e
    ·exact h4
    ·exact absurd (Ed.Zi h4 h1) h2
   by_cases hik:i=k-1
   ·subst hik;exact h3
   ·exact Ed.lt_trans (g i (k-1) oN mG (by omega)) h3
  have iN: ∀y∈out.drop k,e.lt y:=by
   intro y hy
   obtain ⟨i,hi,rfl⟩:=ve hy
   rw[xz] at hi
   rw[List.getElem_drop]
   have:=up (k+i) (by omega) (by omega)
   have e1:out.getD (k+i) default=out[k+i]:=by simp[show k+i<out.length by omega]
   rwa [e1] at this
  rw[pg,dk,List.pairwise_append]
  refine ⟨h.sublist (List.take_sublist _ _),?_,?_⟩
  ·rw[List.singleton_append,vc]
   exact ⟨iN,h.sublist (List.drop_sublist _ _)⟩
  ·intro x hx y hy
   rw[List.singleton_append,gz] at hy
   rcases hy with rfl|hy
   ·exact jI x hx
   ·exact Ed.lt_trans (jI x hx) (iN y hy)
 ·exact h
theorem PU: ∀(l out:List Ed),pg out→pg (l.foldl ph out)∧∀x,x∈l.foldl ph out↔x∈l∨x∈out
 | [],out,h=>⟨h,by simp⟩
 | e::l,out,h=>by
  obtain ⟨h1,h2⟩:=PU l (ph out e) (aj1 h)
  refine ⟨h1,fun x=> ?_⟩
  rw[List.foldl_cons,h2,aj0 (Eb _ _ _)]
  simp only[gz]
  constructor
  ·rintro (h|h|h)
   ·exact .inl (.inr h)
   ·exact .inl (.inl h)
   ·exact .inr h
  ·rintro ((h|h)|h)
   ·exact .inr (.inl h)
   ·exact .inl h
   ·exact .inr (.inr h)
theorem PV (l:List Ed):pg (rD l):=(PU l [] List.Pairwise.nil).1
theorem zF {l:List Ed} {x:Ed}:x∈rD l↔x∈l:=by
 have:=(PU l [] List.Pairwise.nil).2 x
 simpa[rD] using this
theorem aj2 (out:List Ed) (e:Ed):(ph out e).length≤out.length+1:=by
 unfold ph
 have:=Eb out e out.length
 split
 ·simp only[dd,iZ,xz,List.length_cons,List.length_nil];omega
 ·omega
theorem Zm {out:List Ed} {e:Ed} {t7:List V} {t8 t9:Int}: ∀k,k≤out.length→out.length<1152921504606846976→∃t,Loop (D8 CC t7 t8 t9 (out.map Ed.enc) e.f e.l e.t) (k:Int)=some (((ju out e k:Nat):Int),t)
 | 0,_,_=>⟨false,cl (by
   simp (disch:=omega) only[D8,D7,aA,ag]
   rfl)⟩
 | k+1,hk,hs=>by
  obtain ⟨t,ih⟩:=Zm (out:=out) (e:=e) (t7:=t7) (t8:=t8) (t9:=t9) k (by omega) hs
  have e1:D8 CC t7 t8 t9 (out.map Ed.enc) e.f e.l e.t ((k+1:Nat):Int)=bif decide (e.lt (out.getD k default)) then some (.inl (k:Int)) else some (.inr (((k+1:Nat):Int),decide (e.lt (out.getD k default)))):=by
   simp only[D8,D7]
   rw[aA,af (by omega),uN,wrap64 (by omega) (by omega),dO,aA,af (by omega),aA,af (by rw[cb];omega),Int.toNat_natCast]
   have hg:(out.map Ed.enc)[k]? =some (out.getD k default).enc:=by
    rw[eZ,bM (by omega)];simp[show k<out.length by omega]
   rw[hg]
   simp only[Option.bind_some,Ed.dE,Ed.dF,Ed.dG,Wz,V.cd,V.me]
  unfold ju
  by_cases h:e.lt (out.getD k default)
  ·rw[af h]
   rw[bN h,cond_true] at e1
   exact ⟨t,(eF e1).trans ih⟩
  ·rw[ag h]
   rw[db h,cond_false] at e1
   exact ⟨_,cl e1⟩
theorem Ee (a b:Ed):((a.f==b.f)&&((a.l==b.l)&&((a.t==b.t)&&true)))=decide (a=b):=by
 cases a;cases b
 rw[qB]
 simp
theorem aj3 (out:List Ed) (k:Nat) (e:Ed):((([]:List V)++(((out.map Ed.enc).drop 0).take (k-0)))++([e.enc]:List V))++(((out.map Ed.enc).drop k).take ((out.map Ed.enc).length-k))=(out.take k++[e]++out.drop k).map Ed.enc:=by
 simp
 rw[Fx (by simp)]
theorem aj4 {l:List Ed} (hl:l.length≤1000000000):CC HB [.list av (l.map Ed.enc)]=some [.list av ((rD l).map Ed.enc)]:=by
 refine ajW ?_
 unfold Zh
 have:=OP (step:=Ea CC (l.map Ed.enc) ((l.map Ed.enc).length:Int)) l (fun i (out:List Ed)=>((i:Int),out.map Ed.enc)) ph (fun out=>((l.length:Int),false,out.map Ed.enc)) (fun i out=>out.length≤i) ?_ ?_ [] (ax _)
 ·rw[show Loop (Ea CC (l.map Ed.enc) ((l.map Ed.enc).length:Int)) (0,([]:List V))=_ from this.1]
  rfl
 ·intro i out hi ho
  refine ⟨?_,jT (aj2 _ _) (by omega)⟩
  obtain ⟨t,h1⟩:=Zm (out:=out) (e:=l[i]) (t7:=l.map Ed.enc) (t8:=((l.map Ed.enc).length:Int)) (t9:=(i:Int)) out.length (ax _) (by omega)
  have hk:=Eb out l[i] out.length
  simp only[Ea,D9,un]
  rw[aA,af (by rw[cb];omega),wI hi,OV hi]
  simp only[Option.bind_some,Ed.dE,Ed.dF,Ed.dG]
  rw[show ((out.map Ed.enc).length:Int)=((out.length:Nat):Int) by simp,h1]
  simp only[Option.bind_some,un,Ed.re]
  unfold ph
  generalize ju out l[i] out.length=k at*
  have Zn: ∀X:Option (((Int × List V)) ⊕ (Int × Bool × List V)),X=some (.inl (IntKind.wrap .i64 ((i:Int)+1),((([]:List V)++(((out.map Ed.enc).drop 0).take (((k:Int).toNat)-0)))++([l[i].enc]:List V))++(((out.map Ed.enc).drop ((k:Int).toNat)).take ((out.map Ed.enc).length-((k:Int).toNat)))))→
    X=some (.inl (((i+1:Nat):Int),(out.take k++[l[i]]++out.drop k).map Ed.enc)):=by
   intro X hX
   rw[hX,Int.toNat_natCast,aj3,dY,wrap64 (by omega) (by omega)]
  have lens:(([]:List V).length+(((out.map Ed.enc).drop 0).take (((k:Int).toNat)-0)).length)*24≤bP∧
    ((([]:List V)++(((out.map Ed.enc).drop 0).take (((k:Int).toNat)-0))).length+([l[i].enc]:List V).length)*24≤bP∧
    (((([]:List V)++(((out.map Ed.enc).drop 0).take (((k:Int).toNat)-0)))++([l[i].enc]:List V)).length+(((out.map Ed.enc).drop ((k:Int).toNat)).take ((out.map Ed.enc).length-((k:Int).toNat))).length)*24≤bP:=by
   rw[y7]
   simp only[Int.toNat_natCast,dd,iZ,xz,cb,List.length_nil,List.length_cons]
   omega
  by_cases Ec:k=0
  ·rw[af (Or.inl Ec),oU,af (by omega)]
   refine Zn _ ?_
   rw[dO,aA,af (by omega),aA,af (by omega),sI,af lens.1,sI,af lens.2.1,dO,aA,af (by omega),aA,af (by omega),sI,af lens.2.2]
  ·rw[oU,ag (by omega),kR (by omega),wrap64 (x:=((k-1:Nat):Int)) (by omega) (by omega),dO,aA,af (by omega),aA,af (by omega),Int.toNat_natCast]
   have hg:(out.map Ed.enc)[k-1]? =some (out.getD (k-1) default).enc:=by
    rw[eZ,bM (by omega)];simp[show k-1<out.length by omega]
   rw[hg]
   simp only[Option.bind_some,Ed.dE,Ed.dF,Ed.dG,Ee]
   by_cases hc:out.getD (k-1) default=l[i]
   ·rw[ag (fun hx=>hx.elim Ec (fun h=>h hc)),bN hc]
    simp only[Bool.not_true,cond_false]
    rw[dY,wrap64 (by omega) (by omega)]
   ·rw[af (Or.inr hc),db hc]
    simp only[Bool.not_false,cond_true]
    refine Zn _ ?_
    rw[dO,aA,af (by omega),aA,af (by omega),sI,af lens.1,sI,af lens.2.1,dO,aA,af (by omega),aA,af (by omega),sI,af lens.2.2]
 ·intro out ho
  simp only[Ea,D9,un]
  rw[cb,tp (by omega),cond_false]
end Go.AM
set_option maxRecDepth 100000
namespace Go.AM
open Go.Proofs
noncomputable abbrev JA:Code:=cJ Tryd.prog (au.bc 91)
noncomputable def zG (C:ae) (Ef w8:Nat) (k' lJ:Int) (ss:List V) {β:Type} (kn:(Int × Int × (List V))→Option β) (kr:(Int × Int × Bool × (List V))→Option β):Option β:=
 bif decide ((lJ:Int)<(w8:Int)) then
  bif (decide (0≤lJ))&&(decide (lJ<(w8:Int))) then
  (ss[Ef+((lJ:Int).toNat)]?).bind fun x3=>
  bif (decide (0≤(IntKind.wrap .i64 (lJ-1))))&&(decide ((IntKind.wrap .i64 (lJ-1))<(w8:Int))) then
   (ss[Ef+((IntKind.wrap .i64 (lJ-1):Int).toNat)]?).bind fun x4=>
   bif !(((((x3.cell 0).toInt):Int)==((x4.cell 0).toInt))&&(((((x3.cell 1).toInt):Int)==((x4.cell 1).toInt))&&(((((x3.cell 2).toInt):Int)==((x4.cell 2).toInt))&&true))) then
   bif (decide (0≤lJ))&&(decide (lJ<(w8:Int))) then
    (ss[Ef+((lJ:Int).toNat)]?).bind fun x5=>
    bif (decide (0≤k'))&&(decide (k'<(ss.length:Int))) then
    (ss[(k':Int).toNat]?).bind fun x6=>
    kn (IntKind.wrap .i64 (k'+1),IntKind.wrap .i64 (lJ+1),ss.set ((k':Int).toNat) (.agg [.int .i64 ((x5.cell 0).toInt),.int .i64 ((x5.cell 1).toInt),.int .i64 ((x5.cell 2).toInt)]))
    else none
   else none
   else
   kn (k',IntKind.wrap .i64 (lJ+1),ss)
  else none
  else none
 else
  kr (k',lJ,decide ((lJ:Int)<(w8:Int)),ss)
noncomputable def w9 (C:ae) (Ef w8:Nat):(Int × Int × (List V))→Option ((Int × Int × (List V)) ⊕ (Int × Int × Bool × (List V))):=un fun k'=>un fun lJ ss=>zG C Ef w8 k' lJ ss (fun y=>some (.inl y)) (fun r=>some (.inr r))
noncomputable def zH (C:ae) (ss:List V) (k':Int) {β:Type} (kn:Int→Option β) (kr:((List V) ⊕ (Int × Bool))→Option β):Option β:=
 bif decide ((k':Int)<(ss.length:Int)) then
  bif (decide (0≤k'))&&(decide (k'<(ss.length:Int))) then
  (ss[(k':Int).toNat]?).bind fun x1=>
  bif (decide (0≤(IntKind.wrap .i64 (k'-1))))&&(decide ((IntKind.wrap .i64 (k'-1))<(ss.length:Int))) then
   (ss[(IntKind.wrap .i64 (k'-1):Int).toNat]?).bind fun x2=>
   bif ((((x1.cell 0).toInt):Int)==((x2.cell 0).toInt))&&(((((x1.cell 1).toInt):Int)==((x2.cell 1).toInt))&&(((((x1.cell 2).toInt):Int)==((x2.cell 2).toInt))&&true)) then
   bif (decide (0≤k'))&&(decide (k'≤(ss.length:Int))) then
    (Loop (w9 C ((k':Int).toNat) (ss.length-((k':Int).toNat))) (k',1,ss)).bind (un fun (oc:Int)=>un fun (k_8:Int)=>un fun (tc:Bool) (tq:List V)=>
     bif (decide (0≤oc))&&(decide (oc≤(tq.length:Int))) then
     bif (decide (0≤oc))&&(decide (oc≤((tq.take ((oc:Int).toNat)++(List.replicate (tq.length-((oc:Int).toNat)) (V.agg [.int .i64 0,.int .i64 0,.int .i64 0])++tq.drop (((oc:Int).toNat)+(tq.length-((oc:Int).toNat))))).length:Int))) then
      kr (.inl ((tq.take ((oc:Int).toNat)++(List.replicate (tq.length-((oc:Int).toNat)) (V.agg [.int .i64 0,.int .i64 0,.int .i64 0])++tq.drop (((oc:Int).toNat)+(tq.length-((oc:Int).toNat))))).take ((oc:Int).toNat)))
     else none
     else none)
   else none
   else
   kn (IntKind.wrap .i64 (k'+1))
  else none
  else none
 else
  kr (.inr (k',decide ((k':Int)<(ss.length:Int))))
noncomputable def xb (C:ae) (ss:List V):(Int)→Option ((Int) ⊕ ((List V) ⊕ (Int × Bool))):=fun k'=>zH C ss k' (fun y=>some (.inl y)) (fun r=>some (.inr r))
noncomputable def Zo (C:ae):cD:=fun β n ds k=>
 bif Nat.beq n 145 then bz NL [true,false,false,true,true] [[0,2,3,0,0,0]] (@zG C) ds k else
 bif Nat.beq n 65 then bz NM [true,false] [[0],[0,0,2]] (@zH C) ds k else
 none
abbrev Zp (C:ae) (b:cB):Prop:=cC Tryd.prog au C (Zo C) 91 (cQ Tryd.prog (au.bc 91)) (au.sin 91).bj.length b
theorem aj5 (C:ae):Zp C (.loop (ao [1,1,0,1,0,0,1,0,0,1,0,1,0,1,0,0] JA)):=
 bC NL [true,false,false,true,true] [[0,2,3,0,0,0]] (@zG C) (by kernel_rfl) (aW (bs:=[]) (by kernel_rfl) ar) (fun ds=>by kernel_rfl) (fun i x=>by kernel_rfl) (fun i x β k=>by kernel_rfl) (fun β ds k=>by kernel_rfl)
theorem aj6 (C:ae):Zp C (.loop (ao [1,1,0,1,0,0] JA)):=
 bC NM [true,false] [[0],[0,0,2]] (@zH C) (by kernel_rfl) (aW (bs:=[.loop (ao [1,1,0,1,0,0,1,0,0,1,0,1,0,1,0,0] JA)]) (by kernel_rfl) (bm (aj5 C) ar)) (fun ds=>by kernel_rfl) (fun i x=>by kernel_rfl) (fun i x β k=>by kernel_rfl) (fun β ds k=>by kernel_rfl)
noncomputable def JB (C:ae) (ss:List V):Option (List V):=
 bif decide (((ss.length:Int):Int)<2) then
  some [V.bool true,.list av ss]
 else
  (Loop (xb C ss) 1).bind (cL (fun (aj7:List V)=>
   some [V.bool false,.list av aj7]) (un fun (aoo:Int) (o4:Bool)=>
   some [V.bool true,.list av ss]))
theorem PW {ss:List V} {r:Option (List V)} (h:JB CC ss=r):CC HA [.list av ss]=r:=
 bD (key:=91) (L:=Zo CC) (bs:=[.loop (ao [1,1,0,1,0,0] JA)]) (by kernel_rfl) (bm (aj6 CC) ar) (bB (by kernel_rfl) h)
def pj (prev:Ed):List Ed→List Ed
 | []=>[]
 | x::l=>if x=prev then pj x l else x::pj x l
def jv:List Ed→List Ed
 | []=>[]
 | x::l=>x::pj x l
theorem PX {l:List Ed} {j:Nat} (h:j<l.length):l.take (j+1)=l.take j++[l.getD j default]:=by
 rw[Ko h];simp[h]
theorem Zq {l ss:List Ed} {j:Nat} (hl:ss.length=l.length) (h:ss.drop j=l.drop j) (hj:j<l.length):ss.getD j default=l.getD j default:=by
 have h1:=congrArg (fun x:List Ed=>x.getD 0 default) h
 simpa[hj,hl] using h1
theorem Eg {l:List Ed} {i:Nat} (h:i<l.length):(l.map Ed.enc)[i]? =some (l.getD i default).enc:=by simp[h]
theorem aj8 (ss:List Ed) (m:Nat) (z:V) (hm:m≤ss.length):((((ss.map Ed.enc).take m++(List.replicate ((ss.map Ed.enc).length-m) z++(ss.map Ed.enc).drop (m+((ss.map Ed.enc).length-m)))).take m)=(ss.take m).map Ed.enc):=by
 rw[List.take_append_of_le_length (by simp;omega),Fx (by simp;omega),List.map_take]
theorem Zr: ∀(m:List Ed) (prev x:Ed),pj prev (m++[x])=pj prev m++(if x=(prev::m).getD m.length default then [] else [x])
 | [],prev,x=>by simp only[List.nil_append,pj,List.length_nil,List.getD_cons_zero]
 | y::m,prev,x=>by
  have ih:=Zr m y x
  simp only[List.cons_append,pj,List.length_cons,List.getD_cons_succ]
  split
  ·exact ih
  ·rw[ih];rfl
theorem Zs {l:List Ed} {p:Nat} (h1:1≤p) (h2:p<l.length):jv (l.take (p+1))=jv (l.take p)++(if l.getD p default=l.getD (p-1) default then [] else [l.getD p default]):=by
 match l,p,h1,h2 with
 | y::l,p+1,_,h2=>
  simp only[List.length_cons] at h2
  rw[List.take_succ_cons,List.take_succ_cons,jv,jv,PX (by omega),Zr]
  simp only[List.getD_cons_succ,iZ,Fp]
  rw[show min p l.length=p by omega]
  have:(y::l.take p).getD p default=(y::l).getD p default:=by
   match p with
   | 0=>rfl
   | q+1=>simp only[List.getD_cons_succ];rw[tI,tI,fK (by omega)]
  rw[this];rfl
theorem Zt: ∀(m:List Ed) (prev:Ed),(prev::m).Pairwise (fun x y=> ¬y.lt x)→pg (prev::pj prev m)∧∀x,x∈prev::pj prev m↔x∈prev::m
 | [],prev,_=>⟨by simp[pj],by simp[pj]⟩
 | y::m,prev,h=>by
  have h1:=vc.1 h
  obtain ⟨i1,i2⟩:=Zt m y h1.2
  rw[pj]
  by_cases hc:y=prev
  ·rw[af hc]
   subst hc
   refine ⟨i1,fun x=> ?_⟩
   rw[i2 x];simp
  ·rw[ag hc]
   have a9:prev.lt y:=by
    by_cases h2:prev.lt y
    ·exact h2
    ·exact absurd (Ed.Zi h2 (h1.1 y (by simp))) fun e=>hc e.symm
   refine ⟨vc.2 ⟨fun x hx=> ?_,i1⟩,fun x=> ?_⟩
   ·rcases gz.1 hx with rfl|hx
    ·exact a9
    ·exact Ed.lt_trans a9 ((vc.1 i1).1 x hx)
   ·rw[gz,i2 x,←gz]
theorem aj9 {l:List Ed} (h:l.Pairwise (fun x y=> ¬y.lt x)):pg (jv l)∧∀x,x∈jv l↔x∈l:=by
 match l,h with
 | [],_=>exact ⟨List.Pairwise.nil,fun _=>Iff.rfl⟩
 | y::l,h=>exact Zt l y h
section
variable {l:List Ed} (hn:l.length≤1000000)
include hn
theorem aka {k:Nat}: ∀(d k2 i:Nat) (ss:List Ed),k+k2+d=l.length→1≤k2→i+1≤k+k2→ss.length=l.length→ss.take i=jv (l.take (k+k2))→ss.drop (k+k2-1)=l.drop (k+k2-1)→
  ∃t u zI,Loop (w9 CC k (l.length-k)) ((i:Int),(k2:Int),ss.map Ed.enc)=some (((jv l).length:Int),u,t,List.map Ed.enc zI)∧zI.take (jv l).length=jv l∧zI.length=l.length:=by
 intro d
 induction d with
 | zero=>
  intro k2 i ss hj uu hi hl ht hd
  have e0:l.take (k+k2)=l:=Fx (by omega)
  rw[e0] at ht
  have iM:i=(jv l).length:=by rw[←ht,iZ];omega
  refine ⟨false,(k2:Int),ss,cl ?_,by rw[←iM];exact ht,hl⟩
  simp only[w9,zG,un,cb,aA]
  rw[ag (by omega),db (by omega),iM]
 | succ d ih=>
  intro k2 i ss hj uu hi hl ht hd
  have hp:k+k2<l.length:=by omega
  have oI:ss.drop (k+k2)=l.drop (k+k2):=by
   have h:=congrArg (List.drop 1) hd
   rw[List.drop_drop,List.drop_drop] at h
   rwa [show k+k2-1+1=k+k2 by omega] at h
  have g1:=Zq hl oI hp
  have g0:=Zq hl hd (show k+k2-1<l.length by omega)
  have x1:(ss.map Ed.enc)[k+k2]? =some (l.getD (k+k2) default).enc:=by rw[Eg (by omega),g1]
  have x0:(ss.map Ed.enc)[k+(k2-1)]? =some (l.getD (k+k2-1) default).enc:=by rw[show k+(k2-1)=k+k2-1 by omega,Eg (by omega),g0]
  have w1:IntKind.wrap .i64 ((k2:Int)-1)=((k2-1:Nat):Int):=by rw[wrap64 (by omega) (by omega)];omega
  have t1:((k2:Nat):Int)<((l.length-k:Nat):Int):=by omega
  have t2:(0:Int)≤((k2:Nat):Int):=by omega
  have t3:(0:Int)≤((k2-1:Nat):Int):=by omega
  have t4:((k2-1:Nat):Int)<((l.length-k:Nat):Int):=by omega
  have t5:((i:Nat):Int)<(ss.length:Int):=by omega
  have t6:(0:Int)≤((i:Nat):Int):=by omega
  have Bx: ∃y,(ss.map Ed.enc)[i]? =some y:=⟨_,Eg (by omega)⟩
  obtain ⟨y,hy⟩:=Bx
  have cs:=Zs (l:=l) (p:=k+k2) (by omega) hp
  by_cases he:l.getD (k+k2) default=l.getD (k+k2-1) default
  ·have b6:w9 CC k (l.length-k) ((i:Int),(k2:Int),ss.map Ed.enc)=some (.inl ((i:Int),((k2+1:Nat):Int),ss.map Ed.enc)):=by
    simp only[w9,zG,un]
    refine bT (bN t1) ?_
    refine bT (jz.2 ⟨bN t2,bN t1⟩) ?_
    rw[Int.toNat_natCast]
    refine bs x1 ?_
    rw[w1]
    refine bT (jz.2 ⟨bN t3,bN t4⟩) ?_
    rw[Int.toNat_natCast]
    refine bs x0 ?_
    simp only[Ed.dE,Ed.dF,Ed.dG,Ee]
    rw[bN he]
    refine bF rfl ?_
    rw[wrap64 (by omega) (by omega)]
    rfl
   rw[eF b6]
   refine ih (k2+1) i ss (by omega) (by omega) (by omega) hl ?_ (by rw[show k+(k2+1)-1=k+k2 by omega];exact oI)
   rw[show k+(k2+1)=k+k2+1 by omega,cs,af he,iD,ht]
  ·have b6:w9 CC k (l.length-k) ((i:Int),(k2:Int),ss.map Ed.enc)=some (.inl (((i+1:Nat):Int),((k2+1:Nat):Int),(ss.set i (l.getD (k+k2) default)).map Ed.enc)):=by
    simp only[w9,zG,un]
    refine bT (bN t1) ?_
    refine bT (jz.2 ⟨bN t2,bN t1⟩) ?_
    rw[Int.toNat_natCast]
    refine bs x1 ?_
    rw[w1]
    refine bT (jz.2 ⟨bN t3,bN t4⟩) ?_
    rw[Int.toNat_natCast]
    refine bs x0 ?_
    simp only[Ed.dE,Ed.dF,Ed.dG,Ee]
    rw[db he]
    refine bT rfl ?_
    refine bT (jz.2 ⟨bN t2,bN t1⟩) ?_
    refine bs x1 ?_
    refine bT (by rw[cb];exact jz.2 ⟨bN t6,bN t5⟩) ?_
    rw[Int.toNat_natCast]
    refine bs hy ?_
    simp only[Ed.dE,Ed.dF,Ed.dG,Ed.re]
    rw[wrap64 (by omega) (by omega),wrap64 (by omega) (by omega),List.map_set]
    rfl
   rw[eF b6]
   refine ih (k2+1) (i+1) (ss.set i (l.getD (k+k2) default)) (by omega) (by omega) (by omega) (by simpa using hl) ?_ ?_
   ·rw[PX (by rw[rN];omega),List.take_set_of_le (ax i),ht,show k+(k2+1)=k+k2+1 by omega,cs,ag he]
    simp[show i<ss.length by omega]
   ·rw[show k+(k2+1)-1=k+k2 by omega,List.drop_set_of_lt (by omega),oI]
theorem akb: ∀(d p:Nat),p+d=l.length→1≤p→jv (l.take p)=l.take p→
  (jv l=l∧∃t,Loop (xb CC (l.map Ed.enc)) (p:Int)=some (.inr t))∨Loop (xb CC (l.map Ed.enc)) (p:Int)=some (.inl ((jv l).map Ed.enc)):=by
 intro d
 induction d with
 | zero=>
  intro p hp h1 hc
  obtain rfl:p=l.length:=by omega
  rw[u7] at hc
  refine .inl ⟨hc,((l.length:Int),false),cl ?_⟩
  simp only[xb,zH,cb,aA]
  rw[ag (by omega),db (by omega)]
 | succ d ih=>
  intro p hp h1 hc
  have fD:p<l.length:=by omega
  have cs:=Zs (l:=l) h1 fD
  have x1:(l.map Ed.enc)[p]? =some (l.getD p default).enc:=Eg fD
  have x0:(l.map Ed.enc)[p-1]? =some (l.getD (p-1) default).enc:=Eg (by omega)
  have w1:IntKind.wrap .i64 ((p:Int)-1)=((p-1:Nat):Int):=by rw[wrap64 (by omega) (by omega)];omega
  have t1:((p:Nat):Int)<(l.length:Int):=by omega
  have t2:(0:Int)≤((p:Nat):Int):=by omega
  have t3:(0:Int)≤((p-1:Nat):Int):=by omega
  have t4:((p-1:Nat):Int)<(l.length:Int):=by omega
  have t5:((p:Nat):Int)≤(l.length:Int):=by omega
  by_cases he:l.getD p default=l.getD (p-1) default
  ·refine .inr (cl ?_)
   obtain ⟨t,u,zI,e1,e2,e3⟩:=aka hn (k:=p) (l.length-(p+1)) 1 p l (by omega) (by omega) (by omega) rfl (by rw[cs,af he,iD,hc]) rfl
   have hm:(jv l).length≤zI.length:=by
    have:=congrArg List.length e2
    rw[iZ] at this
    omega
   have m1:(0:Int)≤(((jv l).length:Nat):Int):=by omega
   have m2:(((jv l).length:Nat):Int)≤((zI.map Ed.enc).length:Int):=by rw[cb];omega
   simp only[xb,zH,cb]
   refine bT (bN t1) ?_
   refine bT (jz.2 ⟨bN t2,bN t1⟩) ?_
   rw[Int.toNat_natCast]
   refine bs x1 ?_
   rw[w1]
   refine bT (jz.2 ⟨bN t3,bN t4⟩) ?_
   rw[Int.toNat_natCast]
   refine bs x0 ?_
   simp only[Ed.dE,Ed.dF,Ed.dG,Ee]
   rw[bN he]
   refine bT rfl ?_
   refine bT (jz.2 ⟨bN t2,bN t5⟩) ?_
   refine (congrArg (fun o=>Option.bind o _) e1).trans ?_
   simp only[Option.bind_some,un,dO,aA,Int.toNat_natCast]
   rw[af m1,af m2,af m1,af (by simp only[dd,iZ,An,xz,cb];omega),aj8 _ _ _ hm,e2]
  ·have b6:xb CC (l.map Ed.enc) (p:Int)=some (.inl ((p+1:Nat):Int)):=by
    simp only[xb,zH,cb]
    refine bT (bN t1) ?_
    refine bT (jz.2 ⟨bN t2,bN t1⟩) ?_
    rw[Int.toNat_natCast]
    refine bs x1 ?_
    rw[w1]
    refine bT (jz.2 ⟨bN t3,bN t4⟩) ?_
    rw[Int.toNat_natCast]
    refine bs x0 ?_
    simp only[Ed.dE,Ed.dF,Ed.dG,Ee]
    rw[db he]
    refine bF rfl ?_
    rw[wrap64 (by omega) (by omega)]
    rfl
   rw[eF b6]
   exact ih (p+1) (by omega) (by omega) (by rw[cs,ag he,hc,←PX fD])
theorem Zu: ∃b,CC HA [.list av (l.map Ed.enc)]=some [.bool b,.list av ((jv l).map Ed.enc)]:=by
 by_cases h2:l.length<2
 ·refine ⟨true,PW ?_⟩
  unfold JB
  rw[cb,aA,af (by omega)]
  match l,h2 with
  | [],_=>rfl
  | [k],_=>rfl
 ·rcases akb hn (l.length-1) 1 (by omega) (by omega) (by
   match l,h2 with
   | k::l,_=>rfl) with ⟨h3,t,h4⟩|h4
  ·refine ⟨true,PW ?_⟩
   unfold JB
   rw[cb,aA,ag (by omega)]
   refine (congrArg (fun o=>Option.bind o _) h4).trans ?_
   rw[h3];rfl
  ·refine ⟨false,PW ?_⟩
   unfold JB
   rw[cb,aA,ag (by omega)]
   refine (congrArg (fun o=>Option.bind o _) h4).trans ?_
   rfl
end
noncomputable def Zv (C:ae) (mO mP mQ s7 s8 s9:Int):Option (List V):=
 (C sP [.int .i64 mO,.int .i64 s7]).bind fun r1=>
 (C sP [.int .i64 mP,.int .i64 s8]).bind fun r2=>
 (C sP [.int .i64 mQ,.int .i64 s9]).bind fun r3=>
 (C Cc [.list bt ([.int .i64 ((V.nth r1 0).toInt),.int .i64 ((V.nth r2 0).toInt),.int .i64 ((V.nth r3 0).toInt)]:List V)]).bind fun r4=>
 some [.int .i64 ((V.nth r4 0).toInt)]
theorem akc {mO mP mQ s7 s8 s9:Int} {r:Option (List V)} (h:Zv CC mO mP mQ s7 s8 s9=r):CC bG [.int .i64 mO,.int .i64 mP,.int .i64 mQ,.int .i64 s7,.int .i64 s8,.int .i64 s9]=r:=
 bD (key:=88) (L:=dJ) (bs:=[]) (by kernel_rfl) ar (bB (by kernel_rfl) h)
theorem iA (a b:Ed):CC bG [.int .i64 a.f,.int .i64 a.l,.int .i64 a.t,.int .i64 b.f,.int .i64 b.l,.int .i64 b.t]=some [.int .i64 (cf a b)]:=by
 refine akc ?_
 unfold Zv
 refine bs (y8 _ _) ?_
 refine bs (y8 _ _) ?_
 refine bs (y8 _ _) ?_
 refine bs (Wy _ _ _) ?_
 rfl
noncomputable abbrev JC:Code:=cJ Tryd.prog (au.bc 170)
noncomputable def zJ (C:ae) (a b' i j:Int) (ah:List V) {β:Type} (kn:(Int × (List V))→Option β) (kr:(Int × Bool × (List V))→Option β):Option β:=
 bif decide ((j:Int)>a) then
  bif (decide (0≤j))&&(decide (j<(ah.length:Int))) then
  (ah[(j:Int).toNat]?).bind fun x1=>
  bif (decide (0≤(IntKind.wrap .i64 (j-1))))&&(decide ((IntKind.wrap .i64 (j-1))<(ah.length:Int))) then
   (ah[(IntKind.wrap .i64 (j-1):Int).toNat]?).bind fun x2=>
   (C bG [.int .i64 ((x1.cell 0).toInt),.int .i64 ((x1.cell 1).toInt),.int .i64 ((x1.cell 2).toInt),.int .i64 ((x2.cell 0).toInt),.int .i64 ((x2.cell 1).toInt),.int .i64 ((x2.cell 2).toInt)]).bind fun r3=>
   bif decide ((((V.nth r3 0).toInt):Int)<0) then
   bif (decide (0≤(IntKind.wrap .i64 (j-1))))&&(decide ((IntKind.wrap .i64 (j-1))<(ah.length:Int))) then
    (ah[(IntKind.wrap .i64 (j-1):Int).toNat]?).bind fun x4=>
    bif (decide (0≤j))&&(decide (j<(ah.length:Int))) then
    (ah[(j:Int).toNat]?).bind fun x5=>
    bif (decide (0≤j))&&(decide (j<(ah.length:Int))) then
     (ah[(j:Int).toNat]?).bind fun x6=>
     bif (decide (0≤(IntKind.wrap .i64 (j-1))))&&(decide ((IntKind.wrap .i64 (j-1))<((ah.set ((j:Int).toNat) (.agg [.int .i64 ((x4.cell 0).toInt),.int .i64 ((x4.cell 1).toInt),.int .i64 ((x4.cell 2).toInt)])).length:Int))) then
     ((ah.set ((j:Int).toNat) (.agg [.int .i64 ((x4.cell 0).toInt),.int .i64 ((x4.cell 1).toInt),.int .i64 ((x4.cell 2).toInt)]))[(IntKind.wrap .i64 (j-1):Int).toNat]?).bind fun x7=>
     kn (IntKind.wrap .i64 (j-1),(ah.set ((j:Int).toNat) (.agg [.int .i64 ((x4.cell 0).toInt),.int .i64 ((x4.cell 1).toInt),.int .i64 ((x4.cell 2).toInt)])).set ((IntKind.wrap .i64 (j-1):Int).toNat) (.agg [.int .i64 ((x5.cell 0).toInt),.int .i64 ((x5.cell 1).toInt),.int .i64 ((x5.cell 2).toInt)]))
     else none
    else none
    else none
   else none
   else
   kr (j,decide ((((V.nth r3 0).toInt):Int)<0),ah)
  else none
  else none
 else
  kr (j,false,ah)
noncomputable def zK (C:ae) (a b' i:Int):(Int × (List V))→Option ((Int × (List V)) ⊕ (Int × Bool × (List V))):=un fun j ah=>zJ C a b' i j ah (fun y=>some (.inl y)) (fun r=>some (.inr r))
noncomputable def Eh (C:ae) (a b' i:Int) (ah:List V) {β:Type} (kn:(Int × (List V))→Option β) (kr:(Int × Bool × (List V))→Option β):Option β:=
 bif decide ((i:Int)<b') then
  (Loop (zK C a b' i) (i,ah)).bind (un fun (j_8:Int)=>un fun (tc:Bool) (qp:List V)=>
   kn (IntKind.wrap .i64 (i+1),qp))
 else
  kr (i,decide ((i:Int)<b'),ah)
noncomputable def JD (C:ae) (a b':Int):(Int × (List V))→Option ((Int × (List V)) ⊕ (Int × Bool × (List V))):=un fun i ah=>Eh C a b' i ah (fun y=>some (.inl y)) (fun r=>some (.inr r))
noncomputable def Zw (C:ae):cD:=fun β n ds k=>
 bif Nat.beq n 65 then bz Oo [false,false,false,true,true] [[1,2,3,0,0,0]] (@zJ C) ds k else
 bif Nat.beq n 17 then bz Oq [false,false,true,true] [[1,2,0,0,0]] (@Eh C) ds k else
 none
abbrev Zx (C:ae) (b:cB):Prop:=cC Tryd.prog au C (Zw C) 170 (cQ Tryd.prog (au.bc 170)) (au.sin 170).bj.length b
theorem akd (C:ae):Zx C (.loop (ao [1,0,0,1,0,0,1,0,0] JC)):=
 bC Oo [false,false,false,true,true] [[1,2,3,0,0,0]] (@zJ C) (by kernel_rfl) (aW (bs:=[]) (by kernel_rfl) ar) (fun ds=>by kernel_rfl) (fun i x=>by kernel_rfl) (fun i x β k=>by kernel_rfl) (fun β ds k=>by kernel_rfl)
theorem ake (C:ae):Zx C (.loop (ao [1,0,0] JC)):=
 bC Oq [false,false,true,true] [[1,2,0,0,0]] (@Eh C) (by kernel_rfl) (aW (bs:=[.loop (ao [1,0,0,1,0,0,1,0,0] JC)]) (by kernel_rfl) (bm (akd C) ar)) (fun ds=>by kernel_rfl) (fun i x=>by kernel_rfl) (fun i x β k=>by kernel_rfl) (fun β ds k=>by kernel_rfl)
noncomputable def Zy (C:ae) (a b':Int) (ah:List V):Option (List V):=
 (Loop (JD C a b') (IntKind.wrap .i64 (a+1),ah)).bind (un fun (aop:Int)=>un fun (zu:Bool) (PY:List V)=>
  some [.list av PY])
theorem akf {a b':Int} {ah:List V} {r:Option (List V)} (h:Zy CC a b' ah=r):CC HU [.int .i64 a,.int .i64 b',.list av ah]=r:=
 bD (key:=170) (L:=Zw CC) (bs:=[.loop (ao [1,0,0] JC)]) (by kernel_rfl) (bm (ake CC) ar) (bB (by kernel_rfl) h)
noncomputable abbrev zL:Code:=cJ Tryd.prog (au.bc 177)
noncomputable def xc (C:ae) (hi first root child:Int) (t40:Bool) (ah:List V) {β:Type} (kr:(Int)→Option β):Option β:=
 bif t40 then
  kr (IntKind.wrap .i64 (child+1))
 else
  kr child
noncomputable def uO (C:ae) (hi first root:Int) (ah:List V) {β:Type} (kn:(Int × (List V))→Option β) (kr:((Int × Int × Bool × (List V)) ⊕ (Int × Int × Bool × (List V)))→Option β):Option β:=
 bif decide (((IntKind.wrap .i64 ((IntKind.wrap .i64 (root*2))+1)):Int)≥hi) then
  kr (.inl (root,IntKind.wrap .i64 ((IntKind.wrap .i64 (root*2))+1),decide (((IntKind.wrap .i64 ((IntKind.wrap .i64 (root*2))+1)):Int)≥hi),ah))
 else
  bif decide (((IntKind.wrap .i64 ((IntKind.wrap .i64 ((IntKind.wrap .i64 (root*2))+1))+1)):Int)<hi) then
  bif (decide (0≤(IntKind.wrap .i64 (first+(IntKind.wrap .i64 ((IntKind.wrap .i64 (root*2))+1))))))&&(decide ((IntKind.wrap .i64 (first+(IntKind.wrap .i64 ((IntKind.wrap .i64 (root*2))+1))))<(ah.length:Int))) then
   (ah[(IntKind.wrap .i64 (first+(IntKind.wrap .i64 ((IntKind.wrap .i64 (root*2))+1))):Int).toNat]?).bind fun x1=>
   bif (decide (0≤(IntKind.wrap .i64 ((IntKind.wrap .i64 (first+(IntKind.wrap .i64 ((IntKind.wrap .i64 (root*2))+1))))+1))))&&(decide ((IntKind.wrap .i64 ((IntKind.wrap .i64 (first+(IntKind.wrap .i64 ((IntKind.wrap .i64 (root*2))+1))))+1))<(ah.length:Int))) then
   (ah[(IntKind.wrap .i64 ((IntKind.wrap .i64 (first+(IntKind.wrap .i64 ((IntKind.wrap .i64 (root*2))+1))))+1):Int).toNat]?).bind fun x2=>
   (C bG [.int .i64 ((x1.cell 0).toInt),.int .i64 ((x1.cell 1).toInt),.int .i64 ((x1.cell 2).toInt),.int .i64 ((x2.cell 0).toInt),.int .i64 ((x2.cell 1).toInt),.int .i64 ((x2.cell 2).toInt)]).bind fun r3=>
   xc C hi first root (IntKind.wrap .i64 ((IntKind.wrap .i64 (root*2))+1)) (decide ((((V.nth r3 0).toInt):Int)<0)) ah (fun (pk:Int)=>
    bif (decide (0≤(IntKind.wrap .i64 (first+root))))&&(decide ((IntKind.wrap .i64 (first+root))<(ah.length:Int))) then
     (ah[(IntKind.wrap .i64 (first+root):Int).toNat]?).bind fun x5=>
     bif (decide (0≤(IntKind.wrap .i64 (first+pk))))&&(decide ((IntKind.wrap .i64 (first+pk))<(ah.length:Int))) then
     (ah[(IntKind.wrap .i64 (first+pk):Int).toNat]?).bind fun x6=>
     (C bG [.int .i64 ((x5.cell 0).toInt),.int .i64 ((x5.cell 1).toInt),.int .i64 ((x5.cell 2).toInt),.int .i64 ((x6.cell 0).toInt),.int .i64 ((x6.cell 1).toInt),.int .i64 ((x6.cell 2).toInt)]).bind fun r7=>
     bif !(decide ((((V.nth r7 0).toInt):Int)<0)) then
      kr (.inr (root,pk,!(decide ((((V.nth r7 0).toInt):Int)<0)),ah))
     else
      bif (decide (0≤(IntKind.wrap .i64 (first+pk))))&&(decide ((IntKind.wrap .i64 (first+pk))<(ah.length:Int))) then
      (ah[(IntKind.wrap .i64 (first+pk):Int).toNat]?).bind fun x8=>
      bif (decide (0≤(IntKind.wrap .i64 (first+root))))&&(decide ((IntKind.wrap .i64 (first+root))<(ah.length:Int))) then
       (ah[(IntKind.wrap .i64 (first+root):Int).toNat]?).bind fun x9=>
       bif (decide (0≤(IntKind.wrap .i64 (first+root))))&&(decide ((IntKind.wrap .i64 (first+root))<(ah.length:Int))) then
       (ah[(IntKind.wrap .i64 (first+root):Int).toNat]?).bind fun iT=>
       bif (decide (0≤(IntKind.wrap .i64 (first+pk))))&&(decide ((IntKind.wrap .i64 (first+pk))<((ah.set ((IntKind.wrap .i64 (first+root):Int).toNat) (.agg [.int .i64 ((x8.cell 0).toInt),.int .i64 ((x8.cell 1).toInt),.int .i64 ((x8.cell 2).toInt)])).length:Int))) then
        ((ah.set ((IntKind.wrap .i64 (first+root):Int).toNat) (.agg [.int .i64 ((x8.cell 0).toInt),.int .i64 ((x8.cell 1).toInt),.int .i64 ((x8.cell 2).toInt)]))[(IntKind.wrap .i64 (first+pk):Int).toNat]?).bind fun fH=>
        kn (pk,(ah.set ((IntKind.wrap .i64 (first+root):Int).toNat) (.agg [.int .i64 ((x8.cell 0).toInt),.int .i64 ((x8.cell 1).toInt),.int .i64 ((x8.cell 2).toInt)])).set ((IntKind.wrap .i64 (first+pk):Int).toNat) (.agg [.int .i64 ((x9.cell 0).toInt),.int .i64 ((x9.cell 1).toInt),.int .i64 ((x9.cell 2).toInt)]))
       else none
       else none
      else none
      else none
     else none
    else none)
   else none
  else none
  else
  xc C hi first root (IntKind.wrap .i64 ((IntKind.wrap .i64 (root*2))+1)) false ah (fun (pn:Int)=>
   bif (decide (0≤(IntKind.wrap .i64 (first+root))))&&(decide ((IntKind.wrap .i64 (first+root))<(ah.length:Int))) then
    (ah[(IntKind.wrap .i64 (first+root):Int).toNat]?).bind fun gO=>
    bif (decide (0≤(IntKind.wrap .i64 (first+pn))))&&(decide ((IntKind.wrap .i64 (first+pn))<(ah.length:Int))) then
    (ah[(IntKind.wrap .i64 (first+pn):Int).toNat]?).bind fun kQ=>
    (C bG [.int .i64 ((gO.cell 0).toInt),.int .i64 ((gO.cell 1).toInt),.int .i64 ((gO.cell 2).toInt),.int .i64 ((kQ.cell 0).toInt),.int .i64 ((kQ.cell 1).toInt),.int .i64 ((kQ.cell 2).toInt)]).bind fun n0=>
    bif !(decide ((((V.nth n0 0).toInt):Int)<0)) then
     kr (.inr (root,pn,!(decide ((((V.nth n0 0).toInt):Int)<0)),ah))
    else
     bif (decide (0≤(IntKind.wrap .i64 (first+pn))))&&(decide ((IntKind.wrap .i64 (first+pn))<(ah.length:Int))) then
     (ah[(IntKind.wrap .i64 (first+pn):Int).toNat]?).bind fun gU=>
     bif (decide (0≤(IntKind.wrap .i64 (first+root))))&&(decide ((IntKind.wrap .i64 (first+root))<(ah.length:Int))) then
      (ah[(IntKind.wrap .i64 (first+root):Int).toNat]?).bind fun rA=>
      bif (decide (0≤(IntKind.wrap .i64 (first+root))))&&(decide ((IntKind.wrap .i64 (first+root))<(ah.length:Int))) then
      (ah[(IntKind.wrap .i64 (first+root):Int).toNat]?).bind fun zt=>
      bif (decide (0≤(IntKind.wrap .i64 (first+pn))))&&(decide ((IntKind.wrap .i64 (first+pn))<((ah.set ((IntKind.wrap .i64 (first+root):Int).toNat) (.agg [.int .i64 ((gU.cell 0).toInt),.int .i64 ((gU.cell 1).toInt),.int .i64 ((gU.cell 2).toInt)])).length:Int))) then
       ((ah.set ((IntKind.wrap .i64 (first+root):Int).toNat) (.agg [.int .i64 ((gU.cell 0).toInt),.int .i64 ((gU.cell 1).toInt),.int .i64 ((gU.cell 2).toInt)]))[(IntKind.wrap .i64 (first+pn):Int).toNat]?).bind fun m8=>
       kn (pn,(ah.set ((IntKind.wrap .i64 (first+root):Int).toNat) (.agg [.int .i64 ((gU.cell 0).toInt),.int .i64 ((gU.cell 1).toInt),.int .i64 ((gU.cell 2).toInt)])).set ((IntKind.wrap .i64 (first+pn):Int).toNat) (.agg [.int .i64 ((rA.cell 0).toInt),.int .i64 ((rA.cell 1).toInt),.int .i64 ((rA.cell 2).toInt)]))
      else none
      else none
     else none
     else none
    else none
   else none)
noncomputable def qq (C:ae) (hi first:Int):(Int × (List V))→Option ((Int × (List V)) ⊕ ((Int × Int × Bool × (List V)) ⊕ (Int × Int × Bool × (List V)))):=un fun root ah=>uO C hi first root ah (fun y=>some (.inl y)) (fun r=>some (.inr r))
noncomputable def Zz (C:ae):cD:=fun β n ds k=>
 bif Nat.beq n 655 then mM Oz [[1,2,3,0,6]] (@xc C) ds k else
 bif Nat.beq n 17 then bz OA [false,false,true,true] [[1,2,0,0,0,0],[1,2,0,0,0,0]] (@uO C) ds k else
 none
abbrev ZA (C:ae) (b:cB):Prop:=cC Tryd.prog au C (Zz C) 177 (cQ Tryd.prog (au.bc 177)) (au.sin 177).bj.length b
theorem akg (C:ae):ZA C (.cond 40 (ao [1,0,0,0,1,1,0,1,0] zL) (ao [1,0,0,0,1,1,0,1,1] zL)):=
 nL Oz [[1,2,3,0,6]] (@xc C) (by kernel_rfl) (aW (bs:=[]) (by kernel_rfl) ar) (aW (bs:=[]) (by kernel_rfl) ar) (fun ds=>by kernel_rfl) (fun i β k=>by kernel_rfl) (fun β ds k=>by kernel_rfl)
theorem akh (C:ae):ZA C (.loop (ao [1,0,0] zL)):=
 bC OA [false,false,true,true] [[1,2,0,0,0,0],[1,2,0,0,0,0]] (@uO C) (by kernel_rfl) (aW (bs:=[.cond 40 (ao [1,0,0,0,1,1,0,1,0] zL) (ao [1,0,0,0,1,1,0,1,1] zL)]) (by kernel_rfl) (bm (akg C) ar)) (fun ds=>by kernel_rfl) (fun i x=>by kernel_rfl) (fun i x β k=>by kernel_rfl) (fun β ds k=>by kernel_rfl)
noncomputable def ZB (C:ae) (lo hi first:Int) (ah:List V):Option (List V):=
 (Loop (qq C hi first) (lo,ah)).bind (cL (un fun (aoq:Int)=>un fun (aor:Int)=>un fun (Pu:Bool) (aki:List V)=>
  some [.list av aki]) (un fun (aos:Int)=>un fun (aot:Int)=>un fun (aiP:Bool) (tt:List V)=>
  some [.list av tt]))
theorem akj {lo hi first:Int} {ah:List V} {r:Option (List V)} (h:ZB CC lo hi first ah=r):CC HY [.int .i64 lo,.int .i64 hi,.int .i64 first,.list av ah]=r:=
 bD (key:=177) (L:=Zz CC) (bs:=[.loop (ao [1,0,0] zL)]) (by kernel_rfl) (bm (akh CC) ar) (bB (by kernel_rfl) h)
noncomputable abbrev JE:Code:=cJ Tryd.prog (au.bc 171)
noncomputable def Ei (C:ae) (first lo hi i:Int) (ah:List V) {β:Type} (kn:(Int × (List V))→Option β) (kr:(Int × Bool × (List V))→Option β):Option β:=
 bif decide ((i:Int)≥0) then
  (C HY [.int .i64 i,.int .i64 hi,.int .i64 first,.list av ah]).bind fun r1=>
  kn (IntKind.wrap .i64 (i-1),(V.nth r1 0).toList)
 else
  kr (i,decide ((i:Int)≥0),ah)
noncomputable def JF (C:ae) (first lo hi:Int):(Int × (List V))→Option ((Int × (List V)) ⊕ (Int × Bool × (List V))):=un fun i ah=>Ei C first lo hi i ah (fun y=>some (.inl y)) (fun r=>some (.inr r))
noncomputable def Ej (C:ae) (first lo i:Int) (ah:List V) {β:Type} (kn:(Int × (List V))→Option β) (kr:(Int × Bool × (List V))→Option β):Option β:=
 bif decide ((i:Int)≥0) then
  bif (decide (0≤(IntKind.wrap .i64 (first+i))))&&(decide ((IntKind.wrap .i64 (first+i))<(ah.length:Int))) then
  (ah[(IntKind.wrap .i64 (first+i):Int).toNat]?).bind fun x5=>
  bif (decide (0≤first))&&(decide (first<(ah.length:Int))) then
   (ah[(first:Int).toNat]?).bind fun x6=>
   bif (decide (0≤first))&&(decide (first<(ah.length:Int))) then
   (ah[(first:Int).toNat]?).bind fun x7=>
   bif (decide (0≤(IntKind.wrap .i64 (first+i))))&&(decide ((IntKind.wrap .i64 (first+i))<((ah.set ((first:Int).toNat) (.agg [.int .i64 ((x5.cell 0).toInt),.int .i64 ((x5.cell 1).toInt),.int .i64 ((x5.cell 2).toInt)])).length:Int))) then
    ((ah.set ((first:Int).toNat) (.agg [.int .i64 ((x5.cell 0).toInt),.int .i64 ((x5.cell 1).toInt),.int .i64 ((x5.cell 2).toInt)]))[(IntKind.wrap .i64 (first+i):Int).toNat]?).bind fun x8=>
    (C HY [.int .i64 lo,.int .i64 i,.int .i64 first,.list av ((ah.set ((first:Int).toNat) (.agg [.int .i64 ((x5.cell 0).toInt),.int .i64 ((x5.cell 1).toInt),.int .i64 ((x5.cell 2).toInt)])).set ((IntKind.wrap .i64 (first+i):Int).toNat) (.agg [.int .i64 ((x6.cell 0).toInt),.int .i64 ((x6.cell 1).toInt),.int .i64 ((x6.cell 2).toInt)]))]).bind fun r9=>
    kn (IntKind.wrap .i64 (i-1),(V.nth r9 0).toList)
   else none
   else none
  else none
  else none
 else
  kr (i,decide ((i:Int)≥0),ah)
noncomputable def JG (C:ae) (first lo:Int):(Int × (List V))→Option ((Int × (List V)) ⊕ (Int × Bool × (List V))):=un fun i ah=>Ej C first lo i ah (fun y=>some (.inl y)) (fun r=>some (.inr r))
noncomputable def ZC (C:ae):cD:=fun β n ds k=>
 bif Nat.beq n 65 then bz Ot [false,false,false,true,true] [[1,2,3,0,0,0]] (@Ei C) ds k else
 bif Nat.beq n 129 then bz Ou [false,false,true,true] [[1,2,0,0,0]] (@Ej C) ds k else
 none
abbrev ZD (C:ae) (b:cB):Prop:=cC Tryd.prog au C (ZC C) 171 (cQ Tryd.prog (au.bc 171)) (au.sin 171).bj.length b
theorem akk (C:ae):ZD C (.loop (ao [1,1,1,0,1,0,0] JE)):=
 bC Ot [false,false,false,true,true] [[1,2,3,0,0,0]] (@Ei C) (by kernel_rfl) (aW (bs:=[]) (by kernel_rfl) ar) (fun ds=>by kernel_rfl) (fun i x=>by kernel_rfl) (fun i x β k=>by kernel_rfl) (fun β ds k=>by kernel_rfl)
theorem akl (C:ae):ZD C (.loop (ao [1,1,1,1,1,0,0] JE)):=
 bC Ou [false,false,true,true] [[1,2,0,0,0]] (@Ej C) (by kernel_rfl) (aW (bs:=[]) (by kernel_rfl) ar) (fun ds=>by kernel_rfl) (fun i x=>by kernel_rfl) (fun i x β k=>by kernel_rfl) (fun β ds k=>by kernel_rfl)
noncomputable def ZE (C:ae) (a b':Int) (ah:List V):Option (List V):=
 (Loop (JF C a 0 (IntKind.wrap .i64 (b'-a))) (IntKind.wrap .i64 (Int.tdiv (IntKind.wrap .i64 ((IntKind.wrap .i64 (b'-a))-1)) 2),ah)).bind (un fun (i_2:Int)=>un fun (lC:Bool) (akm:List V)=>
  (Loop (JG C a 0) (IntKind.wrap .i64 ((IntKind.wrap .i64 (b'-a))-1),akm)).bind (un fun (aou:Int)=>un fun (zE:Bool) (od:List V)=>
   some [.list av od]))
theorem akn {a b':Int} {ah:List V} {r:Option (List V)} (h:ZE CC a b' ah=r):CC HV [.int .i64 a,.int .i64 b',.list av ah]=r:=
 bD (key:=171) (L:=ZC CC) (bs:=[.loop (ao [1,1,1,0,1,0,0] JE),.loop (ao [1,1,1,1,1,0,0] JE)]) (by kernel_rfl) (bm (akk CC) (bm (akl CC) ar)) (bB (by kernel_rfl) h)
noncomputable abbrev ZF:Code:=cJ Tryd.prog (au.bc 179)
noncomputable def zM (C:ae) (i j:Int) (ah:List V) {β:Type} (kn:(Int × Int × (List V))→Option β) (kr:(Int × Int × Bool × (List V))→Option β):Option β:=
 bif decide ((i:Int)<j) then
  bif (decide (0≤j))&&(decide (j<(ah.length:Int))) then
  (ah[(j:Int).toNat]?).bind fun x1=>
  bif (decide (0≤i))&&(decide (i<(ah.length:Int))) then
   (ah[(i:Int).toNat]?).bind fun x2=>
   bif (decide (0≤i))&&(decide (i<(ah.length:Int))) then
   (ah[(i:Int).toNat]?).bind fun x3=>
   bif (decide (0≤j))&&(decide (j<((ah.set ((i:Int).toNat) (.agg [.int .i64 ((x1.cell 0).toInt),.int .i64 ((x1.cell 1).toInt),.int .i64 ((x1.cell 2).toInt)])).length:Int))) then
    ((ah.set ((i:Int).toNat) (.agg [.int .i64 ((x1.cell 0).toInt),.int .i64 ((x1.cell 1).toInt),.int .i64 ((x1.cell 2).toInt)]))[(j:Int).toNat]?).bind fun x4=>
    kn (IntKind.wrap .i64 (i+1),IntKind.wrap .i64 (j-1),(ah.set ((i:Int).toNat) (.agg [.int .i64 ((x1.cell 0).toInt),.int .i64 ((x1.cell 1).toInt),.int .i64 ((x1.cell 2).toInt)])).set ((j:Int).toNat) (.agg [.int .i64 ((x2.cell 0).toInt),.int .i64 ((x2.cell 1).toInt),.int .i64 ((x2.cell 2).toInt)]))
   else none
   else none
  else none
  else none
 else
  kr (i,j,decide ((i:Int)<j),ah)
noncomputable def Ek (C:ae):(Int × Int × (List V))→Option ((Int × Int × (List V)) ⊕ (Int × Int × Bool × (List V))):=un fun i=>un fun j ah=>zM C i j ah (fun y=>some (.inl y)) (fun r=>some (.inr r))
noncomputable def ZG (C:ae):cD:=fun β n ds k=>
 bif Nat.beq n 33 then bz OB [true,true,true] [[0,0,0,0]] (@zM C) ds k else
 none
abbrev ako (C:ae) (b:cB):Prop:=cC Tryd.prog au C (ZG C) 179 (cQ Tryd.prog (au.bc 179)) (au.sin 179).bj.length b
theorem akp (C:ae):ako C (.loop (ao [1,1,0,0] ZF)):=
 bC OB [true,true,true] [[0,0,0,0]] (@zM C) (by kernel_rfl) (aW (bs:=[]) (by kernel_rfl) ar) (fun ds=>by kernel_rfl) (fun i x=>by kernel_rfl) (fun i x β k=>by kernel_rfl) (fun β ds k=>by kernel_rfl)
noncomputable def ZH (C:ae) (a b':Int) (ah:List V):Option (List V):=
 (Loop (Ek C) (a,IntKind.wrap .i64 (b'-1),ah)).bind (un fun (i_5:Int)=>un fun (j_6:Int)=>un fun (mh:Bool) (akq:List V)=>
  some [.list av akq])
theorem akr {a b':Int} {ah:List V} {r:Option (List V)} (h:ZH CC a b' ah=r):CC MK [.int .i64 a,.int .i64 b',.list av ah]=r:=
 bD (key:=179) (L:=ZG CC) (bs:=[.loop (ao [1,1,0,0] ZF)]) (by kernel_rfl) (bm (akp CC) ar) (bB (by kernel_rfl) h)
end Go.AM
set_option maxRecDepth 100000
set_option maxHeartbeats 4000000
namespace Go.AM.SL
open Go.AM Go.Proofs Go.Sort
def ay (a b:Ed):Bool:=decide (cf a b<0)
theorem uP (a b:Ed):(ay a b=true)=(cf a b<0):=by unfold ay;rw[eE]
theorem tu (a b:Ed):((!ay a b)=true)= ¬(cf a b<0):=by unfold ay;simp
abbrev eA (d:Array Ed):List V:=rC Ed.enc d
theorem aks (a j:Nat) (d:Array Ed):insInner ay a (j+1) d=if j+1>a then (if cf d[j+1]! d[j]! <0 then insInner ay a j (swp d (j+1) j) else d) else d:=by
 rw[Ze]
 by_cases h1:j+1>a
 ·rw[af h1];simp only[h1,va,xB,uP]
 ·rw[ag h1,ag (by simp[h1])]
theorem PZ (hi first root:Nat) (d:Array Ed):siftDown ay hi first root d=
  if 2*root+1≥hi then d else
   if 2*root+2<hi then
    (if cf d[first+(2*root+1)]! d[first+(2*root+2)]! <0 then
     (if cf d[first+root]! d[first+(2*root+2)]! <0 then siftDown ay hi first (2*root+2) (swp d (first+root) (first+(2*root+2))) else d)
    else (if cf d[first+root]! d[first+(2*root+1)]! <0 then siftDown ay hi first (2*root+1) (swp d (first+root) (first+(2*root+1))) else d))
   else (if cf d[first+root]! d[first+(2*root+1)]! <0 then siftDown ay hi first (2*root+1) (swp d (first+root) (first+(2*root+1))) else d):=by
 rw[siftDown]
 by_cases h1:2*root+1≥hi
 ·rw[pB h1,af h1]
 rw[dif_neg h1,ag h1]
 by_cases h2:2*root+2<hi
 ·rw[af h2]
  by_cases h3:cf d[first+(2*root+1)]! d[first+(2*root+2)]! <0
  ·rw[af h3,af (by simp only[aM,eE,uP];exact ⟨h2,h3⟩)]
   simp only[tu]
   by_cases h4:cf d[first+root]! d[first+(2*root+2)]! <0
   ·rw[ag (pD h4),pB h2,af h4]
   ·rw[af h4,ag h4]
  ·rw[ag h3,ag (by simp only[aM,eE,uP];exact fun h=>h3 h.2)]
   simp only[tu]
   by_cases h4:cf d[first+root]! d[first+(2*root+1)]! <0
   ·rw[ag (pD h4),af h4]
   ·rw[af h4,ag h4]
 ·rw[ag h2,ag (by simp only[aM,eE,uP];exact fun h=>h2 h.1)]
  simp only[tu]
  by_cases h4:cf d[first+root]! d[first+(2*root+1)]! <0
  ·rw[ag (pD h4),af h4]
  ·rw[af h4,ag h4]
theorem ZI {a b i:Nat}: ∀(j:Nat) (d:Array Ed),j<d.size→d.size<1152921504606846976→
  ∃j' t,Loop (zK CC a b i) ((j:Int),eA d)=some (j',t,eA (insInner ay a j d))
 | 0,d,hj,hs=>⟨(0:Nat),false,cl (by
   simp (disch:=omega) only[zK,zJ,un,aA,ag]
   rfl)⟩
 | j+1,d,hj,hs=>by
  obtain ⟨j',t,ih⟩:=ZI (a:=a) (b:=b) (i:=i) j (swp d (j+1) j) (by rw[size_swp];omega) (by rw[size_swp];omega)
  rw[aks]
  by_cases h1:j+1>a
  ·rw[af h1]
   have e:zK CC a b i (((j+1:Nat):Int),eA d)=if cf d[j+1]! d[j]! <0 then some (.inl ((j:Int),eA (swp d (j+1) j))) else some (.inr (((j+1:Nat):Int),decide (cf d[j+1]! d[j]! <0),eA d)):=by
    simp (disch:=omega) only[zK,zJ,un,aA,dO,gJ,af,ag,wrap64,dY,gT,Int.toNat_natCast,Option.bind_some,gQ,gS,Ed.dE,Ed.dF,Ed.dG,Ed.re,gR,jt,iF,iA,V.cd,V.toInt_int,cond_true,cond_false,uN]
    rfl
   by_cases h2:cf d[j+1]! d[j]! <0
   ·rw[af h2] at e⊢
    exact ⟨j',t,(eF e).trans ih⟩
   ·rw[ag h2] at e⊢
    exact ⟨_,_,cl e⟩
  ·rw[ag h1]
   exact ⟨((j+1:Nat):Int),false,cl (by
    simp (disch:=omega) only[zK,zJ,un,aA,ag])⟩
theorem akt {a b:Nat}: ∀(n i:Nat) (d:Array Ed),b-i=n→b≤d.size→d.size<1152921504606846976→
  ∃j' t,Loop (JD CC a b) ((i:Int),eA d)=some (j',t,eA (insOuter ay a b i d)):=by
 intro n
 induction n with
 | zero=>
  intro i d hn hb hs
  rw[insOuter,ag (by omega)]
  exact ⟨(i:Int),false,cl (by
   simp (disch:=omega) only[JD,Eh,un,tp,cond_false])⟩
 | succ n ih=>
  intro i d hn hb hs
  obtain ⟨j1,t1,h1⟩:=ZI (a:=a) (b:=b) (i:=i) i d (by omega) hs
  obtain ⟨j',t,h2⟩:=ih (i+1) (insInner ay a i d) (by omega) (by rw[PO];omega) (by rw[PO];omega)
  rw[insOuter,af (by omega)]
  refine ⟨j',t,(eF ?_).trans h2⟩
  simp (disch:=omega) only[JD,Eh,un,aA,af,h1,Option.bind_some,dY,wrap64]
theorem ZJ {a b:Nat} {d:Array Ed} (hb:b≤d.size) (hs:d.size<1152921504606846976) (ha:a<1152921504606846976):
  CC HU [.int .i64 (a:Int),.int .i64 (b:Int),.list av (eA d)]=some [.list av (eA (insertionSort ay d a b))]:=by
 refine akf ?_
 unfold Zy
 obtain ⟨j',t,h⟩:=akt (a:=a) (b:=b) _ (a+1) d rfl hb hs
 simp (disch:=omega) only[dY,wrap64]
 rw[h]
 rfl
theorem aku (hi first:Nat): ∀(n root:Nat) (d:Array Ed),hi-root≤n→root<1152921504606846976→first+hi≤d.size→d.size<1152921504606846976→
  (∃x y z,Loop (qq CC hi first) ((root:Int),eA d)=some (.inl (x,y,z,eA (siftDown ay hi first root d))))∨
  (∃x y z,Loop (qq CC hi first) ((root:Int),eA d)=some (.inr (x,y,z,eA (siftDown ay hi first root d)))):=by
 intro n
 induction n with
 | zero=>
  intro root d hn hr hb hs
  rw[PZ,af (by omega)]
  exact .inl ⟨(root:Int),((root*2+1:Nat):Int),true,cl (by
   simp (disch:=omega) only[qq,uO,un,D5,dY,wrap64];rw[pf (by omega)];rfl)⟩
 | succ n ih=>
  intro root d hn hr hb hs
  by_cases h1:2*root+1≥hi
  ·rw[PZ,af h1]
   exact .inl ⟨(root:Int),((root*2+1:Nat):Int),true,cl (by
    simp (disch:=omega) only[qq,uO,un,D5,dY,wrap64];rw[pf (by omega)];rfl)⟩
  ·have go: ∀c:Nat,c<hi→root<c→(qq CC hi first ((root:Int),eA d)=
      if cf d[first+root]! d[first+c]! <0 then some (.inl ((c:Int),eA (swp d (first+root) (first+c)))) else some (.inr (.inr ((root:Int),(c:Int),true,eA d))))→
     siftDown ay hi first root d=(if cf d[first+root]! d[first+c]! <0 then siftDown ay hi first c (swp d (first+root) (first+c)) else d)→
     ((∃x y z,Loop (qq CC hi first) ((root:Int),eA d)=some (.inl (x,y,z,eA (siftDown ay hi first root d))))∨
     (∃x y z,Loop (qq CC hi first) ((root:Int),eA d)=some (.inr (x,y,z,eA (siftDown ay hi first root d))))):=by
    intro c hc hrc e1 e2
    rw[e2]
    by_cases h3:cf d[first+root]! d[first+c]! <0
    ·rw[af h3] at e1
     rw[af h3,eF e1]
     exact ih c _ (by omega) (by omega) (by rw[size_swp];omega) (by rw[size_swp];omega)
    ·rw[ag h3] at e1
     rw[ag h3,cl e1]
     exact .inr ⟨_,_,_,rfl⟩
   have e0:=PZ hi first root d
   rw[ag h1] at e0
   by_cases h2:2*root+2<hi
   ·rw[af h2] at e0
    by_cases h3:cf d[first+(2*root+1)]! d[first+(2*root+2)]! <0
    ·rw[af h3] at e0
     refine go (2*root+2) (by omega) (by omega) ?_ e0
     rw[ic 2 root] at h3
     simp (disch:=omega) only[qq,uO,un,D5,dY,gT,wrap64]
     rw[aA,ag (by omega),aA,af (by omega)]
     simp (disch:=omega) only[xc,aA,dO,gJ,af,ag,wrap64,dY,gT,Int.toNat_natCast,Option.bind_some,gQ,gS,Ed.dE,Ed.dF,Ed.dG,Ed.re,gR,jt,iF,iA,V.cd,V.toInt_int,cond_true,cond_false,ic 2 root,pf]
     by_cases h4:cf d[first+root]! d[first+(root*2+2)]! <0
     ·simp only[h4,kz];rfl
     ·simp only[h4,lO];rfl
    ·rw[ag h3] at e0
     refine go (2*root+1) (by omega) (by omega) ?_ e0
     rw[ic 2 root] at h3
     simp (disch:=omega) only[qq,uO,un,D5,dY,gT,wrap64]
     rw[aA,ag (by omega),aA,af (by omega)]
     simp (disch:=omega) only[xc,aA,dO,gJ,af,ag,wrap64,dY,gT,Int.toNat_natCast,Option.bind_some,gQ,gS,Ed.dE,Ed.dF,Ed.dG,Ed.re,gR,jt,iF,iA,V.cd,V.toInt_int,cond_true,cond_false,ic 2 root,tp]
     by_cases h4:cf d[first+root]! d[first+(root*2+1)]! <0
     ·simp only[h4,kz];rfl
     ·simp only[h4,lO];rfl
   ·rw[ag h2] at e0
    refine go (2*root+1) (by omega) (by omega) ?_ e0
    simp (disch:=omega) only[qq,uO,un,D5,dY,gT,wrap64]
    rw[aA,ag (by omega),aA,ag (by omega)]
    simp (disch:=omega) only[xc,aA,dO,gJ,af,ag,wrap64,dY,gT,Int.toNat_natCast,Option.bind_some,gQ,gS,Ed.dE,Ed.dF,Ed.dG,Ed.re,gR,jt,iF,iA,V.cd,V.toInt_int,cond_true,cond_false,ic 2 root]
    by_cases h4:cf d[first+root]! d[first+(root*2+1)]! <0
    ·simp only[h4,kz];rfl
    ·simp only[h4,lO];rfl
theorem ZK {lo hi first:Nat} {d:Array Ed} (hl:lo<1152921504606846976) (hb:first+hi≤d.size) (hs:d.size<1152921504606846976):
  CC HY [.int .i64 (lo:Int),.int .i64 (hi:Int),.int .i64 (first:Int),.list av (eA d)]=some [.list av (eA (siftDown ay hi first lo d))]:=by
 refine akj ?_
 unfold ZB
 rcases aku hi first _ lo d (ax _) hl hb hs with ⟨x,y,z,h⟩|⟨x,y,z,h⟩
 ·rw[h];rfl
 ·rw[h];rfl
theorem ZL {hi first:Nat}: ∀(k:Nat) (d:Array Ed),k<1152921504606846976→first+hi≤d.size→d.size<1152921504606846976→
  ∃x y,Loop (JF CC first 0 hi) ((k:Int)-1,eA d)=some (x,y,eA (heapBuild ay hi first k d))
 | 0,d,hk,hb,hs=>⟨-1,false,cl (by
   simp (disch:=omega) only[JF,Ei,un,aA,ag]
   rfl)⟩
 | k+1,d,hk,hb,hs=>by
  obtain ⟨x,y,ih⟩:=ZL (hi:=hi) (first:=first) k (siftDown ay hi first k d) (by omega) (by rw[D6 _ _ _ _ _ (ax _)];omega) (by rw[D6 _ _ _ _ _ (ax _)];omega)
  refine ⟨x,y,(eF ?_).trans ih⟩
  simp (disch:=omega) only[JF,Ei,un,aA,af,uN,ZK,Option.bind_some,V.cd,V.oT,wrap64]
theorem ZM {first:Nat}: ∀(k:Nat) (d:Array Ed),k<1152921504606846976→first+k≤d.size→d.size<1152921504606846976→
  ∃x y,Loop (JG CC first 0) ((k:Int)-1,eA d)=some (x,y,eA (heapPop ay first k d))
 | 0,d,hk,hb,hs=>⟨-1,false,cl (by
   simp (disch:=omega) only[JG,Ej,un,aA,ag]
   rfl)⟩
 | k+1,d,hk,hb,hs=>by
  obtain ⟨x,y,ih⟩:=ZM (first:=first) k (siftDown ay k first 0 (swp d first (first+k))) (by omega) (by rw[D6 _ _ _ _ _ (ax _),size_swp];omega) (by rw[D6 _ _ _ _ _ (ax _),size_swp];omega)
  refine ⟨x,y,(eF ?_).trans ih⟩
  have lZ:=ZK (lo:=0) (hi:=k) (first:=first) (d:=swp d first (first+k)) (by omega) (by rw[size_swp];omega) (by rw[size_swp];omega)
  unfold swp at lZ⊢
  rw[show ((0:Nat):Int)=0 from rfl] at lZ
  simp (disch:=omega) only[JG,Ej,un,uN,aA,dO,gJ,af,ag,wrap64,dY,gT,Int.toNat_natCast,Option.bind_some,gQ,gS,Ed.dE,Ed.dF,Ed.dG,Ed.re,gR,jt,iF,iA,V.cd,V.toInt_int,cond_true,cond_false]
  rw[lZ]
  simp (disch:=omega) only[Option.bind_some,V.cd,V.oT,wrap64]
theorem akv {a b:Nat} {d:Array Ed} (gH:a<b) (hb:b≤d.size) (hs:d.size<1152921504606846976):
  CC HV [.int .i64 (a:Int),.int .i64 (b:Int),.list av (eA d)]=some [.list av (eA (heapSort ay d a b))]:=by
 refine akn ?_
 unfold ZE
 obtain ⟨x,y,h1⟩:=ZL (hi:=b-a) (first:=a) ((b-a-1)/2+1) d (by omega) (by omega) hs
 obtain ⟨x2,y2,h2⟩:=ZM (first:=a) (b-a) (heapBuild ay (b-a) a ((b-a-1)/2+1) d) (by omega) (by rw[PQ];omega) (by rw[PQ];omega)
 have e1:((((b-a-1)/2+1:Nat):Int)-1)=Int.tdiv (((b-a:Nat):Int)-1) 2:=by
  rw[Int.tdiv_eq_ediv_of_nonneg (by omega)]
  omega
 rw[e1] at h1
 simp (disch:=omega) only[oa,wrap64]
 rw[h1]
 simp only[Option.bind_some,un]
 rw[h2]
 rfl
theorem akw: ∀(n i j:Nat) (d:Array Ed),j-i≤n→j<d.size→d.size<1152921504606846976→
  ∃x y z,Loop (Ek CC) ((i:Int),(j:Int),eA d)=some (x,y,z,eA (reverseLoop i j d)):=by
 intro n
 induction n with
 | zero=>
  intro i j d hn hj hs
  rw[reverseLoop,ag (by omega)]
  exact ⟨(i:Int),(j:Int),false,cl (by
   simp (disch:=omega) only[Ek,zM,un,tp,cond_false])⟩
 | succ n ih=>
  intro i j d hn hj hs
  rw[reverseLoop]
  by_cases h:i<j
  ·rw[af h]
   obtain ⟨x,y,z,h2⟩:=ih (i+1) (j-1) (swp d i j) (by omega) (by rw[size_swp];omega) (by rw[size_swp];omega)
   refine ⟨x,y,z,(eF ?_).trans h2⟩
   simp (disch:=omega) only[Ek,zM,un,aA,dO,gJ,af,ag,wrap64,dY,gT,Int.toNat_natCast,Option.bind_some,gQ,gS,Ed.dE,Ed.dF,Ed.dG,Ed.re,gR,jt,iF,iA,V.cd,V.toInt_int,cond_true,cond_false,kR]
   rfl
  ·rw[ag h]
   exact ⟨(i:Int),(j:Int),false,cl (by
    simp (disch:=omega) only[Ek,zM,un,tp,cond_false])⟩
theorem akx {a b:Nat} {d:Array Ed} (gH:a<b) (hb:b≤d.size) (hs:d.size<1152921504606846976):
  CC MK [.int .i64 (a:Int),.int .i64 (b:Int),.list av (eA d)]=some [.list av (eA (reverseRange d a b))]:=by
 refine akr ?_
 unfold ZH
 obtain ⟨x,y,z,h⟩:=akw _ a (b-1) d (ax _) (by omega) hs
 simp (disch:=omega) only[kR,wrap64]
 rw[h]
 rfl
end Go.AM.SL
