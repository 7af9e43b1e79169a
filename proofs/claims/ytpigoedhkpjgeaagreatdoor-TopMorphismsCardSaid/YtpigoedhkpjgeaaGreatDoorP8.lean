/-
  Functions of the program, lifted to plain data.
-/
import Derived.Test.YtpigoedhkpjgeaaGreatDoorP7
set_option linter.unusedVariables false
set_option linter.unusedSimpArgs false
set_option linter.unusedSectionVars false
set_option maxRecDepth 100000
namespace Go.AM
open Go.Proofs
theorem ae6 {d:Df} (hd:d.Ok) (n:Int):CC DT (rI d [.int .i64 n])=some [.bool (decide ((d.F.length:Int)≤n∧d.L≤2∧d.val=0))]:=by
 have fin: ∀z,Vl CC d.L d.st (d.F.map V.bool) (d.N.map lT) n=z→CC DT (rI d [.int .i64 n])=z:=fun z h=>atq h;refine fin _ ?_;unfold Vl;rw[cU];by_cases c1:(d.F.length:Int)≤n
 ·refine bT (cW c1) ?_;by_cases c2:d.L≤2
  ·refine bT (cW c2) (bs (alv hd) ?_);by_cases c3:d.val=0
   ·rw[cW ⟨c1,c2,c3⟩,c3];rfl
   ·rw[cO fun h=>c3 h.2.2];simp[c3]
  ·refine bF (cO c2) ?_;rw[cO fun h=>c2 h.2.1]
 ·refine bF (cO c1) ?_;rw[cO fun h=>c1 h.1]
theorem ae7 {m:Da} (hm:m.Ok) {S:List (List Nat)} (hS:td m S):Tb S.length (dz S):=⟨hS.pos,hS.le,fun _ _ hi hj=>aex hm hS hi hj⟩
theorem atx {m:Da} {S:List (List Nat)} {k:Nat} (h:m.L=k):([V.int .i64 0]:LV)++iM m S=nS (0::(List.range k).map fun x=>vl m S [x]):=by
 subst h;rfl
section
variable {Z vs:List Nat} (hZ:Z.Pairwise (· < ·)) (hv: ∀v∈vs,v∈Z) (hl:Z.length≤400) (my:vs.length≤100)
include hZ hv hl my
theorem aty {s l1 l2 l3 l4 l5:LV} {k:Int}:Loop (Nq CC (nS Z) s (vs.length:Int) k l1 l2 l3 l4 l5) (0,nS vs)=some ((vs.length:Int),false,nS (vs.map (cN Z))):=by
 have e0:nS vs=tab vs.length fun j=>if j<0 then nV (cN Z (vs.getD j 0)) else nV (vs.getD j 0):=by rw[LL];exact cG fun j _=>by rw[bN]
 have e1:nS (vs.map (cN Z))=tab vs.length fun j=>if j<vs.length then nV (cN Z (vs.getD j 0)) else nV (vs.getD j 0):=by
  rw[LL,cU];exact cG fun j hj=>by rw[ak hj,bC (by simpa using hj),bC hj,ze]
 rw[e0,e1];refine dR vs.length (fun i=>((i:Int),tab vs.length fun j=>if j<i then nV (cN Z (vs.getD j 0)) else nV (vs.getD j 0))) _ (fun i hi=> ?_) ?_
 ·have hvi:vs.getD i 0∈Z:=hv _ (by rw[bC hi];exact cJ hi);have hx:=km hvi;have g0:(tab vs.length fun j=>if j<i then nV (cN Z (vs.getD j 0)) else nV (vs.getD j 0))[i]? =some (nV (vs.getD i 0)):=by rw[lf hi,bN]
  simp only[Nq,HJ,un];refine bT (cd hi) ((cw g0).trans ?_);have inner: ∀{a b:LV} {p q:Int},a=nS Z→b=nS Z→Loop (Np CC a s (i:Int) (nV (vs.getD i 0)).toInt p q b (Z.length:Int) k l1 l2 l3 l4 l5 (tab vs.length fun j=>if j<i then nV (cN Z (vs.getD j 0)) else nV (vs.getD j 0))) 0=some (tab vs.length fun j=>if j<i+1 then nV (cN Z (vs.getD j 0)) else nV (vs.getD j 0)):=by
   rintro _ _ p q rfl rfl;refine dR (cN Z (vs.getD i 0)) (fun j=>(j:Int)) _ (fun j hj=> ?_) ?_
   ·have dj:j<Z.length:=by omega
    have bK:Z[j]≠vs.getD i 0:=fun e=>by
     have:=A3 (MV hZ) dj;rw[e] at this;omega
    simp only[Np,HI];refine bT (cd dj) (bs (gb dj) (bF ?_ ?_))
    ·show (((Z[j]:Nat):Int)==((vs.getD i 0:Nat):Int))=false;rw[u7];exact fun e=>bK (by exact_mod_cast e)
    ·rw[cm (by omega)]
   ·have hz:=Fo hvi;simp only[Np,HI];refine bT (cd hx) (bs (gb hx) (bT ?_ ((cw g0).trans ?_)))
    ·show (((Z[cN Z (vs.getD i 0)]:Nat):Int)==((vs.getD i 0:Nat):Int))=true;rw[hz];simp
    ·simp only[aD,Int.toNat_natCast];rw[iG];refine congrArg (fun t=>some (Sum.inr t)) (cG fun j _=> ?_);by_cases c:j=i
     ·rw[ak c,bt,c];rfl
     ·rw[aj c];by_cases c2:j<i
      ·rw[ak c2,bt]
      ·rw[aj c2,bN]
  rw[cI];refine bs (inner rfl rfl) ?_;rw[cm (by omega)]
 ·simp only[Nq,HJ,un];refine bF (aV (az _)) ?_;rw[aV (az _)]
end
theorem afc (d:Df) (hd:d.Ok) (l:List (List UInt8)) (hl:l.length≤maxLen):CC DS (rI d [y4 l])=some [.bool true]:=by
 have fin: ∀z,HK CC d.L d.st (d.F.map V.bool) (d.N.map lT) (l.map V.str)=z→CC DS (rI d [y4 l])=z:=fun z h=>ae5 h;by_cases hs:(d.F.length:Int)≤3∧d.L≤2∧d.val=0
 case neg=>
  refine fin _ ?_;unfold HK;refine bs (ae6 hd 3) ?_;rw[cO hs];exact bT rfl (bs BT rfl)
 have hsm:=ae6 hd 3;rw[cW hs] at hsm;obtain ⟨hn,hL,hv⟩:=hs;obtain ⟨a,ha,rfl⟩:=alw hv;clear fin;rw[ha.leaves] at*
 have hn3:a.n≤3:=by have:(a.n:Int)≤3:=hn;omega
 have fin: ∀z,HK CC (a.L:Int) (a.st:Int) a.dH a.dX (l.map V.str)=z→CC DS (uH a [y4 l])=z:=fun z h=>ae5 h;refine fin _ ?_;unfold HK;refine bs hsm (bF rfl ?_);rw[cU];by_cases c1:l.length<1
 ·exact bT (cW (by omega)) (bs BT rfl)
 refine bF (cO (by omega)) ?_;by_cases c2:2<l.length
 ·exact bT (cW (by omega)) (bs BT rfl)
 refine bF (cO (by omega)) ?_;have L1: ∃r,Loop (Nn CC (l.map V.str) (l.map V.str) (l.length:Int) (a.L:Int) (a.st:Int) a.dH a.dX) 0=some r∧(r= .inl true∨(r= .inr ((l.length:Int),false)∧BR l (a.L:Int))):=by
  refine LN (fun i x=>x=(i:Int)∧∀j,j<i→kj (l.getD j []) (a.L:Int)) (fun (r:Bool ⊕ (Int×Bool))=>r= .inl true∨(r= .inr ((l.length:Int),false)∧BR l (a.L:Int))) l.length (fun i hi x hx=> ?_) (fun x hx=> ?_) l.length 0 0 (eQ _) ⟨rfl,fun j hj=>(by omega)⟩
  ·obtain ⟨rfl,hx⟩:=hx;simp only[Nn,HG];by_cases c:(((l.getD i []).length:Nat):Int)>6
   ·exact .inr ⟨_,bT (cd hi) (bs (BQ hi) (bT (cW c) (bs BT rfl))),.inl rfl⟩
   ·have my:CC DU [.str (l.getD i []),.int .i64 (a.L:Int)]=some [.bool (decide (kj (l.getD i []) (a.L:Int)))]:=asI _ _;by_cases cv:kj (l.getD i []) (a.L:Int)
    ·rw[cW cv] at my;refine .inl ⟨_,bT (cd hi) (bs (BQ hi) (bF (cO c) (bs my (bF rfl rfl)))),by rw[cm (by omega)],fun j hj=> ?_⟩;by_cases cj:j=i
     ·rw[cj];exact cv
     ·exact hx j (by omega)
    ·rw[cO cv] at my;exact .inr ⟨_,bT (cd hi) (bs (BQ hi) (bF (cO c) (bs my (bT rfl (bs BT rfl))))),.inl rfl⟩
  ·obtain ⟨rfl,hx⟩:=hx;simp only[Nn,HG];refine ⟨_,bF (aV (az _)) rfl,.inr ⟨by rw[aV (az _)],hx⟩⟩
 obtain ⟨r,eL1,hr⟩:=L1;refine bs eL1 ?_;rcases hr with rfl|⟨rfl,ar⟩
 ·rfl
 simp only[cM,un];have hm:=qq ha;have hmL:=qs ha;have pX:1≤l.length:=by omega
 have BU:l.length≤6:=by omega
 have hg: ∀x,x<l.length→WL (minD a).L (gC l x):=fun x hx=>by rw[hmL];exact (ar x hx).WL
 have hp:=hm.pre pX BU hg;have hP:=qq hp;have hPL:(minD ((minD a).pre l.length (gC l))).L=l.length:=qs hp;have fX:(minD a).n≤3:=ln (aeG ha) hn3;have p6:(minD ((minD a).pre l.length (gC l))).n≤3:=ln (aeG hp) fX;have Vn:=aeq hp;rcases aer ha (by omega) with ⟨_,hb⟩|⟨S,f,eO1,hS⟩
 ·exact absurd hb (aeI fX)
 rcases aer hP (by rw[Vn];omega) with ⟨_,hb⟩|⟨S2,f2,eO2,iN⟩
 ·rw[Vn] at hb;exact absurd hb (aeI p6)
 rw[Vn] at eO2 iN;refine bs (asQ ha pX BU ar) ?_;refine bs eO1 ?_;refine bs eO2 ?_;have hT:=ae7 hm hS;have hA: ∀i j k,i<S.length→j<S.length→k<S.length→dz S (dz S i j) k=dz S i (dz S j k):=fun _ _ _ hi hj hk=>aey hm hS hi hj hk;have hT2:=ae7 hP iN;have JA: ∀i j k,i<S2.length→j<S2.length→k<S2.length→dz S2 (dz S2 i j) k=dz S2 i (dz S2 j k):=fun _ _ _ hi hj hk=>aey hP iN hi hj hk;have tl1:(ky S).length=S.length:=eC;have tl2:(ky S2).length=S2.length:=eC;have p1:=hS.pos;have p2:=iN.pos;have q1:=hS.le;refine bF rfl (bF rfl (bF rfl (bF ?_ (bF ?_ ?_))))
 ·show ((((ky S).length:Nat):Int)==0)=false;rw[tl1,u7];omega
 ·show ((((ky S2).length:Nat):Int)==0)=false;rw[tl2,u7];omega
 have L2: ∀{k:Int} {l1 l2 l3 l4 l5:LV},Loop (No CC (l.map V.str) (l.length:Int) ((minD a).L:Int) (ky S) (tab S.length fun j=> .str (f j)) (iM (minD a) S) (mh (minD a) S) (jG (minD a).L (minD a).gT S S.length) k l1 l2 l3 l4 l5) (0,([V.int .i64 0]:LV))=some ((l.length:Int),false,nS (vals (minD a) S l.length (gC l))):=by
  intro k l1 l2 l3 l4 l5;refine dR l.length (fun i=>((i:Int),nS (vals (minD a) S i (gC l)))) _ (fun i hi=> ?_) ?_
  ·simp only[No,HH,un];refine bT (cd hi) (bs (BQ hi) (bs (asC ha hS eO1 (w:=l.getD i []) (by rw[hmL];exact ar i hi)) (bT (cap (by rw[cI];simp[vals];omega) (by omega)) ?_)));rw[cm (by omega)];refine congrArg (fun t=>some (Sum.inl (((i+1:Nat):Int),t))) ?_;unfold vals;rw[B8];simp[nS,nV,gC]
  ·simp only[No,HH,un];refine bF (aV (az _)) ?_;rw[aV (az _)]
 refine bs L2 ?_;have my:(vals (minD a) S l.length (gC l)).length≤100:=by simp[vals];omega
 obtain ⟨Z,eG,hZ⟩:=aqE hT hA (G:=vals (minD a) S l.length (gC l)) (fun x hx=>arY hS hg hx) (by omega);have auq:=hZ.le;have hZ0:Z≠[]:=List.ne_nil_of_mem (hZ.sub 0 (by simp[vals]));refine bs eG ?_;refine bs (aqV hT hA hZ hZ0) (bF rfl ?_);rw[cI];refine bs (aty hZ.GW hZ.sub (by omega) my) ?_;simp only[un];have hST:=aqT hT hZ hZ0;have hSA: ∀i j k,i<Z.length→j<Z.length→k<Z.length→iw (dz S) Z (iw (dz S) Z i j) k=iw (dz S) Z i (iw (dz S) Z j k):=fun _ _ _ hi hj hk=>aqU hA hZ hi hj hk;have pq: ∀x,x<Z.length→pz (minD a) S l.length (gC l) S2 Z x<S2.length:=fun x hx=>ar0 hm hS pX BU hg iN hZ hx;have hh: ∀x y,x<Z.length→y<Z.length→pz (minD a) S l.length (gC l) S2 Z (iw (dz S) Z x y)=dz S2 (pz (minD a) S l.length (gC l) S2 Z x) (pz (minD a) S l.length (gC l) S2 Z y):=fun x y hx hy=>ar1 hm hS pX BU hg iN hZ hx hy;have eE:=aro hST hSA hT2 JA pq hh (gs:=(vals (minD a) S l.length (gC l)).map (cN Z)) (fun x hx=>by
  obtain ⟨v,hv,rfl⟩:=eu.1 hx;exact km (hZ.sub v hv)) (by rw[cU];omega) (fun x hx=>ar4 hZ hx)
 rw[ar2 hm hS pX BU hg iN hZ,←atx hPL] at eE;have eI:=arl hST hSA hT2 JA pq hh fun y hy=>ar3 hm hS pX BU hg iN hZ hy;have il:(iM (minD ((minD a).pre l.length (gC l))) S2).length=l.length:=by unfold iM;rw[cI,eL,cU,jL,hPL]
 refine bT (cap (b:=0) ?_ (by omega)) (bs eE (bT rfl (bs eI (bT ?_ (bs BT rfl)))))
 ·show 1+(iM (minD ((minD a).pre l.length (gC l))) S2).length≤_;rw[il];omega
 ·show (((nS (List.range S2.length)).length:Int)==((ky S2).length:Int))=true;rw[cI,tl2,jL];simp
end Go.AM
