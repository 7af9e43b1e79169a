/-
  Functions of the program, lifted to plain data.
-/
import Derived.Sort.AssemblyPlain
import Derived.Test.YtaijibbmmbhniaaGreatDoorP6
noncomputable section
set_option linter.unusedVariables false
set_option linter.unusedSimpArgs false
set_option linter.unusedSectionVars false
set_option maxRecDepth 100000
namespace Go.AM
open Go.IntKind (wrap)
open Go.Proofs
def uV (q:Nat):V:= .int .u64 (q:Int)
def uM (S:List Nat):List V:=gK uV 0 S
theorem AI (a b:Nat):il (uV a) (uV b)=decide (a=b):=apd a b
theorem Pf {S:List Nat} {i:Nat} (h:i<S.length):(U1 S)[i]? =some (uV S[i]):=W7 (cp h)
theorem ag1 {x:Nat} (hx:x<2^64):CC GA [uV x,.list dp []]=some [nV 0,.list dp (U1 [x]),.list kH (uM [x])]:=by
 refine atk ?_;unfold agW;rw[CR hx];exact bT rfl (bT rfl (bT (cap (by simp) (by omega)) rfl))
theorem atw {S:List Nat} {x:Nat} (hx:x<2^64) (hl:S.length≤1000000):CC SY [uV x,.list dp (U1 S),.list kH (uM S)]=some [nV ((dj S x).idxOf x),.list kH (uM (dj S x)),.list dp (U1 (dj S x))]:=by
 refine atl ?_;unfold agX;have e1:=qB AI x S 0;rw[CR hx];refine bT rfl ?_;rw[show (V.int .u64 (x:Int))=uV x from rfl,CS];by_cases h:x∈S
 ·refine bF (by rw[show ez (uV x) (uM S)=_ from e1];simpa using h) ?_;have e2:=uF AI x (.int .i64 0) S 0 h;rw[show fO (uV x) (uM S) (.int .i64 0)=_ from e2,ah h,ed,show dj S x=S by unfold dj;rw[ah h]];rfl
 ·refine bT (by rw[show ez (uV x) (uM S)=_ from e1];simpa using h) ?_;refine bT rfl ?_;refine bT (cap (by rw[ot];simp;omega) (by omega)) ?_;have e2:=uG AI x S 0 h;rw[ed] at e2;rw[ot,show eB (uV x) (.int .i64 (S.length:Int)) (uM S)=_ from e2,ag h,show dj S x=S++[x] by unfold dj;rw[ag h]];simp[U1,nV,uM,uV]
def sn (E:List Ed) (s x:Nat):Nat:=kp E s (x:Int)
def sf (fin s:Nat):Bool:= !((s&&&fin)==0)
structure Nat6 (n:Nf) (L S:Nat):Prop where
 code:n.code=0
 ok:n.Ok
 hL:n.L=(L:Int)
 hS:n.S=(S:Int)
namespace Nat6
variable {n:Nf} {L S:Nat} (h:Nat6 n L S)
include h
theorem good:n.Good:=Nf.ar6 h.code
theorem l1:1≤L:=by have:=h.good.L1;have:=h.hL;omega
theorem l6:L≤6:=by have:=h.good.L6;have:=h.hL;omega
theorem uP:S≤64:=by have:=h.good.S64;have:=h.hS;omega
theorem sS:n.S.toNat=S:=by have:=h.hS;omega
theorem lL:n.L.toNat=L:=by have:=h.hL;omega
theorem edF: ∀e∈n.E,e.f.toNat<S:=fun e he=>by have:=h.good.E e he;have:=h.hS;unfold Ed.In at*;omega
theorem edT: ∀e∈n.E,e.t.toNat<S:=fun e he=>by have:=h.good.E e he;have:=h.hS;unfold Ed.In at*;omega
theorem st:n.st<2^S:=by have:=h.good.st;rwa [h.sS] at this
theorem fin:n.fin<2^S:=by have:=h.good.fin;rwa [h.sS] at this
theorem pow:2^S≤2^64:=sa (by omega) h.uP
theorem next (s x:Nat):sn n.E s x<2^S:=W3 h.edT
end Nat6
def fM (n:Nf) (L S:Nat):List Nat:=aj L (sn n.E) n.st (2^S)
def ia (n:Nf) (L S:Nat):Da:=gU L (sn n.E) (sf n.fin) (fM n L S)
def jV (n:Nf) (L S:Nat):Prop:=512<(fM n L S).length
def tV (n:Nf) (L S:Nat):List V:=U2 (nw L S n.E)
def Pg (m:Da) (e:Int) (X:V):List V:=[.int .i64 (m.L:Int),.int .i64 (m.st:Int),.int .i64 e,.list ao m.bI,.list ar m.bz,X]
section
variable {n:Nf} {L S:Nat} (h:Nat6 n L S)
include h
theorem atx {s x:Nat} (hs:s<2^S) (hx:x<L):CC ur [uV s,nV x,.list gv (tV n L S)]=some [uV (sn n.E s x),.list gv (tV n L S)]:=by
 have hp:=h.pow;refine ati ?_;unfold agU;have e1:idx (tV n L S) (x:Int)=some (.list dp (U1 (pU S n.E (x:Int)))):=by
  rw[Sn rfl];unfold tV U2;rw[gD,W8 hx];rfl
 refine bs e1 ?_;have hr:Dk (pU S n.E (x:Int)):=atg h.uP h.edT;have e2:=atf hr (s:=s) (by omega);have hl:(pU S n.E (x:Int)).length=S:=by simp[pU]
 rw[hl,ath (by omega) h.uP h.edF] at e2;refine bs e2 ?_;rfl
theorem aty {s:Nat} (hs:s<2^S):CC v5 (uV s::nv n [])=some (.bool (sf n.fin s)::nv n []):=by
 have hp:=h.pow;have hf:=h.fin;refine atj ?_;unfold agV;have e:wrap .u64 ((BitVec.ofInt (IntKind.bits .u64) (s:Int)&&&BitVec.ofInt (IntKind.bits .u64) (n.fin:Int)).toNat)=((s&&&n.fin:Nat):Int):=u64_and (by omega) (by omega);rw[e];have e2:(((s&&&n.fin:Nat):Int) != 0)=sf n.fin s:=by
  unfold sf;rw[nJ];simp
 rw[e2];rfl
theorem sub_lt (i:Nat): ∀s∈aj L (sn n.E) n.st i,s<2^S:=aft (P:=fun s=>s<2^S) h.st (fun s _ x _=>h.next s x) i
theorem Dm (i:Nat):(aj L (sn n.E) n.st i).length≤2^S:=by
 have:=VR (L:=L) (next:=sn n.E) (a0:=n.st) (U:=List.range (2^S)) (jG.2 h.st) (fun s _ x _=>jG.2 (h.next s x)) i;simpa using this
theorem atz {T U:List Nat} {s:Nat} (hs:s<2^S) (hT:T.length≤1000) (hp:aJ (sn n.E) T s L <+: U) {i c1 c2:Int} {l1 l2 l3 l4:List V}:
  Loop (Pe CC (L:Int) i (s:Int) ((List.replicate (((L:Nat):Int).toNat) (V.int .i64 0)).length:Int) n.L n.S (n.st:Int) (n.fin:Int) (n.E.map Ed.enc) c1 c2 (L:Int) 0 l1 l2 l3 l4) (0,tV n L S,List.replicate (((L:Nat):Int).toNat) (V.int .i64 0),U1 T,uM T)=
   some ((L:Int),false,tV n L S,(tab L fun x=>nV (U.idxOf (sn n.E s x))),U1 (aJ (sn n.E) T s L),uM (aJ (sn n.E) T s L)):=by
 have h6:=h.l6;have Dn:=h.pow;rw[Int.toNat_natCast,lu,db];refine (eh L (fun x=>((x:Int),tV n L S,(tab L fun j=>if j<x then nV (U.idxOf (sn n.E s j)) else nV 0),U1 (aJ (sn n.E) T s x),uM (aJ (sn n.E) T s x))) _ (fun x hx=> ?_) ?_)
 ·simp only[Pe,IL,un,aq,aI];refine bT (cN hx) ?_;refine bs (atx h hs hx) ?_;have hl:=Wp (next:=sn n.E) T s x;have hn:=h.next s x;refine bs (atw (S:=aJ (sn n.E) T s x) (x:=sn n.E s x) (by omega) (by omega)) ?_;refine (fu hx).trans ?_;rw[cG (by omega),Int.toNat_natCast,nn];have e:(dj (aJ (sn n.E) T s x) (sn n.E s x)).idxOf (sn n.E s x)=U.idxOf (sn n.E s x):=(uz ((rG T s (show x+1≤L by omega)).trans hp) uy).symm;show some (Sum.inl _)=some (Sum.inl _);refine congrArg (fun x=>some (Sum.inl x)) ?_;refine gk rfl (gk rfl (gk ?_ (gk rfl rfl)));refine dR fun j _=> ?_;by_cases hj:j=x
  ·rw[ah hj,br,hj,←e];rfl
  ·rw[ag hj];by_cases cS:j<x
   ·rw[ah cS,br]
   ·rw[ag cS,cl]
 ·simp only[Pe,IL,un,aq,aI];refine bF (bp (az _)) ?_;rw[bp (az _)];have:(tab L fun j=>if j<L then nV (U.idxOf (sn n.E s j)) else nV 0)=tab L fun j=>nV (U.idxOf (sn n.E s j)):=dR fun j hj=>ah hj;rw[this]
theorem Xj {i:Nat} (eP:i<(aj L (sn n.E) n.st i).length) (hlen:(aj L (sn n.E) n.st i).length≤512) {U:List Nat} (hp:aj L (sn n.E) n.st (i+1) <+: U) {l1 l2 l3 l4:List V} (Db:l3.length≤1000) (WB:l4.length≤1000):
  Dl CC (L:Int) 0 0 (L:Int) 0 l1 l2 ((i:Int),tV n L S,n.L,n.S,(n.st:Int),(n.fin:Int),n.E.map Ed.enc,U1 (aj L (sn n.E) n.st i),uM (aj L (sn n.E) n.st i),l3,l4)=
   if 512<(aj L (sn n.E) n.st (i+1)).length then some (.inr (.inl (3,tV n L S,n.L,n.S,(n.st:Int),(n.fin:Int),n.E.map Ed.enc,0,0,[],[],[])))
   else some (.inl (((i+1:Nat):Int),tV n L S,n.L,n.S,(n.st:Int),(n.fin:Int),n.E.map Ed.enc,U1 (aj L (sn n.E) n.st (i+1)),uM (aj L (sn n.E) n.st (i+1)),l3++[V.bool (sf n.fin (aj L (sn n.E) n.st i)[i])],l4++[V.list aF (tab L fun x=>nV (U.idxOf (sn n.E (aj L (sn n.E) n.st i)[i] x)))])):=by
 have h6:=h.l6;have hq:=sub_lt h i _ (ff eP);have gS:aj L (sn n.E) n.st (i+1)=aJ (sn n.E) (aj L (sn n.E) n.st i) (aj L (sn n.E) n.st i)[i] L:=G1 (cp eP);simp only[Dl,IM,un,aq];refine bT (bU (by rw[ot];omega)) ?_;refine (eo (Pf eP)).trans ?_;refine bT (mE (by omega) (by omega)) ?_;refine bs (atz h hq (by omega) (U:=U) (by rw[←gS];exact hp)) ?_;rw[←gS];by_cases pr:512<(aj L (sn n.E) n.st (i+1)).length
 ·rw[ah pr];refine bT (bU (by rw[ot];omega)) ?_;rfl
 ·rw[ag pr];refine bF (cJ (by rw[ot];omega)) ?_;refine bT (cap (by simp;omega) (by omega)) ?_;refine bs (aty h hq) ?_;refine bT (cap (by simp;omega) (by omega)) ?_;rw[cG (by omega)];rfl
theorem atA (hn: ¬jV n L S): ∃X,CC zV (nV L::uV n.st:: .list gv (tV n L S)::nv n [])=some ([nV L,nV 0,.int .i64 0,.list gv (tV n L S)]++(nv n []++[.list ao (ia n L S).bI,.list ar (ia n L S).bz,X])):=by
 have h6:=h.l6;have b9:=h.st;have Dn:=h.pow;have hd:(aj L (sn n.E) n.st (2^S)).length≤2^S:=Dm h _;have hle: ∀i,(aj L (sn n.E) n.st i).length≤(fM n L S).length:=Oq hd;have OJ:(fM n L S).length≤512:=by unfold jV at hn;omega
 refine ⟨.list dp (U1 (fM n L S)),agZ ?_⟩;unfold Xf;refine bs (ag1 (x:=n.st) (by omega)) ?_;have key:Loop (Dl CC (L:Int) 0 0 (L:Int) 0 ([]:List V) ([]:List V)) (0,tV n L S,n.L,n.S,(n.st:Int),(n.fin:Int),n.E.map Ed.enc,U1 [n.st],uM [n.st],([]:List V),([]:List V))=
   some (.inr (((fM n L S).length:Int),false,tV n L S,n.L,n.S,(n.st:Int),(n.fin:Int),n.E.map Ed.enc,U1 (fM n L S),uM (fM n L S),(ia n L S).bI,(ia n L S).bz)):=by
  refine (eh (fM n L S).length (fun i=>((i:Int),tV n L S,n.L,n.S,(n.st:Int),(n.fin:Int),n.E.map Ed.enc,U1 (aj L (sn n.E) n.st i),uM (aj L (sn n.E) n.st i),(tab i fun j=>V.bool ((ia n L S).fin j)),(tab i fun j=>ep L ((ia n L S).nx j)))) _ (fun i hi=> ?_) ?_)
  ·have eP:=xR hd hi;have WD:i<2^S:=gB hi hd;have s8:(aj L (sn n.E) n.st i)[i]=(fM n L S)[i]:=(lp (show i≤2^S by omega)).getElem eP;have WE:=hle (i+1);have afI:=hle i;have:=Xj h eP (by omega) (U:=fM n L S) (lp (by omega)) (l1:=[]) (l2:=[]) (l3:=(tab i fun j=>V.bool ((ia n L S).fin j))) (l4:=(tab i fun j=>ep L ((ia n L S).nx j))) (by rw[db];omega) (by rw[db];omega);rw[cl,s8] at this;rw[this,gg,gg];have e1:(ia n L S).fin i=sf n.fin (fM n L S)[i]:=Ag hi;have e2:ep L ((ia n L S).nx i)= .list aF (tab L fun x=>nV ((fM n L S).idxOf (sn n.E (fM n L S)[i] x))):=by
    unfold ep;refine congrArg _ (dR fun x hx=> ?_);rw[show (ia n L S).nx i x=_ from v9 hi hx];rfl
   rw[e1,e2]
  ·simp only[Dl,IM,un,aq];rw[show aj L (sn n.E) n.st (fM n L S).length=fM n L S from Ah hd,ot];refine bF (bp (az _)) ?_;rw[bp (az _)];have e3:(ia n L S).n=(fM n L S).length:=nk;unfold Da.bI Da.bz;rw[e3];rfl
 refine bs key ?_;rfl
theorem atB (hn:jV n L S): ∃X,CC zV (nV L::uV n.st:: .list gv (tV n L S)::nv n [])=some ([nV 0,nV 0,.int .i64 3,.list gv (tV n L S)]++(nv n []++[.list ao [],.list ar [],X])):=by
 have h6:=h.l6;have b9:=h.st;have Dn:=h.pow;obtain ⟨m,WG,lb,OK⟩:=Ou (Ot (show 512<(aj L (sn n.E) n.st (2^S)).length from hn)) (by omega);refine ⟨.list dp [],agZ ?_⟩;unfold Xf;refine bs (ag1 (x:=n.st) (by omega)) ?_;have key: ∃r,Loop (Dl CC (L:Int) 0 0 (L:Int) 0 ([]:List V) ([]:List V)) (0,tV n L S,n.L,n.S,(n.st:Int),(n.fin:Int),n.E.map Ed.enc,U1 [n.st],uM [n.st],([]:List V),([]:List V))=some r∧r=(.inl (3,tV n L S,n.L,n.S,(n.st:Int),(n.fin:Int),n.E.map Ed.enc,0,0,[],[],[])):=by
  refine uC (fun i st=> ∃l3 l4:List V,l3.length=i∧l4.length=i∧st=((i:Int),tV n L S,n.L,n.S,(n.st:Int),(n.fin:Int),n.E.map Ed.enc,U1 (aj L (sn n.E) n.st i),uM (aj L (sn n.E) n.st i),l3,l4)) _ m 0 _ (fun i _ hi st b9=> ?_) (fun st b9=> ?_) ⟨[],[],rfl,rfl,rfl⟩
  ·obtain ⟨l3,l4,e3,e4,rfl⟩:=b9;obtain ⟨h1,h2⟩:=lb i (by omega);have h3:=(lb (i+1) (by omega)).2;have:=Xj h h1 h2 (lG _) (l1:=[]) (l2:=[]) (l3:=l3) (l4:=l4) (by omega) (by omega);rw[cl] at this;exact ⟨_,this,_,_,by simp[e3],by simp[e4],rfl⟩
  ·obtain ⟨l3,l4,e3,e4,rfl⟩:=b9;rw[ed] at*
   obtain ⟨h1,h2⟩:=lb m (by omega);have:=Xj h h1 h2 (lG _) (l1:=[]) (l2:=[]) (l3:=l3) (l4:=l4) (by omega) (by omega);rw[br] at this;exact ⟨_,this,rfl⟩
 obtain ⟨r,h1,rfl⟩:=key;refine bs h1 ?_;rfl
theorem atC (hn: ¬jV n L S): ∃X,CC Gx (nv n [])=some (Pg (ia n L S) 0 (.list dp X)):=by
 obtain ⟨X,hX⟩:=atA h hn;refine ⟨X.toList,ag0 ?_⟩;unfold Xi;have hv:=agF n h.ok;rw[h.code] at hv;refine bs hv (bF rfl ?_);have hs:=agQ n h.ok h.good;rw[h.lL,h.sS] at hs;refine bs hs ?_;refine bs ((congrArg (fun z=>CC zV (.int .i64 z::uV n.st:: .list gv (tV n L S)::nv n [])) h.hL).trans hX) ?_;rfl
theorem atD (hn:jV n L S): ∃X,CC Gx (nv n [])=some (Pg zD 3 (.list dp X)):=by
 obtain ⟨X,hX⟩:=atB h hn;refine ⟨X.toList,ag0 ?_⟩;unfold Xi;have hv:=agF n h.ok;rw[h.code] at hv;refine bs hv (bF rfl ?_);have hs:=agQ n h.ok h.good;rw[h.lL,h.sS] at hs;refine bs hs ?_;refine bs ((congrArg (fun z=>CC zV (.int .i64 z::uV n.st:: .list gv (tV n L S)::nv n [])) h.hL).trans hX) ?_;rfl
theorem AJ (hn: ¬jV n L S):(ia n L S).Ok:=by
 unfold jV at hn;exact VP (Dm h _) h.l1 h.l6 (show (fM n L S).length≤512 by omega)
theorem atE {w:List Nat} (hw:WL L w):(ia n L S).acc 0 w=sf n.fin (w.foldl (sn n.E) n.st):=by
 have h1:=aeq (fin:=sf n.fin) (Dm h _) (G3 _) hw;have h2:=aeo (L:=L) (next:=sn n.E) (a0:=n.st) (2^S);rw[cp (G3 _)] at h2;rw[ew h2] at h1;exact h1
end
end Go.AM
set_option maxRecDepth 100000
namespace Go.AM
open Go.IntKind (wrap)
open Go.Proofs Go.Sort
section
variable {α:Type} {enc:α→V}
def uQ (enc:α→V) (d:Array α):List V:=d.toList.map enc
theorem jW (d:Array α):(uQ enc d).length=d.size:=by simp[uQ]
theorem jD (d:Array α) (i:Nat) (x:α):(uQ enc d).set i (enc x)=uQ enc (d.setIfInBounds i x):=by
 unfold uQ;rw[Array.toList_setIfInBounds,List.map_set]
variable [Inhabited α]
theorem jX {d:Array α} {i:Nat} (h:i<d.size):(uQ enc d)[i]? =some (enc d[i]!):=by
 unfold uQ;rw[gD,qR,mj h,getElem!_pos d i h];rfl
theorem lC {d:Array α} {i j:Nat} {x:α} (h:i<d.size):(uQ enc (d.setIfInBounds j x))[i]? =some (enc (d.setIfInBounds j x)[i]!):=jX (by rw[kq];exact h)
theorem jE (a b:Nat):(a:Int)+(b:Int)=((a+b:Nat):Int):=(Int.natCast_add a b).symm
theorem fB (a:Nat):(a:Int)+1=((a+1:Nat):Int):=rfl
theorem yf (a:Nat):((a+1:Nat):Int)-1=(a:Int):=by omega
theorem IN (a:Nat):(a:Int)*2=((a*2:Nat):Int):=by omega
theorem qH {a b:Nat} (h:b≤a):(a:Int)-(b:Int)=((a-b:Nat):Int):=by omega
theorem ny {a:Nat} (h:1≤a):(a:Int)-1=((a-1:Nat):Int):=by omega
theorem divC (a b:Nat):Int.tdiv (a:Int) (b:Int)=((a/b:Nat):Int):=by rw[Int.tdiv_eq_ediv_of_nonneg (by omega)];rfl
theorem rN {p:Prop} [Decidable p] (h:p):decide p=true:=bU h
theorem wB {p:Prop} [Decidable p] (h: ¬p):decide p=false:=cJ h
theorem Dp (p:α→Bool) (d:Array α) (j i:Nat):scanUp p d j i=if i≤j then (if p d[i]! =true then scanUp p d j (i+1) else i) else i:=by
 conv=>lhs;rw[scanUp]
 by_cases h:i≤j
 ·rw[ah h];simp only[h,wK,Bl]
 ·rw[ag h,ag (by simp[h])]
theorem Xk (p:α→Bool) (d:Array α) (i j:Nat):scanDown p d i (j+1)=if i≤j+1 then (if p d[j+1]! =true then scanDown p d i j else j+1) else j+1:=by
 conv=>lhs;rw[scanDown]
 by_cases h:i≤j+1
 ·rw[ah h];simp only[h,wK,Bl]
 ·rw[ag h,ag (by simp[h])]
variable {lt:α→α→Bool}
theorem ag2 (a j:Nat) (d:Array α):insInner lt a (j+1) d=if j+1>a&&lt d[j+1]! d[j]! then insInner lt a j (swp d (j+1) j) else d:=rfl
theorem Xl {a:Nat}: ∀(j:Nat) (d:Array α),(insInner lt a j d).size=d.size
 | 0,d=>rfl
 | j+1,d=>by
  rw[ag2];split
  ·rw[Xl j,size_swp]
  ·rfl
theorem IP (hi first:Nat): ∀(n root:Nat) (d:Array α),hi-root≤n→(siftDown lt hi first root d).size=d.size:=by
 intro n
 induction n with
 | zero=>intro root d h;rw[siftDown,rW (by omega)]
 | succ n ih=>
  intro root d h;rw[siftDown];split
  ·rfl
  ·split
   ·split
    ·rfl
    ·split
     ·rw[ih _ _ (by omega),size_swp]
     ·rfl
   ·split
    ·rfl
    ·rw[ih _ _ (by omega),size_swp]
theorem Xm (hi first:Nat): ∀(k:Nat) (d:Array α),(heapBuild lt hi first k d).size=d.size
 | 0,d=>rfl
 | k+1,d=>by rw[heapBuild,Xm,IP _ _ _ _ _ (az _)]
end
end Go.AM
set_option maxRecDepth 100000
namespace Go.AM
open Go.IntKind (wrap)
open Go.Proofs
def IQ (C:ae) (t7:LV) (t8 t9:Int) (outs:LV) (Xn Xo Xp k':Int) {β:Type} (kn:Int→Option β) (kr:(Int×Bool)→Option β):Option β:=
 bif decide (k'>0) then
  aq outs (wrap .i64 (k'-1)) fun x2=>
  (C Ge [V.int .i64 Xn,V.int .i64 Xo,V.int .i64 Xp,V.int .i64 ((x2.cell 0).toInt),V.int .i64 ((x2.cell 1).toInt),V.int .i64 ((x2.cell 2).toInt)]).bind fun r3=>
  bif (V.nth r3 0).toBool then
  kn (wrap .i64 (k'-1))
  else
  kr (k',(V.nth r3 0).toBool)
 else
  kr (k',false)
def IS (C:ae) (t7:LV) (t8 t9:Int) (outs:LV) (Xn Xo Xp:Int):=fun k'=>IQ C t7 t8 t9 outs Xn Xo Xp k' (fun y=>some (Sum.inl y)) (fun r=>some (Sum.inr r))
def IT (C:ae) (t7:LV) (t8 t9:Int) (outs:LV) {β:Type} (kn:(Int×LV)→Option β) (kr:(Int×Bool×LV)→Option β):Option β:=
 bif decide (t9<t8) then
  (idx t7 t9).bind fun x1=>
  (Loop (IS C t7 t8 t9 outs ((x1.cell 0).toInt) ((x1.cell 1).toInt) ((x1.cell 2).toInt)) (outs.length:Int)).bind (un fun (iP:Int) (od:Bool)=>
   bif iP==0 then
   bif (decide (0≤iP))&&(decide (iP≤(outs.length:Int))) then
    bif Nat.ble ((([]:LV).length+((outs.drop 0).take ((iP.toNat)-0)).length)*24) aX then
    bif Nat.ble (((([]:LV)++((outs.drop 0).take ((iP.toNat)-0))).length+([.agg [V.int .i64 ((x1.cell 0).toInt),V.int .i64 ((x1.cell 1).toInt),V.int .i64 ((x1.cell 2).toInt)]]:LV).length)*24) aX then
     bif (decide (0≤iP))&&(decide (iP≤(outs.length:Int))) then
     bif Nat.ble ((((([]:LV)++((outs.drop 0).take ((iP.toNat)-0)))++([.agg [V.int .i64 ((x1.cell 0).toInt),V.int .i64 ((x1.cell 1).toInt),V.int .i64 ((x1.cell 2).toInt)]]:LV)).length+((outs.drop (iP.toNat)).take (outs.length-(iP.toNat))).length)*24) aX then
      kn (wrap .i64 (t9+1),((([]:LV)++((outs.drop 0).take ((iP.toNat)-0)))++([.agg [V.int .i64 ((x1.cell 0).toInt),V.int .i64 ((x1.cell 1).toInt),V.int .i64 ((x1.cell 2).toInt)]]:LV))++((outs.drop (iP.toNat)).take (outs.length-(iP.toNat))))
     else none
     else none
    else none
    else none
   else none
   else
   aq outs (wrap .i64 (iP-1)) fun x6=>
   bif !(((((x6.cell 0).toInt):Int)==((x1.cell 0).toInt))&&(((((x6.cell 1).toInt):Int)==((x1.cell 1).toInt))&&(((((x6.cell 2).toInt):Int)==((x1.cell 2).toInt))&&true))) then
    bif (decide (0≤iP))&&(decide (iP≤(outs.length:Int))) then
    bif Nat.ble ((([]:LV).length+((outs.drop 0).take ((iP.toNat)-0)).length)*24) aX then
     bif Nat.ble (((([]:LV)++((outs.drop 0).take ((iP.toNat)-0))).length+([.agg [V.int .i64 ((x1.cell 0).toInt),V.int .i64 ((x1.cell 1).toInt),V.int .i64 ((x1.cell 2).toInt)]]:LV).length)*24) aX then
     bif (decide (0≤iP))&&(decide (iP≤(outs.length:Int))) then
      bif Nat.ble ((((([]:LV)++((outs.drop 0).take ((iP.toNat)-0)))++([.agg [V.int .i64 ((x1.cell 0).toInt),V.int .i64 ((x1.cell 1).toInt),V.int .i64 ((x1.cell 2).toInt)]]:LV)).length+((outs.drop (iP.toNat)).take (outs.length-(iP.toNat))).length)*24) aX then
      kn (wrap .i64 (t9+1),((([]:LV)++((outs.drop 0).take ((iP.toNat)-0)))++([.agg [V.int .i64 ((x1.cell 0).toInt),V.int .i64 ((x1.cell 1).toInt),V.int .i64 ((x1.cell 2).toInt)]]:LV))++((outs.drop (iP.toNat)).take (outs.length-(iP.toNat))))
      else none
     else none
     else none
    else none
    else none
   else
    kn (wrap .i64 (t9+1),outs))
 else
  kr (t9,decide (t9<t8),outs)
def IU (C:ae) (t7:LV) (t8:Int):=un fun t9 outs=>IT C t7 t8 t9 outs (fun y=>some (Sum.inl y)) (fun r=>some (Sum.inr r))
def ag3 (C:ae):cE:=bG 97 Uj [H1,EQ,EQ,EQ,EQ,EQ,EQ,EQ] [[0,2,3,4,0,5,6,7,8]] (@IQ C) (bG 49 Uk [EQ,EQ,H1,H1] [[1,2,0,0,0]] (@IT C) bm)
theorem atF (C:ae):aW C (ag3 C) 40 (Lp [1,1,0,1,0,0,1,1,0,0,1,1,0,0,0] 40):=bE Uj [H1,EQ,EQ,EQ,EQ,EQ,EQ,EQ] [[0,2,3,4,0,5,6,7,8]] (@IQ C) (aG an)
theorem atG (C:ae):aW C (ag3 C) 40 (Lp [1,1,0,1,0,0] 40):=bE Uk [EQ,EQ,H1,H1] [[1,2,0,0,0]] (@IT C) (aG (aU (atF C) an))
def ag4 (C:ae) (l:LV):Option LV:=
 (Loop (IU C l (l.length:Int)) (0,([]:LV))).bind (un fun kJ=>un fun (oe:Bool) (AK:LV)=>
  some [.list bt AK])
theorem atH {l:LV} {r:Option LV} (h:ag4 CC l=r):CC MG [.list bt l]=r:=bj (aU (atG CC) an) h
end Go.AM
set_option maxRecDepth 100000
set_option maxHeartbeats 1000000
namespace Go.AM
open Go.IntKind (wrap)
open Go.Proofs
theorem Ed.lt_irrefl (a:Ed): ¬a.lt a:=by unfold Ed.lt;omega
theorem Ed.lt_trans {a b c:Ed}:a.lt b→b.lt c→a.lt c:=by unfold Ed.lt;omega
theorem Ed.lt_asymm {a b:Ed}:a.lt b→¬b.lt a:=by unfold Ed.lt;omega
theorem Ed.ag5 {a b:Ed} (h1: ¬a.lt b) (h2: ¬b.lt a):a=b:=by
 cases a;cases b;simp only[Ed.lt,Ed.mk.injEq] at*
 omega
abbrev rO (E:List Ed):Prop:=E.Pairwise Ed.lt
def Ed.key (e:Ed):Nat:=(e.f.toNat*6+e.l.toNat)*64+e.t.toNat
theorem Ed.atI {a b:Ed} {L S:Int} (hL:L≤6) (hS:S≤64) (ha:a.In L S) (hb:b.In L S) (h:a.lt b):a.key<b.key:=by
 unfold Ed.In at ha hb;unfold Ed.lt at h;unfold Ed.key;omega
theorem atJ {L S:Int} (hL:L≤6) (hS:S≤64): ∀(E:List Ed),rO E→(∀e∈E,e.In L S)→∀i (hi:i<E.length),i≤E[i].key:=by
 intro E h hE i
 induction i with
 | zero=>intro hi;omega
 | succ i ih=>
  intro hi;have h1:=ih (by omega);have h2:=(Bk.1 h) i (i+1) (by omega) hi (by omega);have:=Ed.atI hL hS (hE _ (ff _)) (hE _ (ff _)) h2;omega
theorem atK {L S:Int} (hL:L≤6) (hS:S≤64) {E:List Ed} (h:rO E) (hE: ∀e∈E,e.In L S):E.length≤24576:=by
 by_cases h0:E.length=0
 ·omega
 ·have h1:=atJ hL hS E h hE (E.length-1) (by omega);have h2:=hE E[E.length-1] (ff _);unfold Ed.In at h2;unfold Ed.key at h1;omega
theorem Xq: ∀{A B:List Ed},rO A→rO B→(∀x,x∈A↔x∈B)→A=B
 | [],[],_,_,_=>rfl
 | [],b::B,_,_,h=>by have:=(h b).2 (by simp);cases this
 | a::A,[],_,_,h=>by have:=(h a).1 (by simp);cases this
 | a::A,b::B,hA,hB,h=>by
  have a1:=yJ.1 hA;have b1:=yJ.1 hB;have jr:a=b:=by
   have ha:=(h a).1 (by simp);have hb:=(h b).2 (by simp);rcases iR.1 ha with e|e
   ·exact e
   ·rcases iR.1 hb with e'|e'
    ·exact e'.symm
    ·exact absurd (a1.1 b e') (Ed.lt_asymm (b1.1 a e))
  subst jr;rw[Xq a1.2 b1.2 fun x=> ?_];constructor
  ·intro hx;rcases iR.1 ((h x).1 (by simp[hx])) with e|e
   ·subst e;exact absurd (a1.1 x hx) (Ed.lt_irrefl x)
   ·exact e
  ·intro hx;rcases iR.1 ((h x).2 (by simp[hx])) with e|e
   ·subst e;exact absurd (b1.1 x hx) (Ed.lt_irrefl x)
   ·exact e
def lD (out:List Ed) (e:Ed):Nat→Nat
 | 0=>0
 | k+1=>if e.lt (out.getD k default) then lD out e k else k+1
def rP (out:List Ed) (e:Ed):List Ed:=
 if lD out e out.length=0∨¬out.getD (lD out e out.length-1) default=e then out.take (lD out e out.length)++[e]++out.drop (lD out e out.length) else out
def rQ (l:List Ed):List Ed:=l.foldl rP []
theorem IV (out:List Ed) (e:Ed): ∀k,lD out e k≤k
 | 0=>az _
 | k+1=>by unfold lD;split;exact Nat.le_succ_of_le (IV out e k);exact az _
theorem ag6 (out:List Ed) (e:Ed): ∀k i,lD out e k≤i→i<k→e.lt (out.getD i default)
 | 0,i,_,h=>by omega
 | k+1,i,h1,h2=>by
  unfold lD at h1;split at h1
  ·rename_i h3;by_cases hi:i=k
   ·subst hi;exact h3
   ·exact ag6 out e k i h1 (by omega)
  ·omega
theorem ag7 (out:List Ed) (e:Ed): ∀k,lD out e k≠0→¬e.lt (out.getD (lD out e k-1) default)
 | 0,h=>by simp[lD] at h
 | k+1,h=>by
  unfold lD at h⊢;split
  ·rename_i h3;rw[ah h3] at h;exact ag7 out e k h
  ·rename_i h3;simpa using h3
theorem atL {out:List Ed} {e x:Ed} (hk:lD out e out.length≤out.length):x∈rP out e↔x=e∨x∈out:=by
 unfold rP;split
 ·rename_i h;have:=List.take_append_drop (lD out e out.length) out;constructor
  ·intro hx;simp only[fN,eW,jF] at hx;rcases hx with hx|hx|hx
   ·exact .inr (List.mem_of_mem_take hx)
   ·exact .inl hx
   ·exact .inr (List.mem_of_mem_drop hx)
  ·rintro (rfl|hx)
   ·simp
   ·rw[←this] at hx;simp only[eW] at hx;simp only[fN,eW,jF];rcases hx with hx|hx
    ·exact .inl hx
    ·exact .inr (.inr hx)
 ·rename_i h;simp only[not_or,Classical.not_not] at h;constructor
  ·exact .inr
  ·rintro (rfl|hx)
   ·have h1:=h.2;have h2:lD out x out.length-1<out.length:=by omega
    rw[←h1];simp[h2]
   ·exact hx
theorem atM {out:List Ed} {e:Ed} (h:rO out):rO (rP out e):=by
 have hk:=IV out e out.length;have up:=ag6 out e out.length;have dn:=ag7 out e out.length;unfold rP;generalize hq:lD out e out.length=k at*
 split
 ·rename_i hc;have g:=Bk.1 h;have lj: ∀x∈out.take k,x.lt e:=by
   intro x hx;obtain ⟨i,hi,rfl⟩:=Ef hx;have eT:i<k:=by rw[lF] at hi;omega
   have sI:i<out.length:=by omega
   rw[List.getElem_take];have IW:k≠0:=by omega
   have h1:=dn IW;have h2: ¬out.getD (k-1) default=e:=by
    rcases hc with hc|hc
    ·exact absurd hc IW
    ·exact hc
   have qm:k-1<out.length:=by omega
   have e1:out.getD (k-1) default=out[k-1]:=by simp[qm]
   rw[e1] at h1 h2;have h3:out[k-1].lt e:=by
    by_cases h4:out[k-1].lt e
    ·exact h4
    ·exact absurd (Ed.ag5 h4 h1) h2
   by_cases hik:i=k-1
   ·subst hik;exact h3
   ·exact Ed.lt_trans (g i (k-1) sI qm (by omega)) h3
  have kg: ∀y∈out.drop k,e.lt y:=by
   intro y hy;obtain ⟨i,hi,rfl⟩:=Ef hy;rw[Be] at hi;rw[List.getElem_drop];have:=up (k+i) (by omega) (by omega);have e1:out.getD (k+i) default=out[k+i]:=by simp[show k+i<out.length by omega]
   rwa [e1] at this
  rw[rO,fN,List.pairwise_append];refine ⟨h.sublist (List.take_sublist _ _),?_,?_⟩
  ·rw[List.singleton_append,yJ];exact ⟨kg,h.sublist (List.drop_sublist _ _)⟩
  ·intro x hx y hy;rw[List.singleton_append,iR] at hy;rcases hy with rfl|hy
   ·exact lj x hx
   ·exact Ed.lt_trans (lj x hx) (kg y hy)
 ·exact h
theorem Xr: ∀(l out:List Ed),rO out→rO (l.foldl rP out)∧∀x,x∈l.foldl rP out↔x∈l∨x∈out
 | [],out,h=>⟨h,by simp⟩
 | e::l,out,h=>by
  obtain ⟨h1,h2⟩:=Xr l (rP out e) (atM h);refine ⟨h1,fun x=> ?_⟩;rw[List.foldl_cons,h2,atL (IV _ _ _)];simp only[iR];constructor
  ·rintro (h|h|h)
   ·exact .inl (.inr h)
   ·exact .inl (.inl h)
   ·exact .inr h
  ·rintro ((h|h)|h)
   ·exact .inr (.inl h)
   ·exact .inl h
   ·exact .inr (.inr h)
theorem IX (l:List Ed):rO (rQ l):=(Xr l [] List.Pairwise.nil).1
theorem yg {l:List Ed} {x:Ed}:x∈rQ l↔x∈l:=by
 have:=(Xr l [] List.Pairwise.nil).2 x;simpa[rQ] using this
theorem atN (out:List Ed) (e:Ed):(rP out e).length≤out.length+1:=by
 unfold rP;have:=IV out e out.length;split
 ·simp only[dd,lF,Be,List.length_cons,List.length_nil];omega
 ·omega
theorem ag8 {out:List Ed} {e:Ed} {t7:List V} {t8 t9:Int}: ∀k,k≤out.length→out.length<1152921504606846976→∃t,Loop (IS CC t7 t8 t9 (out.map Ed.enc) e.f e.l e.t) (k:Int)=some (((lD out e k:Nat):Int),t)
 | 0,_,_=>⟨false,di (by
   simp (disch:=omega) only[IS,IQ,aM,ag,aq];rfl)⟩
 | k+1,hk,hs=>by
  obtain ⟨t,ih⟩:=ag8 (out:=out) (e:=e) (t7:=t7) (t8:=t8) (t9:=t9) k (by omega) hs;have e1:IS CC t7 t8 t9 (out.map Ed.enc) e.f e.l e.t ((k+1:Nat):Int)=bif decide (e.lt (out.getD k default)) then some (.inl (k:Int)) else some (.inr (((k+1:Nat):Int),decide (e.lt (out.getD k default)))):=by
   simp only[IS,IQ,aq];rw[aM,br,yf,dM,e7,aM,br,aM,ah (by rw[cH];omega),Int.toNat_natCast];have hg:(out.map Ed.enc)[k]? =some (out.getD k default).enc:=by
    rw[gD,cp (by omega)];simp[show k<out.length by omega]
   rw[hg];simp only[Option.bind_some,Ed.mK,Ed.mL,Ed.mM,agD,V.ct,V.mC]
  unfold lD;by_cases h:e.lt (out.getD k default)
  ·rw[ah h];rw[bU h,cond_true] at e1;exact ⟨t,(fY e1).trans ih⟩
  ·rw[ag h];rw[cJ h,cond_false] at e1;exact ⟨_,di e1⟩
theorem IY (a b:Ed):((a.f==b.f)&&((a.l==b.l)&&((a.t==b.t)&&true)))=decide (a=b):=by
 cases a;cases b;rw[nJ];simp
theorem atO (out:List Ed) (k:Nat) (e:Ed):((([]:List V)++(((out.map Ed.enc).drop 0).take (k-0)))++([e.enc]:List V))++(((out.map Ed.enc).drop k).take ((out.map Ed.enc).length-k))=(out.take k++[e]++out.drop k).map Ed.enc:=by
 simp;rw[Ku (by simp)]
theorem atP {l:List Ed} (hl:l.length≤1000000000):CC MG [.list bt (l.map Ed.enc)]=some [.list bt ((rQ l).map Ed.enc)]:=by
 refine atH ?_;unfold ag4;have:=VJ (step:=IU CC (l.map Ed.enc) ((l.map Ed.enc).length:Int)) l (fun i (out:List Ed)=>((i:Int),out.map Ed.enc)) rP (fun out=>((l.length:Int),false,out.map Ed.enc)) (fun i out=>out.length≤i) ?_ ?_ [] (az _)
 ·rw[show Loop (IU CC (l.map Ed.enc) ((l.map Ed.enc).length:Int)) (0,([]:List V))=_ from this.1];rfl
 ·intro i out hi ho;refine ⟨?_,kP (atN _ _) (by omega)⟩;obtain ⟨t,h1⟩:=ag8 (out:=out) (e:=l[i]) (t7:=l.map Ed.enc) (t8:=((l.map Ed.enc).length:Int)) (t9:=(i:Int)) out.length (az _) (by omega);have hk:=IV out l[i] out.length;simp only[IU,IT,un,aq];rw[aM,ah (by rw[cH];omega),AH hi,show l.getD i default=l[i] by simp[hi]];simp only[Option.bind_some,Ed.mK,Ed.mL,Ed.mM];rw[show ((out.map Ed.enc).length:Int)=((out.length:Nat):Int) by simp,h1];simp only[Option.bind_some,un,Ed.re];unfold rP;generalize lD out l[i] out.length=k at*
  have ag9: ∀X:Option (((Int×List V)) ⊕ (Int×Bool×List V)),X=some (.inl (wrap .i64 ((i:Int)+1),((([]:List V)++(((out.map Ed.enc).drop 0).take (((k:Int).toNat)-0)))++([l[i].enc]:List V))++(((out.map Ed.enc).drop ((k:Int).toNat)).take ((out.map Ed.enc).length-((k:Int).toNat)))))→
    X=some (.inl (((i+1:Nat):Int),(out.take k++[l[i]]++out.drop k).map Ed.enc)):=by
   intro X hX;rw[hX,Int.toNat_natCast,atO,fB,dM]
  have lens:(([]:List V).length+(((out.map Ed.enc).drop 0).take (((k:Int).toNat)-0)).length)*24≤aX∧
    ((([]:List V)++(((out.map Ed.enc).drop 0).take (((k:Int).toNat)-0))).length+([l[i].enc]:List V).length)*24≤aX∧
    (((([]:List V)++(((out.map Ed.enc).drop 0).take (((k:Int).toNat)-0)))++([l[i].enc]:List V)).length+(((out.map Ed.enc).drop ((k:Int).toNat)).take ((out.map Ed.enc).length-((k:Int).toNat))).length)*24≤aX:=by
   rw[v8];simp only[Int.toNat_natCast,dd,lF,Be,cH,List.length_nil,List.length_cons];omega
  by_cases IW:k=0
  ·rw[ah (Or.inl IW),rv,br];refine ag9 _ ?_;rw[e7,aM,br,aM,br,vN,ah lens.1,vN,ah lens.2.1,e7,aM,br,aM,br,vN,ah lens.2.2]
  ·rw[rv,cl,ny (by omega),wrap64 (x:=((k-1:Nat):Int)) (by omega) (by omega),e7,aM,br,aM,br,Int.toNat_natCast];have hg:(out.map Ed.enc)[k-1]? =some (out.getD (k-1) default).enc:=by
    rw[gD,cp (by omega)];simp[show k-1<out.length by omega]
   rw[hg];simp only[Option.bind_some,Ed.mK,Ed.mL,Ed.mM,IY];by_cases hc:out.getD (k-1) default=l[i]
   ·rw[ag (fun hx=>hx.elim IW (fun h=>h hc)),bU hc];simp only[D4,cond_false];rw[fB,dM]
   ·rw[ah (Or.inr hc),cJ hc];simp only[Bool.not_false,cond_true];refine ag9 _ ?_;rw[e7,aM,br,aM,br,vN,ah lens.1,vN,ah lens.2.1,e7,aM,br,aM,br,vN,ah lens.2.2]
 ·intro out ho;simp only[IU,IT,un,aq];rw[cH,wB (by omega),cond_false]
end Go.AM
set_option maxRecDepth 100000
namespace Go.AM
open Go.IntKind (wrap)
open Go.Proofs
def Dq (C:ae) (IZ AL:Nat) (k' ou:Int) (ss:LV) {β:Type} (kn:(Int×Int×LV)→Option β) (kr:(Int×Int×Bool×LV)→Option β):Option β:=
 bif decide (ou<(AL:Int)) then
  bif (decide (0≤ou))&&(decide (ou<(AL:Int))) then
  (ss[IZ+(ou.toNat)]?).bind fun x3=>
  bif (decide (0≤(wrap .i64 (ou-1))))&&(decide ((wrap .i64 (ou-1))<(AL:Int))) then
   (ss[IZ+((wrap .i64 (ou-1):Int).toNat)]?).bind fun x4=>
   bif !(((((x3.cell 0).toInt):Int)==((x4.cell 0).toInt))&&(((((x3.cell 1).toInt):Int)==((x4.cell 1).toInt))&&(((((x3.cell 2).toInt):Int)==((x4.cell 2).toInt))&&true))) then
   bif (decide (0≤ou))&&(decide (ou<(AL:Int))) then
    (ss[IZ+(ou.toNat)]?).bind fun x5=>
    aq ss k' fun x6=>
    kn (wrap .i64 (k'+1),wrap .i64 (ou+1),aI ss k' (.agg [V.int .i64 ((x5.cell 0).toInt),V.int .i64 ((x5.cell 1).toInt),V.int .i64 ((x5.cell 2).toInt)]))
   else none
   else
   kn (k',wrap .i64 (ou+1),ss)
  else none
  else none
 else
  kr (k',ou,decide (ou<(AL:Int)),ss)
def AN (C:ae) (IZ AL:Nat):=un fun k'=>un fun ou ss=>Dq C IZ AL k' ou ss (fun y=>some (Sum.inl y)) (fun r=>some (Sum.inr r))
def Dr (C:ae) (ss:LV) (k':Int) {β:Type} (kn:Int→Option β) (kr:(LV ⊕ (Int×Bool))→Option β):Option β:=
 bif decide (k'<(ss.length:Int)) then
  aq ss k' fun x1=>
  aq ss (wrap .i64 (k'-1)) fun x2=>
  bif ((((x1.cell 0).toInt):Int)==((x2.cell 0).toInt))&&(((((x1.cell 1).toInt):Int)==((x2.cell 1).toInt))&&(((((x1.cell 2).toInt):Int)==((x2.cell 2).toInt))&&true)) then
  bif (decide (0≤k'))&&(decide (k'≤(ss.length:Int))) then
   (Loop (AN C (k'.toNat) (ss.length-(k'.toNat))) (k',1,ss)).bind (un fun qI=>un fun k_8=>un fun (rH:Bool) (wC:LV)=>
    bif (decide (0≤qI))&&(decide (qI≤(wC.length:Int))) then
    bif (decide (0≤qI))&&(decide (qI≤((wC.take (qI.toNat)++(List.replicate (wC.length-(qI.toNat)) (V.agg [V.int .i64 0,V.int .i64 0,V.int .i64 0])++wC.drop ((qI.toNat)+(wC.length-(qI.toNat))))).length:Int))) then
     kr (.inl ((wC.take (qI.toNat)++(List.replicate (wC.length-(qI.toNat)) (V.agg [V.int .i64 0,V.int .i64 0,V.int .i64 0])++wC.drop ((qI.toNat)+(wC.length-(qI.toNat))))).take (qI.toNat)))
    else none
    else none)
  else none
  else
  kn (wrap .i64 (k'+1))
 else
  kr (.inr (k',decide (k'<(ss.length:Int))))
def AO (C:ae) (ss:LV):=fun k'=>Dr C ss k' (fun y=>some (Sum.inl y)) (fun r=>some (Sum.inr r))
def aha (C:ae):cE:=bG 145 UN [H1,EQ,EQ,H1,H1] [[0,2,3,0,0,0]] (@Dq C) (bG 65 UO [true,false] [[0],[0,0,2]] (@Dr C) bm)
theorem atQ (C:ae):aW C (aha C) 89 (Lp [1,1,0,1,0,0,1,0,0,1,0,1,0,1,0,0] 89):=bE UN [H1,EQ,EQ,H1,H1] [[0,2,3,0,0,0]] (@Dq C) (aG an)
theorem atS (C:ae):aW C (aha C) 89 (Lp [1,1,0,1,0,0] 89):=bE UO [true,false] [[0],[0,0,2]] (@Dr C) (aG (aU (atQ C) an))
def Ph (C:ae) (ss:LV):Option LV:=
 bif decide ((ss.length:Int)<2) then
  some [V.bool true,.list bt ss]
 else
  (Loop (AO C ss) 1).bind (bN (fun (atT:LV)=>
   some [V.bool false,.list bt atT]) (un fun (azs:Int) (oU:Bool)=>
   some [V.bool true,.list bt ss]))
theorem Xs {ss:LV} {r:Option LV} (h:Ph CC ss=r):CC MT [.list bt ss]=r:=bj (aU (atS CC) an) h
def rR (prev:Ed):List Ed→List Ed
 | []=>[]
 | x::l=>if x=prev then rR x l else x::rR x l
def lZ:List Ed→List Ed
 | []=>[]
 | x::l=>x::rR x l
theorem Xt {l:List Ed} {j:Nat} (h:j<l.length):l.take (j+1)=l.take j++[l.getD j default]:=by
 rw[Kt h];simp[h]
theorem ahb {l ss:List Ed} {j:Nat} (hl:ss.length=l.length) (h:ss.drop j=l.drop j) (hj:j<l.length):ss.getD j default=l.getD j default:=by
 have h1:=congrArg (fun x:List Ed=>x.getD 0 default) h;simpa[hj,hl] using h1
theorem I4 {l:List Ed} {i:Nat} (h:i<l.length):(l.map Ed.enc)[i]? =some (l.getD i default).enc:=by simp[h]
theorem atU (ss:List Ed) (m:Nat) (z:V) (hm:m≤ss.length):((((ss.map Ed.enc).take m++(List.replicate ((ss.map Ed.enc).length-m) z++(ss.map Ed.enc).drop (m+((ss.map Ed.enc).length-m)))).take m)=(ss.take m).map Ed.enc):=by
 rw[List.take_append_of_le_length (by simp;omega),Ku (by simp;omega),List.map_take]
theorem ahc: ∀(m:List Ed) (prev x:Ed),rR prev (m++[x])=rR prev m++(if x=(prev::m).getD m.length default then [] else [x])
 | [],prev,x=>by simp only[List.nil_append,rR,List.length_nil,List.getD_cons_zero]
 | y::m,prev,x=>by
  have ih:=ahc m y x;simp only[List.cons_append,rR,List.length_cons,List.getD_cons_succ];split
  ·exact ih
  ·rw[ih];rfl
theorem ahd {l:List Ed} {p:Nat} (h1:1≤p) (h2:p<l.length):lZ (l.take (p+1))=lZ (l.take p)++(if l.getD p default=l.getD (p-1) default then [] else [l.getD p default]):=by
 match l,p,h1,h2 with
 | y::l,p+1,_,h2=>
  simp only[List.length_cons] at h2;rw[List.take_succ_cons,List.take_succ_cons,lZ,lZ,Xt (by omega),ahc];simp only[List.getD_cons_succ,lF,Kn];rw[show min p l.length=p by omega];have:(y::l.take p).getD p default=(y::l).getD p default:=by
   match p with
   | 0=>rfl
   | q+1=>simp only[List.getD_cons_succ];rw[wR,wR,iQ (by omega)]
  rw[this];rfl
theorem ahe: ∀(m:List Ed) (prev:Ed),(prev::m).Pairwise (fun x y=> ¬y.lt x)→rO (prev::rR prev m)∧∀x,x∈prev::rR prev m↔x∈prev::m
 | [],prev,_=>⟨by simp[rR],by simp[rR]⟩
 | y::m,prev,h=>by
  have h1:=yJ.1 h;obtain ⟨i1,i2⟩:=ahe m y h1.2;rw[rR];by_cases hc:y=prev
  ·rw[ah hc];subst hc;refine ⟨i1,fun x=> ?_⟩;rw[i2 x];simp
  ·rw[ag hc];have bf:prev.lt y:=by
    by_cases h2:prev.lt y
    ·exact h2
    ·exact absurd (Ed.ag5 h2 (h1.1 y (by simp))) fun e=>hc e.symm
   refine ⟨yJ.2 ⟨fun x hx=> ?_,i1⟩,fun x=> ?_⟩
   ·rcases iR.1 hx with rfl|hx
    ·exact bf
    ·exact Ed.lt_trans bf ((yJ.1 i1).1 x hx)
   ·rw[iR,i2 x,←iR]
theorem atV {l:List Ed} (h:l.Pairwise (fun x y=> ¬y.lt x)):rO (lZ l)∧∀x,x∈lZ l↔x∈l:=by
 match l,h with
 | [],_=>exact ⟨List.Pairwise.nil,fun _=>Iff.rfl⟩
 | y::l,h=>exact ahe l y h
section
variable {l:List Ed} (hn:l.length≤1000000)
include hn
theorem atW {k:Nat}: ∀(d k2 i:Nat) (ss:List Ed),k+k2+d=l.length→1≤k2→i+1≤k+k2→ss.length=l.length→ss.take i=lZ (l.take (k+k2))→ss.drop (k+k2-1)=l.drop (k+k2-1)→
  ∃t u Ds,Loop (AN CC k (l.length-k)) ((i:Int),(k2:Int),ss.map Ed.enc)=some (((lZ l).length:Int),u,t,List.map Ed.enc Ds)∧Ds.take (lZ l).length=lZ l∧Ds.length=l.length:=by
 intro d
 induction d with
 | zero=>
  intro k2 i ss hj uh hi hl ht hd;have e0:l.take (k+k2)=l:=Ku (by omega);rw[e0] at ht;have lh:i=(lZ l).length:=by rw[←ht,lF];omega
  refine ⟨false,(k2:Int),ss,di ?_,by rw[←lh];exact ht,hl⟩;simp only[AN,Dq,un,cH,aM,aq,aI];rw[cl,yP,lh]
 | succ d ih=>
  intro k2 i ss hj uh hi hl ht hd;have hp:k+k2<l.length:=by omega
  have ri:ss.drop (k+k2)=l.drop (k+k2):=by
   have h:=congrArg (List.drop 1) hd;rw[List.drop_drop,List.drop_drop] at h;rwa [show k+k2-1+1=k+k2 by omega] at h
  have g1:=ahb hl ri hp;have g0:=ahb hl hd (show k+k2-1<l.length by omega);have x1:(ss.map Ed.enc)[k+k2]? =some (l.getD (k+k2) default).enc:=by rw[I4 (by omega),g1]
  have x0:(ss.map Ed.enc)[k+(k2-1)]? =some (l.getD (k+k2-1) default).enc:=by rw[show k+(k2-1)=k+k2-1 by omega,I4 (by omega),g0]
  have w1:wrap .i64 ((k2:Int)-1)=((k2-1:Nat):Int):=by rw[dM];omega
  have t1:((k2:Nat):Int)<((l.length-k:Nat):Int):=by omega
  have t2:(0:Int)≤((k2:Nat):Int):=by omega
  have t3:(0:Int)≤((k2-1:Nat):Int):=by omega
  have t4:((k2-1:Nat):Int)<((l.length-k:Nat):Int):=by omega
  have t5:((i:Nat):Int)<(ss.length:Int):=by omega
  have t6:(0:Int)≤((i:Nat):Int):=by omega
  have xt: ∃y,(ss.map Ed.enc)[i]? =some y:=⟨_,I4 (by omega)⟩
  obtain ⟨y,hy⟩:=xt;have cs:=ahd (l:=l) (p:=k+k2) (by omega) hp;by_cases he:l.getD (k+k2) default=l.getD (k+k2-1) default
  ·have b9:AN CC k (l.length-k) ((i:Int),(k2:Int),ss.map Ed.enc)=some (.inl ((i:Int),((k2+1:Nat):Int),ss.map Ed.enc)):=by
    simp only[AN,Dq,un,aq,aI];refine bT (bU t1) ?_;refine bT (lH.2 ⟨bU t2,bU t1⟩) ?_;rw[Int.toNat_natCast];refine bs x1 ?_;rw[w1];refine bT (lH.2 ⟨bU t3,bU t4⟩) ?_;rw[Int.toNat_natCast];refine bs x0 ?_;simp only[Ed.mK,Ed.mL,Ed.mM,IY];rw[bU he];refine bF rfl ?_;rw[dM];rfl
   rw[fY b9];refine ih (k2+1) i ss (by omega) (by omega) (by omega) hl ?_ (by rw[show k+(k2+1)-1=k+k2 by omega];exact ri);rw[show k+(k2+1)=k+k2+1 by omega,cs,ah he,j4,ht]
  ·have b9:AN CC k (l.length-k) ((i:Int),(k2:Int),ss.map Ed.enc)=some (.inl (((i+1:Nat):Int),((k2+1:Nat):Int),(ss.set i (l.getD (k+k2) default)).map Ed.enc)):=by
    simp only[AN,Dq,un,aq,aI];refine bT (bU t1) ?_;refine bT (lH.2 ⟨bU t2,bU t1⟩) ?_;rw[Int.toNat_natCast];refine bs x1 ?_;rw[w1];refine bT (lH.2 ⟨bU t3,bU t4⟩) ?_;rw[Int.toNat_natCast];refine bs x0 ?_;simp only[Ed.mK,Ed.mL,Ed.mM,IY];rw[cJ he];refine bT rfl ?_;refine bT (lH.2 ⟨bU t2,bU t1⟩) ?_;refine bs x1 ?_;refine bT (by rw[cH];exact lH.2 ⟨bU t6,bU t5⟩) ?_;rw[Int.toNat_natCast];refine bs hy ?_;simp only[Ed.mK,Ed.mL,Ed.mM,Ed.re];rw[dM,dM,List.map_set];rfl
   rw[fY b9];refine ih (k2+1) (i+1) (ss.set i (l.getD (k+k2) default)) (by omega) (by omega) (by omega) (by simpa using hl) ?_ ?_
   ·rw[Xt (by rw[wO];omega),List.take_set_of_le (az i),ht,show k+(k2+1)=k+k2+1 by omega,cs,ag he];simp[show i<ss.length by omega]
   ·rw[show k+(k2+1)-1=k+k2 by omega,List.drop_set_of_lt (by omega),ri]
theorem atX: ∀(d p:Nat),p+d=l.length→1≤p→lZ (l.take p)=l.take p→
  (lZ l=l∧∃t,Loop (AO CC (l.map Ed.enc)) (p:Int)=some (.inr t))∨Loop (AO CC (l.map Ed.enc)) (p:Int)=some (.inl ((lZ l).map Ed.enc)):=by
 intro d
 induction d with
 | zero=>
  intro p hp h1 hc;obtain rfl:p=l.length:=by omega
  rw[u0] at hc;refine .inl ⟨hc,((l.length:Int),false),di ?_⟩;simp only[AO,Dr,cH,aM,aq];rw[cl,yP]
 | succ d ih=>
  intro p hp h1 hc;have fS:p<l.length:=by omega
  have cs:=ahd (l:=l) h1 fS;have x1:(l.map Ed.enc)[p]? =some (l.getD p default).enc:=I4 fS;have x0:(l.map Ed.enc)[p-1]? =some (l.getD (p-1) default).enc:=I4 (by omega);have w1:wrap .i64 ((p:Int)-1)=((p-1:Nat):Int):=by rw[dM];omega
  have t1:((p:Nat):Int)<(l.length:Int):=by omega
  have t2:(0:Int)≤((p:Nat):Int):=by omega
  have t3:(0:Int)≤((p-1:Nat):Int):=by omega
  have t4:((p-1:Nat):Int)<(l.length:Int):=by omega
  have t5:((p:Nat):Int)≤(l.length:Int):=by omega
  by_cases he:l.getD p default=l.getD (p-1) default
  ·refine .inr (di ?_);obtain ⟨t,u,Ds,e1,e2,e3⟩:=atW hn (k:=p) (l.length-(p+1)) 1 p l (by omega) (by omega) (by omega) rfl (by rw[cs,ah he,j4,hc]) rfl;have hm:(lZ l).length≤Ds.length:=by
    have:=congrArg List.length e2;rw[lF] at this;omega
   have m1:(0:Int)≤(((lZ l).length:Nat):Int):=by omega
   have m2:(((lZ l).length:Nat):Int)≤((Ds.map Ed.enc).length:Int):=by rw[cH];omega
   simp only[AO,Dr,cH,aq];refine bT (bU t1) ?_;refine bT (lH.2 ⟨bU t2,bU t1⟩) ?_;rw[Int.toNat_natCast];refine bs x1 ?_;rw[w1];refine bT (lH.2 ⟨bU t3,bU t4⟩) ?_;rw[Int.toNat_natCast];refine bs x0 ?_;simp only[Ed.mK,Ed.mL,Ed.mM,IY];rw[bU he];refine bT rfl ?_;refine bT (lH.2 ⟨bU t2,bU t5⟩) ?_;refine (congrArg (fun o=>Option.bind o _) e1).trans ?_;simp only[Option.bind_some,un,e7,aM,Int.toNat_natCast];rw[ah m1,ah m2,ah m1,ah (by simp only[dd,lF,Bf,Be,cH];omega),atU _ _ _ hm,e2]
  ·have b9:AO CC (l.map Ed.enc) (p:Int)=some (.inl ((p+1:Nat):Int)):=by
    simp only[AO,Dr,cH,aq];refine bT (bU t1) ?_;refine bT (lH.2 ⟨bU t2,bU t1⟩) ?_;rw[Int.toNat_natCast];refine bs x1 ?_;rw[w1];refine bT (lH.2 ⟨bU t3,bU t4⟩) ?_;rw[Int.toNat_natCast];refine bs x0 ?_;simp only[Ed.mK,Ed.mL,Ed.mM,IY];rw[cJ he];refine bF rfl ?_;rw[dM];rfl
   rw[fY b9];exact ih (p+1) (by omega) (by omega) (by rw[cs,ag he,hc,←Xt fS])
theorem atY: ∃b,CC MT [.list bt (l.map Ed.enc)]=some [.bool b,.list bt ((lZ l).map Ed.enc)]:=by
 by_cases h2:l.length<2
 ·refine ⟨true,Xs ?_⟩;unfold Ph;rw[cH,aM,br]
  match l,h2 with
  | [],_=>rfl
  | [k],_=>rfl
 ·rcases atX hn (l.length-1) 1 (by omega) (by omega) (by
   match l,h2 with
   | k::l,_=>rfl) with ⟨h3,t,h4⟩|h4
  ·refine ⟨true,Xs ?_⟩;unfold Ph;rw[cH,aM,cl];refine (congrArg (fun o=>Option.bind o _) h4).trans ?_;rw[h3];rfl
  ·refine ⟨false,Xs ?_⟩;unfold Ph;rw[cH,aM,cl];refine (congrArg (fun o=>Option.bind o _) h4).trans ?_;rfl
end
def Dt (E:SE) (C:ae) (a b' i j:Int) (ak:LV) {β:Type} (kn:(Int×LV)→Option β) (kr:(Int×Bool×LV)→Option β):Option β:=
 bif decide ((j:Int)>a) then
  aq ak j fun x1=>
  aq ak (wrap .i64 (j-1)) fun x2=>
  (C E.cmp (E.ex x1++E.ex x2)).bind fun r3=>
  bif decide ((((V.nth r3 0).toInt):Int)<0) then
  aq ak (wrap .i64 (j-1)) fun x4=>
  aq ak j fun x5=>
  aq ak j fun x6=>
  aq (aI ak j (.agg (E.ex x4))) (wrap .i64 (j-1)) fun x7=>
  kn (wrap .i64 (j-1),aI (aI ak j (.agg (E.ex x4))) (wrap .i64 (j-1)) (.agg (E.ex x5)))
  else
  kr (j,decide ((((V.nth r3 0).toInt):Int)<0),ak)
 else
  kr (j,false,ak)
def Du (E:SE) (C:ae) (a b' i:Int):=un fun j ak=>Dt E C a b' i j ak (fun y=>some (Sum.inl y)) (fun r=>some (Sum.inr r))
def I5 (E:SE) (C:ae) (a b' i:Int) (ak:LV) {β:Type} (kn:(Int×LV)→Option β) (kr:(Int×Bool×LV)→Option β):Option β:=
 bif decide ((i:Int)<b') then
  (Loop (Du E C a b' i) (i,ak)).bind (un fun (j_8:Int)=>un fun (rH:Bool) (tf:LV)=>
   kn (wrap .i64 (i+1),tf))
 else
  kr (i,decide ((i:Int)<b'),ak)
def Pj (E:SE) (C:ae) (a b':Int):=un fun i ak=>I5 E C a b' i ak (fun y=>some (Sum.inl y)) (fun r=>some (Sum.inr r))
def Xu (E:SE) (C:ae) (a b':Int) (ak:LV):Option LV:=
 (Loop (Pj E C a b') (wrap .i64 (a+1),ak)).bind (un fun (azt:Int)=>un fun (xW:Bool) (Xv:LV)=>
  some [.list E.T Xv])
def AP (E:SE) (C:ae) (hi first root child:Int) (t40:Bool) (ak:LV) {β:Type} (kr:(Int)→Option β):Option β:=
 bif t40 then
  kr (wrap .i64 (child+1))
 else
  kr child
def yh (E:SE) (C:ae) (hi first root:Int) (ak:LV) {β:Type} (kn:(Int×LV)→Option β) (kr:((Int×Int×Bool×LV) ⊕ (Int×Int×Bool×LV))→Option β):Option β:=
 bif decide (((wrap .i64 ((wrap .i64 (root*2))+1)):Int)≥hi) then
  kr (.inl (root,wrap .i64 ((wrap .i64 (root*2))+1),decide (((wrap .i64 ((wrap .i64 (root*2))+1)):Int)≥hi),ak))
 else
  bif decide (((wrap .i64 ((wrap .i64 ((wrap .i64 (root*2))+1))+1)):Int)<hi) then
  aq ak (wrap .i64 (first+(wrap .i64 ((wrap .i64 (root*2))+1)))) fun x1=>
  aq ak (wrap .i64 ((wrap .i64 (first+(wrap .i64 ((wrap .i64 (root*2))+1))))+1)) fun x2=>
  (C E.cmp (E.ex x1++E.ex x2)).bind fun r3=>
  AP E C hi first root (wrap .i64 ((wrap .i64 (root*2))+1)) (decide ((((V.nth r3 0).toInt):Int)<0)) ak (fun (Dv:Int)=>
   aq ak (wrap .i64 (first+root)) fun x5=>
   aq ak (wrap .i64 (first+Dv)) fun x6=>
   (C E.cmp (E.ex x5++E.ex x6)).bind fun r7=>
   bif !(decide ((((V.nth r7 0).toInt):Int)<0)) then
    kr (.inr (root,Dv,!(decide ((((V.nth r7 0).toInt):Int)<0)),ak))
   else
    aq ak (wrap .i64 (first+Dv)) fun x8=>
    aq ak (wrap .i64 (first+root)) fun x9=>
    aq ak (wrap .i64 (first+root)) fun lA=>
    aq (aI ak (wrap .i64 (first+root)) (.agg (E.ex x8))) (wrap .i64 (first+Dv)) fun gj=>
    kn (Dv,aI (aI ak (wrap .i64 (first+root)) (.agg (E.ex x8))) (wrap .i64 (first+Dv)) (.agg (E.ex x9))))
  else
  AP E C hi first root (wrap .i64 ((wrap .i64 (root*2))+1)) false ak (fun (Dw:Int)=>
   aq ak (wrap .i64 (first+root)) fun qG=>
   aq ak (wrap .i64 (first+Dw)) fun ko=>
   (C E.cmp (E.ex qG++E.ex ko)).bind fun fx=>
   bif !(decide ((((V.nth fx 0).toInt):Int)<0)) then
    kr (.inr (root,Dw,!(decide ((((V.nth fx 0).toInt):Int)<0)),ak))
   else
    aq ak (wrap .i64 (first+Dw)) fun uR=>
    aq ak (wrap .i64 (first+root)) fun uI=>
    aq ak (wrap .i64 (first+root)) fun pK=>
    aq (aI ak (wrap .i64 (first+root)) (.agg (E.ex uR))) (wrap .i64 (first+Dw)) fun Av=>
    kn (Dw,aI (aI ak (wrap .i64 (first+root)) (.agg (E.ex uR))) (wrap .i64 (first+Dw)) (.agg (E.ex uI))))
def th (E:SE) (C:ae) (hi first:Int):=un fun root ak=>yh E C hi first root ak (fun y=>some (Sum.inl y)) (fun r=>some (Sum.inr r))
def Xw (E:SE) (C:ae) (lo hi first:Int) (ak:LV):Option LV:=
 (Loop (th E C hi first) (lo,ak)).bind (bN (un fun (azu:Int)=>un fun (azv:Int)=>un fun (V1:Bool) (atZ:LV)=>
  some [.list E.T atZ]) (un fun (azw:Int)=>un fun (azx:Int)=>un fun (NW:Bool) (AQ:LV)=>
  some [.list E.T AQ]))
def I6 (E:SE) (C:ae) (first lo hi i:Int) (ak:LV) {β:Type} (kn:(Int×LV)→Option β) (kr:(Int×Bool×LV)→Option β):Option β:=
 bif decide ((i:Int)≥0) then
  (C (E.k 1) [V.int .i64 i,V.int .i64 hi,V.int .i64 first,.list E.T ak]).bind fun r1=>
  kn (wrap .i64 (i-1),(V.nth r1 0).toList)
 else
  kr (i,decide ((i:Int)≥0),ak)
def Pk (E:SE) (C:ae) (first lo hi:Int):=un fun i ak=>I6 E C first lo hi i ak (fun y=>some (Sum.inl y)) (fun r=>some (Sum.inr r))
def I7 (E:SE) (C:ae) (first lo i:Int) (ak:LV) {β:Type} (kn:(Int×LV)→Option β) (kr:(Int×Bool×LV)→Option β):Option β:=
 bif decide ((i:Int)≥0) then
  aq ak (wrap .i64 (first+i)) fun x5=>
  aq ak first fun x6=>
  aq ak first fun x7=>
  aq (aI ak first (.agg (E.ex x5))) (wrap .i64 (first+i)) fun x8=>
  (C (E.k 1) [V.int .i64 lo,V.int .i64 i,V.int .i64 first,.list E.T (aI (aI ak first (.agg (E.ex x5))) (wrap .i64 (first+i)) (.agg (E.ex x6)))]).bind fun r9=>
  kn (wrap .i64 (i-1),(V.nth r9 0).toList)
 else
  kr (i,decide ((i:Int)≥0),ak)
def Pl (E:SE) (C:ae) (first lo:Int):=un fun i ak=>I7 E C first lo i ak (fun y=>some (Sum.inl y)) (fun r=>some (Sum.inr r))
def Xx (E:SE) (C:ae) (a b':Int) (ak:LV):Option LV:=
 (Loop (Pk E C a 0 (wrap .i64 (b'-a))) (wrap .i64 (Int.tdiv (wrap .i64 ((wrap .i64 (b'-a))-1)) 2),ak)).bind (un fun (i_2:Int)=>un fun (lq:Bool) (at0:LV)=>
  (Loop (Pl E C a 0) (wrap .i64 ((wrap .i64 (b'-a))-1),at0)).bind (un fun (azy:Int)=>un fun (xV:Bool) (ti:LV)=>
   some [.list E.T ti]))
def Dx (E:SE) (C:ae) (i j:Int) (ak:LV) {β:Type} (kn:(Int×Int×LV)→Option β) (kr:(Int×Int×Bool×LV)→Option β):Option β:=
 bif decide ((i:Int)<j) then
  aq ak j fun x1=>
  aq ak i fun x2=>
  aq ak i fun x3=>
  aq (aI ak i (.agg (E.ex x1))) j fun x4=>
  kn (wrap .i64 (i+1),wrap .i64 (j-1),aI (aI ak i (.agg (E.ex x1))) j (.agg (E.ex x2)))
 else
  kr (i,j,decide ((i:Int)<j),ak)
def I8 (E:SE) (C:ae):=un fun i=>un fun j ak=>Dx E C i j ak (fun y=>some (Sum.inl y)) (fun r=>some (Sum.inr r))
def Xy (E:SE) (C:ae) (a b':Int) (ak:LV):Option LV:=
 (Loop (I8 E C) (a,wrap .i64 (b'-1),ak)).bind (un fun (i_5:Int)=>un fun (j_6:Int)=>un fun (kJ:Bool) (at1:LV)=>
  some [.list E.T at1])
def I9 (E:SE) (C:ae) (a j:Int) (ak:LV) (i:Int) {β:Type} (kn:Int→Option β) (kr:(Int×Bool)→Option β):Option β:=
 bif decide ((i:Int)≤j) then
  aq ak i fun x5=>
  aq ak a fun x6=>
  (C E.cmp (E.ex x5++E.ex x6)).bind fun r7=>
  bif decide ((((V.nth r7 0).toInt):Int)<0) then
  kn (wrap .i64 (i+1))
  else
  kr (i,decide ((((V.nth r7 0).toInt):Int)<0))
 else
  kr (i,false)
def Ja (E:SE) (C:ae) (a j:Int) (ak:LV):=fun i=>I9 E C a j ak i (fun y=>some (Sum.inl y)) (fun r=>some (Sum.inr r))
def Dy (E:SE) (C:ae) (a i:Int) (ak:LV) (j:Int) {β:Type} (kn:Int→Option β) (kr:(Int×Bool)→Option β):Option β:=
 bif decide ((i:Int)≤j) then
  aq ak j fun lA=>
  aq ak a fun gj=>
  (C E.cmp (E.ex lA++E.ex gj)).bind fun oX=>
  bif !(decide ((((V.nth oX 0).toInt):Int)<0)) then
  kn (wrap .i64 (j-1))
  else
  kr (j,!(decide ((((V.nth oX 0).toInt):Int)<0)))
 else
  kr (j,false)
def Dz (E:SE) (C:ae) (a i:Int) (ak:LV):=fun j=>Dy E C a i ak j (fun y=>some (Sum.inl y)) (fun r=>some (Sum.inr r))
def Jb (E:SE) (C:ae) (a j:Int) (ak:LV) (i:Int) {β:Type} (kn:Int→Option β) (kr:(Int×Bool)→Option β):Option β:=
 bif decide ((i:Int)≤j) then
  aq ak i fun CX=>
  aq ak a fun AR=>
  (C E.cmp (E.ex CX++E.ex AR)).bind fun r25=>
  bif decide ((((V.nth r25 0).toInt):Int)<0) then
  kn (wrap .i64 (i+1))
  else
  kr (i,decide ((((V.nth r25 0).toInt):Int)<0))
 else
  kr (i,false)
def Jc (E:SE) (C:ae) (a j:Int) (ak:LV):=fun i=>Jb E C a j ak i (fun y=>some (Sum.inl y)) (fun r=>some (Sum.inr r))
def DA (E:SE) (C:ae) (a i:Int) (ak:LV) (j:Int) {β:Type} (kn:Int→Option β) (kr:(Int×Bool)→Option β):Option β:=
 bif decide ((i:Int)≤j) then
  aq ak j fun Pm=>
  aq ak a fun yi=>
  (C E.cmp (E.ex Pm++E.ex yi)).bind fun Pn=>
  bif !(decide ((((V.nth Pn 0).toInt):Int)<0)) then
  kn (wrap .i64 (j-1))
  else
  kr (j,!(decide ((((V.nth Pn 0).toInt):Int)<0)))
 else
  kr (j,false)
def DB (E:SE) (C:ae) (a i:Int) (ak:LV):=fun j=>DA E C a i ak j (fun y=>some (Sum.inl y)) (fun r=>some (Sum.inr r))
def Jd (E:SE) (C:ae) (a i j:Int) (ak:LV) {β:Type} (kn:(Int×Int×LV)→Option β) (kr:(Int×Int×Bool×LV)→Option β):Option β:=
 (Loop (Jc E C a j ak) i).bind (un fun (uH:Int) (V2:Bool)=>
  (Loop (DB E C a uH ak) j).bind (un fun (AS:Int) (V5:Bool)=>
   bif decide ((uH:Int)>AS) then
    kr (uH,AS,decide ((uH:Int)>AS),ak)
   else
    aq ak AS fun tj=>
    aq ak uH fun x34=>
    aq ak uH fun DC=>
    aq (aI ak uH (.agg (E.ex tj))) AS fun DD=>
    kn (wrap .i64 (uH+1),wrap .i64 (AS-1),aI (aI ak uH (.agg (E.ex tj))) AS (.agg (E.ex x34)))))
def DE (E:SE) (C:ae) (a:Int):=un fun i=>un fun j ak=>Jd E C a i j ak (fun y=>some (Sum.inl y)) (fun r=>some (Sum.inr r))
def Xz (E:SE) (C:ae) (a b' pivot:Int) (ak:LV):Option LV:=
 aq ak pivot fun x1=>
 aq ak a fun x2=>
 aq ak a fun x3=>
 aq (aI ak a (.agg (E.ex x1))) pivot fun x4=>
 (Loop (Ja E C a (wrap .i64 (b'-1)) (aI (aI ak a (.agg (E.ex x1))) pivot (.agg (E.ex x2)))) (wrap .i64 (a+1))).bind (un fun (nz:Int) (rH:Bool)=>
  (Loop (Dz E C a nz (aI (aI ak a (.agg (E.ex x1))) pivot (.agg (E.ex x2)))) (wrap .i64 (b'-1))).bind (un fun (mN:Int) (Am:Bool)=>
   bif decide ((nz:Int)>mN) then
    aq (aI (aI ak a (.agg (E.ex x1))) pivot (.agg (E.ex x2))) a fun wD=>
    aq (aI (aI ak a (.agg (E.ex x1))) pivot (.agg (E.ex x2))) mN fun uR=>
    aq (aI (aI ak a (.agg (E.ex x1))) pivot (.agg (E.ex x2))) mN fun uI=>
    aq (aI (aI (aI ak a (.agg (E.ex x1))) pivot (.agg (E.ex x2))) mN (.agg (E.ex wD))) a fun pK=>
    some [V.int .i64 mN,.bool true,.list E.T (aI (aI (aI (aI ak a (.agg (E.ex x1))) pivot (.agg (E.ex x2))) mN (.agg (E.ex wD))) a (.agg (E.ex uR)))]
   else
    aq (aI (aI ak a (.agg (E.ex x1))) pivot (.agg (E.ex x2))) mN fun Av=>
    aq (aI (aI ak a (.agg (E.ex x1))) pivot (.agg (E.ex x2))) nz fun C6=>
    aq (aI (aI ak a (.agg (E.ex x1))) pivot (.agg (E.ex x2))) nz fun ta=>
    aq (aI (aI (aI ak a (.agg (E.ex x1))) pivot (.agg (E.ex x2))) nz (.agg (E.ex Av))) mN fun HL=>
    (Loop (DE E C a) (wrap .i64 (nz+1),wrap .i64 (mN-1),aI (aI (aI (aI ak a (.agg (E.ex x1))) pivot (.agg (E.ex x2))) nz (.agg (E.ex Av))) mN (.agg (E.ex C6)))).bind (un fun (azz:Int)=>un fun (Je:Int)=>un fun (azA:Bool) (tk:LV)=>
     aq tk a fun Po=>
     aq tk Je fun XA=>
     aq tk Je fun x43=>
     aq (aI tk Je (.agg (E.ex Po))) a fun x44=>
     some [V.int .i64 Je,.bool false,.list E.T (aI (aI tk Je (.agg (E.ex Po))) a (.agg (E.ex XA)))])))
def Jf (E:SE) (C:ae) (a j:Int) (ak:LV) (i:Int) {β:Type} (kn:Int→Option β) (kr:(Int×Bool)→Option β):Option β:=
 bif decide ((i:Int)≤j) then
  aq ak a fun x5=>
  aq ak i fun x6=>
  (C E.cmp (E.ex x5++E.ex x6)).bind fun r7=>
  bif !(decide ((((V.nth r7 0).toInt):Int)<0)) then
  kn (wrap .i64 (i+1))
  else
  kr (i,!(decide ((((V.nth r7 0).toInt):Int)<0)))
 else
  kr (i,false)
def Jg (E:SE) (C:ae) (a j:Int) (ak:LV):=fun i=>Jf E C a j ak i (fun y=>some (Sum.inl y)) (fun r=>some (Sum.inr r))
def DF (E:SE) (C:ae) (a i:Int) (ak:LV) (j:Int) {β:Type} (kn:Int→Option β) (kr:(Int×Bool)→Option β):Option β:=
 bif decide ((i:Int)≤j) then
  aq ak a fun lA=>
  aq ak j fun gj=>
  (C E.cmp (E.ex lA++E.ex gj)).bind fun oX=>
  bif decide ((((V.nth oX 0).toInt):Int)<0) then
  kn (wrap .i64 (j-1))
  else
  kr (j,decide ((((V.nth oX 0).toInt):Int)<0))
 else
  kr (j,false)
def DG (E:SE) (C:ae) (a i:Int) (ak:LV):=fun j=>DF E C a i ak j (fun y=>some (Sum.inl y)) (fun r=>some (Sum.inr r))
def Jh (E:SE) (C:ae) (a i j:Int) (ak:LV) {β:Type} (kn:(Int×Int×LV)→Option β) (kr:(Int×Int×Bool×LV)→Option β):Option β:=
 (Loop (Jg E C a j ak) i).bind (un fun (nz:Int) (rH:Bool)=>
  (Loop (DG E C a nz ak) j).bind (un fun (mN:Int) (Am:Bool)=>
   bif decide ((nz:Int)>mN) then
    kr (nz,mN,decide ((nz:Int)>mN),ak)
   else
    aq ak mN fun wD=>
    aq ak nz fun uR=>
    aq ak nz fun uI=>
    aq (aI ak nz (.agg (E.ex wD))) mN fun pK=>
    kn (wrap .i64 (nz+1),wrap .i64 (mN-1),aI (aI ak nz (.agg (E.ex wD))) mN (.agg (E.ex uR)))))
def DH (E:SE) (C:ae) (a:Int):=un fun i=>un fun j ak=>Jh E C a i j ak (fun y=>some (Sum.inl y)) (fun r=>some (Sum.inr r))
def XB (E:SE) (C:ae) (a b' pivot:Int) (ak:LV):Option LV:=
 aq ak pivot fun x1=>
 aq ak a fun x2=>
 aq ak a fun x3=>
 aq (aI ak a (.agg (E.ex x1))) pivot fun x4=>
 (Loop (DH E C a) (wrap .i64 (a+1),wrap .i64 (b'-1),aI (aI ak a (.agg (E.ex x1))) pivot (.agg (E.ex x2)))).bind (un fun (at2:Int)=>un fun (azB:Int)=>un fun (NT:Bool) (at3:LV)=>
  some [V.int .i64 at2,.list E.T at3])
def Ji (E:SE) (C:ae) (a b' j:Int) (ak:LV) (i:Int) {β:Type} (kn:Int→Option β) (kr:(Int×Bool)→Option β):Option β:=
 bif decide ((i:Int)<b') then
  aq ak i fun x1=>
  aq ak (wrap .i64 (i-1)) fun x2=>
  (C E.cmp (E.ex x1++E.ex x2)).bind fun r3=>
  bif !(decide ((((V.nth r3 0).toInt):Int)<0)) then
  kn (wrap .i64 (i+1))
  else
  kr (i,!(decide ((((V.nth r3 0).toInt):Int)<0)))
 else
  kr (i,false)
def Jj (E:SE) (C:ae) (a b' j:Int) (ak:LV):=fun i=>Ji E C a b' j ak i (fun y=>some (Sum.inl y)) (fun r=>some (Sum.inr r))
def Jk (E:SE) (C:ae) (a b' i j j':Int) (ak:LV) {β:Type} (kn:(Int×LV)→Option β) (kr:(Int×LV)→Option β):Option β:=
 bif decide ((j':Int)≥1) then
  aq ak j' fun lA=>
  aq ak (wrap .i64 (j'-1)) fun gj=>
  (C E.cmp (E.ex lA++E.ex gj)).bind fun oX=>
  bif !(decide ((((V.nth oX 0).toInt):Int)<0)) then
  kr (j',ak)
  else
  aq ak (wrap .i64 (j'-1)) fun qG=>
  aq ak j' fun ko=>
  aq ak j' fun wD=>
  aq (aI ak j' (.agg (E.ex qG))) (wrap .i64 (j'-1)) fun uR=>
  kn (wrap .i64 (j'-1),aI (aI ak j' (.agg (E.ex qG))) (wrap .i64 (j'-1)) (.agg (E.ex ko)))
 else
  kr (j',ak)
def Jl (E:SE) (C:ae) (a b' i j:Int):=un fun j' ak=>Jk E C a b' i j j' ak (fun y=>some (Sum.inl y)) (fun r=>some (Sum.inr r))
def Pp (E:SE) (C:ae) (a b' i j:Int) (t65:Bool) (ak:LV) {β:Type} (kr:LV→Option β):Option β:=
 bif t65 then
  (Loop (Jl E C a b' i j) (wrap .i64 (i-1),ak)).bind (un fun (azC:Int) (at4:LV)=>
   kr at4)
 else
  kr ak
def Jm (E:SE) (C:ae) (a b' i j j':Int) (ak:LV) {β:Type} (kn:(Int×LV)→Option β) (kr:(Int×LV)→Option β):Option β:=
 bif decide ((j':Int)<b') then
  aq ak j' fun C6=>
  aq ak (wrap .i64 (j'-1)) fun ta=>
  (C E.cmp (E.ex C6++E.ex ta)).bind fun ov=>
  bif !(decide ((((V.nth ov 0).toInt):Int)<0)) then
  kr (j',ak)
  else
  aq ak (wrap .i64 (j'-1)) fun CX=>
  aq ak j' fun AR=>
  aq ak j' fun Ip=>
  aq (aI ak j' (.agg (E.ex CX))) (wrap .i64 (j'-1)) fun O2=>
  kn (wrap .i64 (j'+1),aI (aI ak j' (.agg (E.ex CX))) (wrap .i64 (j'-1)) (.agg (E.ex AR)))
 else
  kr (j',ak)
def Jn (E:SE) (C:ae) (a b' i j:Int):=un fun j' ak=>Jm E C a b' i j j' ak (fun y=>some (Sum.inl y)) (fun r=>some (Sum.inr r))
def Jo (E:SE) (C:ae) (a b' i j:Int) (ak:LV) {β:Type} (kn:(Int×Int×LV)→Option β) (kr:((Bool×LV) ⊕ (Int×Int×Bool×LV))→Option β):Option β:=
 bif decide ((j:Int)<5) then
  (Loop (Jj E C a b' j ak) i).bind (un fun (nA:Int) (od:Bool)=>
   bif (nA:Int)==b' then
   kr (.inl (true,ak))
   else
   bif decide (((wrap .i64 (b'-a)):Int)<50) then
    kr (.inl (false,ak))
   else
    aq ak (wrap .i64 (nA-1)) fun x6=>
    aq ak nA fun x7=>
    aq ak nA fun x8=>
    aq (aI ak nA (.agg (E.ex x6))) (wrap .i64 (nA-1)) fun x9=>
    Pp E C a b' nA j (decide (((wrap .i64 (nA-a)):Int)≥2)) (aI (aI ak nA (.agg (E.ex x6))) (wrap .i64 (nA-1)) (.agg (E.ex x7))) (fun (ahf:LV)=>
     bif decide (((wrap .i64 (b'-nA)):Int)≥2) then
     (Loop (Jn E C a b' nA j) (wrap .i64 (nA+1),ahf)).bind (un fun (azD:Int) (at5:LV)=>
      kn (nA,wrap .i64 (j+1),at5))
     else
     kn (nA,wrap .i64 (j+1),ahf)))
 else
  kr (.inr (i,j,decide ((j:Int)<5),ak))
def yj (E:SE) (C:ae) (a b':Int):=un fun i=>un fun j ak=>Jo E C a b' i j ak (fun y=>some (Sum.inl y)) (fun r=>some (Sum.inr r))
def XC (E:SE) (C:ae) (a b':Int) (ak:LV):Option LV:=
 (Loop (yj E C a b') (wrap .i64 (a+1),0,ak)).bind (bN (un fun (V4:Bool) (at6:LV)=>
  some [.bool V4,.list E.T at6]) (un fun (at7:Int)=>un fun (azE:Int)=>un fun (aeU:Bool) (aua:LV)=>
  some [.bool false,.list E.T aua]))
def Pq (E:SE) (C:ae) (a length DI rS other:Int) (t45:Bool) (ak:LV) (Jp:Int) {β:Type} (kr:(Int)→Option β):Option β:=
 bif t45 then
  kr (wrap .i64 (other-length))
 else
  kr other
def Jq (E:SE) (C:ae) (a length DI rS:Int) (ak:LV) (Jp:Int) {β:Type} (kn:(Int×LV×Int)→Option β) (kr:(Int×Bool×LV×Int)→Option β):Option β:=
 bif decide ((rS:Int)≤(wrap .i64 ((wrap .i64 (a+(wrap .i64 (2*(wrap .i64 (Int.tdiv length 4))))))+1))) then
  (C M4 [.int .u64 Jp]).bind fun r2=>
  Pq E C a length DI rS (wrap .i64 (wrap .u64 ((BitVec.ofInt (IntKind.bits .u64) ((V.nth r2 0).toInt)&&&BitVec.ofInt (IntKind.bits .u64) (wrap .u64 (DI-1))).toNat))) (decide (((wrap .i64 (wrap .u64 ((BitVec.ofInt (IntKind.bits .u64) ((V.nth r2 0).toInt)&&&BitVec.ofInt (IntKind.bits .u64) (wrap .u64 (DI-1))).toNat))):Int)≥length)) ak ((V.nth (r2.drop 1) 0).toInt) (fun (XD:Int)=>
   aq ak (wrap .i64 (a+XD)) fun x4=>
   aq ak rS fun x5=>
   aq ak rS fun x6=>
   aq (aI ak rS (.agg (E.ex x4))) (wrap .i64 (a+XD)) fun x7=>
   kn (wrap .i64 (rS+1),aI (aI ak rS (.agg (E.ex x4))) (wrap .i64 (a+XD)) (.agg (E.ex x5)),(V.nth (r2.drop 1) 0).toInt))
 else
  kr (rS,decide ((rS:Int)≤(wrap .i64 ((wrap .i64 (a+(wrap .i64 (2*(wrap .i64 (Int.tdiv length 4))))))+1))),ak,Jp)
def Pr (E:SE) (C:ae) (a length DI:Int):=un fun rS=>un fun ak Jp=>Jq E C a length DI rS ak Jp (fun y=>some (Sum.inl y)) (fun r=>some (Sum.inr r))
def XE (E:SE) (C:ae) (a b':Int) (ak:LV):Option LV:=
 bif decide (((wrap .i64 (b'-a)):Int)≥8) then
  (C M3 [V.int .i64 (wrap .i64 (b'-a))]).bind fun r1=>
  (Loop (Pr E C a (wrap .i64 (b'-a)) ((V.nth r1 0).toInt)) (wrap .i64 ((wrap .i64 (a+(wrap .i64 (2*(wrap .i64 (Int.tdiv (wrap .i64 (b'-a)) 4))))))-1),ak,wrap .u64 (wrap .i64 (b'-a)))).bind (un fun (azF:Int)=>un fun (rH:Bool)=>un fun (tf:LV) (azG:Int)=>
   some [.list E.T tf])
 else
  some [.list E.T ak]
def XF (E:SE) (C:ae) (data:LV) (a b' c gN:Int):Option LV:=
 (C (E.k 10) [.list E.T data,V.int .i64 a,V.int .i64 b',V.int .i64 gN]).bind fun r1=>
 (C (E.k 10) [.list E.T data,V.int .i64 ((V.nth (r1.drop 1) 0).toInt),V.int .i64 c,V.int .i64 ((V.nth (r1.drop 2) 0).toInt)]).bind fun r2=>
 (C (E.k 10) [.list E.T data,V.int .i64 ((V.nth r1 0).toInt),V.int .i64 ((V.nth r2 0).toInt),V.int .i64 ((V.nth (r2.drop 2) 0).toInt)]).bind fun r3=>
 some [V.int .i64 ((V.nth (r3.drop 1) 0).toInt),V.int .i64 ((V.nth (r3.drop 2) 0).toInt)]
def XG (E:SE) (C:ae) (data:LV) (a gN:Int):Option LV:=
 (C (E.k 8) [.list E.T data,V.int .i64 (wrap .i64 (a-1)),V.int .i64 a,V.int .i64 (wrap .i64 (a+1)),V.int .i64 gN]).bind fun r1=>
 some [V.int .i64 ((V.nth r1 0).toInt),V.int .i64 ((V.nth (r1.drop 1) 0).toInt)]
def Ps (E:SE) (C:ae) (data:LV) (a b' gN:Int):Option LV:=
 (idx data b').bind fun x1=>
 (idx data a).bind fun x2=>
 (C E.cmp (E.ex x1++E.ex x2)).bind fun r3=>
 bif decide ((((V.nth r3 0).toInt):Int)<0) then
  some [V.int .i64 b',V.int .i64 a,V.int .i64 (wrap .i64 (gN+1))]
 else
  some [V.int .i64 a,V.int .i64 b',V.int .i64 gN]
def Jr (E:SE) (C:ae) (data:LV) (i j k':Int) (t36:Bool) (gN:Int) {β:Type} (kr:(Int×Int×Int×Int)→Option β):Option β:=
 bif t36 then
  (C (E.k 9) [.list E.T data,V.int .i64 i,V.int .i64 gN]).bind fun r1=>
  (C (E.k 9) [.list E.T data,V.int .i64 j,V.int .i64 ((V.nth (r1.drop 1) 0).toInt)]).bind fun r2=>
  (C (E.k 9) [.list E.T data,V.int .i64 k',V.int .i64 ((V.nth (r2.drop 1) 0).toInt)]).bind fun r3=>
  kr ((V.nth r1 0).toInt,(V.nth r2 0).toInt,(V.nth r3 0).toInt,(V.nth (r3.drop 1) 0).toInt)
 else
  kr (i,j,k',gN)
def Js (E:SE) (C:ae) (data:LV) (l i j k':Int) (t34:Bool) (gN:Int) {β:Type} (kr:(Int×Int)→Option β):Option β:=
 bif t34 then
  Jr E C data i j k' (decide ((l:Int)≥50)) gN (un fun (nA:Int)=>un fun (j_5:Int)=>un fun (k_6:Int) (aub:Int)=>
   (C (E.k 8) [.list E.T data,V.int .i64 nA,V.int .i64 j_5,V.int .i64 k_6,V.int .i64 aub]).bind fun r8=>
   kr ((V.nth r8 0).toInt,(V.nth (r8.drop 1) 0).toInt))
 else
  kr (j,gN)
def Pt (E:SE) (C:ae) (data:LV) (a b':Int):Option LV:=
 Js E C data (wrap .i64 (b'-a)) (wrap .i64 (a+(wrap .i64 (1*(wrap .i64 (Int.tdiv (wrap .i64 (b'-a)) 4)))))) (wrap .i64 (a+(wrap .i64 (2*(wrap .i64 (Int.tdiv (wrap .i64 (b'-a)) 4)))))) (wrap .i64 (a+(wrap .i64 (3*(wrap .i64 (Int.tdiv (wrap .i64 (b'-a)) 4)))))) (decide (((wrap .i64 (b'-a)):Int)≥8)) 0 (un fun (XH:Int) (ahg:Int)=>
  bif (ahg:Int)==0 then
   some [V.int .i64 XH,V.int .i64 1]
  else
   bif (ahg:Int)==12 then
   some [V.int .i64 XH,V.int .i64 2]
   else
   some [V.int .i64 XH,V.int .i64 0])
def DJ (E:SE) (C:ae) (a b' kL:Int) (ib iG:Bool) (length:Int) (t39:Bool) (ak:LV) {β:Type} (kr:(Int×LV)→Option β):Option β:=
 bif t39 then
  (C (E.k 7) [V.int .i64 a,V.int .i64 b',.list E.T ak]).bind fun r3=>
  kr (wrap .i64 (kL-1),(V.nth r3 0).toList)
 else
  kr (kL,ak)
def DK (E:SE) (C:ae) (a b' kL:Int) (ib iG:Bool) (length pivot hint:Int) (t56:Bool) (ak:LV) {β:Type} (kr:(Int×Int×LV)→Option β):Option β:=
 bif t56 then
  (C (E.k 3) [V.int .i64 a,V.int .i64 b',.list E.T ak]).bind fun r7=>
  kr (wrap .i64 ((wrap .i64 (b'-1))-(wrap .i64 (pivot-a))),1,(V.nth r7 0).toList)
 else
  kr (pivot,hint,ak)
def qJ (E:SE) (C:ae) (a b' kL:Int) (ib iG:Bool) (length pivot:Int) (t75:Bool) (ak:LV) {β:Type} (kr:((Bool×LV) ⊕ LV)→Option β):Option β:=
 bif t75 then
  (C (E.k 6) [V.int .i64 a,V.int .i64 b',.list E.T ak]).bind fun Pu=>
  bif (V.nth Pu 0).toBool then
  kr (.inl ((V.nth Pu 0).toBool,(V.nth (Pu.drop 1) 0).toList))
  else
  kr (.inr ((V.nth (Pu.drop 1) 0).toList))
 else
  kr (.inr ak)
def uS (E:SE) (C:ae) (a b' kL:Int) (ib iG:Bool) (ak:LV) {β:Type} (kn:(Int×Int×Int×Bool×Bool×LV)→Option β) (kr:LV→Option β):Option β:=
 bif decide (((wrap .i64 (b'-a)):Int)≤12) then
  (C (E.k 0) [V.int .i64 a,V.int .i64 b',.list E.T ak]).bind fun r1=>
  kr ((V.nth r1 0).toList)
 else
  bif (kL:Int)==0 then
  (C (E.k 2) [V.int .i64 a,V.int .i64 b',.list E.T ak]).bind fun r2=>
  kr ((V.nth r2 0).toList)
  else
  DJ E C a b' kL ib iG (wrap .i64 (b'-a)) (!ib) ak (un fun (dW:Int) (Jt:LV)=>
   (C (E.k 11) [.list E.T Jt,V.int .i64 a,V.int .i64 b']).bind fun r6=>
   DK E C a b' dW ib iG (wrap .i64 (b'-a)) ((V.nth r6 0).toInt) ((V.nth (r6.drop 1) 0).toInt) ((((V.nth (r6.drop 1) 0).toInt):Int)==2) Jt (un fun (iH:Int)=>un fun (XI:Int) (tf:LV)=>
    bif ib then
     bif iG then
     qJ E C a b' dW ib iG (wrap .i64 (b'-a)) iH ((XI:Int)==1) tf (bN (un fun (xW:Bool) (Xv:LV)=>
      kr Xv) (fun (Ju:LV)=>
      bif decide ((a:Int)>0) then
       aq Ju (wrap .i64 (a-1)) fun wD=>
       aq Ju iH fun uR=>
       (C E.cmp (E.ex wD++E.ex uR)).bind fun hG=>
       bif !(decide ((((V.nth hG 0).toInt):Int)<0)) then
       (C (E.k 5) [V.int .i64 a,V.int .i64 b',V.int .i64 iH,.list E.T Ju]).bind fun DL=>
       kn ((V.nth DL 0).toInt,b',dW,ib,iG,(V.nth (DL.drop 1) 0).toList)
       else
       (C (E.k 4) [V.int .i64 a,V.int .i64 b',V.int .i64 iH,.list E.T Ju]).bind fun gL=>
       bif decide (((wrap .i64 (((V.nth gL 0).toInt)-a)):Int)<(wrap .i64 (b'-((V.nth gL 0).toInt)))) then
        (C (E.k 12) [V.int .i64 a,V.int .i64 ((V.nth gL 0).toInt),V.int .i64 dW,.list E.T ((V.nth (gL.drop 2) 0).toList)]).bind fun p7=>
        kn (wrap .i64 (((V.nth gL 0).toInt)+1),b',dW,decide (((wrap .i64 (((V.nth gL 0).toInt)-a)):Int)≥(wrap .i64 (Int.tdiv (wrap .i64 (b'-a)) 8))),(V.nth (gL.drop 1) 0).toBool,(V.nth p7 0).toList)
       else
        (C (E.k 12) [V.int .i64 (wrap .i64 (((V.nth gL 0).toInt)+1)),V.int .i64 b',V.int .i64 dW,.list E.T ((V.nth (gL.drop 2) 0).toList)]).bind fun wE=>
        kn (a,(V.nth gL 0).toInt,dW,decide (((wrap .i64 (b'-((V.nth gL 0).toInt))):Int)≥(wrap .i64 (Int.tdiv (wrap .i64 (b'-a)) 8))),(V.nth (gL.drop 1) 0).toBool,(V.nth wE 0).toList)
      else
       (C (E.k 4) [V.int .i64 a,V.int .i64 b',V.int .i64 iH,.list E.T Ju]).bind fun ov=>
       bif decide (((wrap .i64 (((V.nth ov 0).toInt)-a)):Int)<(wrap .i64 (b'-((V.nth ov 0).toInt)))) then
       (C (E.k 12) [V.int .i64 a,V.int .i64 ((V.nth ov 0).toInt),V.int .i64 dW,.list E.T ((V.nth (ov.drop 2) 0).toList)]).bind fun r23=>
       kn (wrap .i64 (((V.nth ov 0).toInt)+1),b',dW,decide (((wrap .i64 (((V.nth ov 0).toInt)-a)):Int)≥(wrap .i64 (Int.tdiv (wrap .i64 (b'-a)) 8))),(V.nth (ov.drop 1) 0).toBool,(V.nth r23 0).toList)
       else
       (C (E.k 12) [V.int .i64 (wrap .i64 (((V.nth ov 0).toInt)+1)),V.int .i64 b',V.int .i64 dW,.list E.T ((V.nth (ov.drop 2) 0).toList)]).bind fun r24=>
       kn (a,(V.nth ov 0).toInt,dW,decide (((wrap .i64 (b'-((V.nth ov 0).toInt))):Int)≥(wrap .i64 (Int.tdiv (wrap .i64 (b'-a)) 8))),(V.nth (ov.drop 1) 0).toBool,(V.nth r24 0).toList)))
     else
     qJ E C a b' dW ib iG (wrap .i64 (b'-a)) iH false tf (bN (un fun (Hi:Bool) (auc:LV)=>
      kr auc) (fun (AQ:LV)=>
      bif decide ((a:Int)>0) then
       aq AQ (wrap .i64 (a-1)) fun Pm=>
       aq AQ iH fun yi=>
       (C E.cmp (E.ex Pm++E.ex yi)).bind fun Pn=>
       bif !(decide ((((V.nth Pn 0).toInt):Int)<0)) then
       (C (E.k 5) [V.int .i64 a,V.int .i64 b',V.int .i64 iH,.list E.T AQ]).bind fun yk=>
       kn ((V.nth yk 0).toInt,b',dW,ib,iG,(V.nth (yk.drop 1) 0).toList)
       else
       (C (E.k 4) [V.int .i64 a,V.int .i64 b',V.int .i64 iH,.list E.T AQ]).bind fun rT=>
       bif decide (((wrap .i64 (((V.nth rT 0).toInt)-a)):Int)<(wrap .i64 (b'-((V.nth rT 0).toInt)))) then
        (C (E.k 12) [V.int .i64 a,V.int .i64 ((V.nth rT 0).toInt),V.int .i64 dW,.list E.T ((V.nth (rT.drop 2) 0).toList)]).bind fun r33=>
        kn (wrap .i64 (((V.nth rT 0).toInt)+1),b',dW,decide (((wrap .i64 (((V.nth rT 0).toInt)-a)):Int)≥(wrap .i64 (Int.tdiv (wrap .i64 (b'-a)) 8))),(V.nth (rT.drop 1) 0).toBool,(V.nth r33 0).toList)
       else
        (C (E.k 12) [V.int .i64 (wrap .i64 (((V.nth rT 0).toInt)+1)),V.int .i64 b',V.int .i64 dW,.list E.T ((V.nth (rT.drop 2) 0).toList)]).bind fun AT=>
        kn (a,(V.nth rT 0).toInt,dW,decide (((wrap .i64 (b'-((V.nth rT 0).toInt))):Int)≥(wrap .i64 (Int.tdiv (wrap .i64 (b'-a)) 8))),(V.nth (rT.drop 1) 0).toBool,(V.nth AT 0).toList)
      else
       (C (E.k 4) [V.int .i64 a,V.int .i64 b',V.int .i64 iH,.list E.T AQ]).bind fun rU=>
       bif decide (((wrap .i64 (((V.nth rU 0).toInt)-a)):Int)<(wrap .i64 (b'-((V.nth rU 0).toInt)))) then
       (C (E.k 12) [V.int .i64 a,V.int .i64 ((V.nth rU 0).toInt),V.int .i64 dW,.list E.T ((V.nth (rU.drop 2) 0).toList)]).bind fun r36=>
       kn (wrap .i64 (((V.nth rU 0).toInt)+1),b',dW,decide (((wrap .i64 (((V.nth rU 0).toInt)-a)):Int)≥(wrap .i64 (Int.tdiv (wrap .i64 (b'-a)) 8))),(V.nth (rU.drop 1) 0).toBool,(V.nth r36 0).toList)
       else
       (C (E.k 12) [V.int .i64 (wrap .i64 (((V.nth rU 0).toInt)+1)),V.int .i64 b',V.int .i64 dW,.list E.T ((V.nth (rU.drop 2) 0).toList)]).bind fun AU=>
       kn (a,(V.nth rU 0).toInt,dW,decide (((wrap .i64 (b'-((V.nth rU 0).toInt))):Int)≥(wrap .i64 (Int.tdiv (wrap .i64 (b'-a)) 8))),(V.nth (rU.drop 1) 0).toBool,(V.nth AU 0).toList)))
    else
     qJ E C a b' dW ib iG (wrap .i64 (b'-a)) iH false tf (bN (un fun (azH:Bool) (aud:LV)=>
      kr aud) (fun (tk:LV)=>
      bif decide ((a:Int)>0) then
      aq tk (wrap .i64 (a-1)) fun Po=>
      aq tk iH fun XA=>
      (C E.cmp (E.ex Po++E.ex XA)).bind fun r43=>
      bif !(decide ((((V.nth r43 0).toInt):Int)<0)) then
       (C (E.k 5) [V.int .i64 a,V.int .i64 b',V.int .i64 iH,.list E.T tk]).bind fun r44=>
       kn ((V.nth r44 0).toInt,b',dW,ib,iG,(V.nth (r44.drop 1) 0).toList)
      else
       (C (E.k 4) [V.int .i64 a,V.int .i64 b',V.int .i64 iH,.list E.T tk]).bind fun kM=>
       bif decide (((wrap .i64 (((V.nth kM 0).toInt)-a)):Int)<(wrap .i64 (b'-((V.nth kM 0).toInt)))) then
       (C (E.k 12) [V.int .i64 a,V.int .i64 ((V.nth kM 0).toInt),V.int .i64 dW,.list E.T ((V.nth (kM.drop 2) 0).toList)]).bind fun r46=>
       kn (wrap .i64 (((V.nth kM 0).toInt)+1),b',dW,decide (((wrap .i64 (((V.nth kM 0).toInt)-a)):Int)≥(wrap .i64 (Int.tdiv (wrap .i64 (b'-a)) 8))),(V.nth (kM.drop 1) 0).toBool,(V.nth r46 0).toList)
       else
       (C (E.k 12) [V.int .i64 (wrap .i64 (((V.nth kM 0).toInt)+1)),V.int .i64 b',V.int .i64 dW,.list E.T ((V.nth (kM.drop 2) 0).toList)]).bind fun r47=>
       kn (a,(V.nth kM 0).toInt,dW,decide (((wrap .i64 (b'-((V.nth kM 0).toInt))):Int)≥(wrap .i64 (Int.tdiv (wrap .i64 (b'-a)) 8))),(V.nth (kM.drop 1) 0).toBool,(V.nth r47 0).toList)
      else
      (C (E.k 4) [V.int .i64 a,V.int .i64 b',V.int .i64 iH,.list E.T tk]).bind fun rV=>
      bif decide (((wrap .i64 (((V.nth rV 0).toInt)-a)):Int)<(wrap .i64 (b'-((V.nth rV 0).toInt)))) then
       (C (E.k 12) [V.int .i64 a,V.int .i64 ((V.nth rV 0).toInt),V.int .i64 dW,.list E.T ((V.nth (rV.drop 2) 0).toList)]).bind fun r49=>
       kn (wrap .i64 (((V.nth rV 0).toInt)+1),b',dW,decide (((wrap .i64 (((V.nth rV 0).toInt)-a)):Int)≥(wrap .i64 (Int.tdiv (wrap .i64 (b'-a)) 8))),(V.nth (rV.drop 1) 0).toBool,(V.nth r49 0).toList)
      else
       (C (E.k 12) [V.int .i64 (wrap .i64 (((V.nth rV 0).toInt)+1)),V.int .i64 b',V.int .i64 dW,.list E.T ((V.nth (rV.drop 2) 0).toList)]).bind fun r50=>
       kn (a,(V.nth rV 0).toInt,dW,decide (((wrap .i64 (b'-((V.nth rV 0).toInt))):Int)≥(wrap .i64 (Int.tdiv (wrap .i64 (b'-a)) 8))),(V.nth (rV.drop 1) 0).toBool,(V.nth r50 0).toList)))))
def ahh (E:SE) (C:ae):=un fun a=>un fun b'=>un fun kL=>un fun ib=>un fun iG ak=>uS E C a b' kL ib iG ak (fun y=>some (Sum.inl y)) (fun r=>some (Sum.inr r))
def XJ (E:SE) (C:ae) (a b' kL:Int) (ak:LV):Option LV:=
 (Loop (ahh E C) (a,b',kL,true,true,ak)).bind (fun (aue:LV)=>
  some [.list E.T aue])
def XK (E:SE) (C:ae) (xs:LV):Option LV:=
 (C Gv [.int .u64 (wrap .u64 (xs.length:Int))]).bind fun r1=>
 (C (E.k 12) [V.int .i64 0,V.int .i64 (xs.length:Int),V.int .i64 ((V.nth r1 0).toInt),.list E.T xs]).bind fun r2=>
 some [.list E.T ((V.nth r2 0).toList)]
end Go.AM
set_option maxRecDepth 100000
namespace Go.AM
open Go.IntKind (wrap)
open Go.Proofs Go.Sort
class au (α:Type) where
 E:SE
 enc:α→V
 cmp:α→α→Int
 re: ∀x,V.agg (E.ex (enc x))=enc x
 cs: ∀a b,CC E.cmp (E.ex (enc a)++E.ex (enc b))=some [.int .i64 (cmp a b)]
 swo:SWO (fun a b=>decide (cmp a b<0))
 ahi: ∀{a b':Int} {ak:LV} {r:Option LV},Xu E CC a b' ak=r→CC (E.k 0) [.int .i64 a,.int .i64 b',.list E.T ak]=r
 ahj: ∀{lo hi first:Int} {ak:LV} {r:Option LV},Xw E CC lo hi first ak=r→CC (E.k 1) [.int .i64 lo,.int .i64 hi,.int .i64 first,.list E.T ak]=r
 ahk: ∀{a b':Int} {ak:LV} {r:Option LV},Xx E CC a b' ak=r→CC (E.k 2) [.int .i64 a,.int .i64 b',.list E.T ak]=r
 ahl: ∀{a b':Int} {ak:LV} {r:Option LV},Xy E CC a b' ak=r→CC (E.k 3) [.int .i64 a,.int .i64 b',.list E.T ak]=r
 ahm: ∀{a b' pivot:Int} {ak:LV} {r:Option LV},Xz E CC a b' pivot ak=r→CC (E.k 4) [.int .i64 a,.int .i64 b',.int .i64 pivot,.list E.T ak]=r
 ahn: ∀{a b' pivot:Int} {ak:LV} {r:Option LV},XB E CC a b' pivot ak=r→CC (E.k 5) [.int .i64 a,.int .i64 b',.int .i64 pivot,.list E.T ak]=r
 aho: ∀{a b':Int} {ak:LV} {r:Option LV},XC E CC a b' ak=r→CC (E.k 6) [.int .i64 a,.int .i64 b',.list E.T ak]=r
 ahp: ∀{a b':Int} {ak:LV} {r:Option LV},XE E CC a b' ak=r→CC (E.k 7) [.int .i64 a,.int .i64 b',.list E.T ak]=r
 ahq: ∀{data:LV} {a b' c gN:Int} {r:Option LV},XF E CC data a b' c gN=r→CC (E.k 8) [.list E.T data,.int .i64 a,.int .i64 b',.int .i64 c,.int .i64 gN]=r
 ahr: ∀{data:LV} {a gN:Int} {r:Option LV},XG E CC data a gN=r→CC (E.k 9) [.list E.T data,.int .i64 a,.int .i64 gN]=r
 XL: ∀{data:LV} {a b' gN:Int} {r:Option LV},Ps E CC data a b' gN=r→CC (E.k 10) [.list E.T data,.int .i64 a,.int .i64 b',.int .i64 gN]=r
 XM: ∀{data:LV} {a b':Int} {r:Option LV},Pt E CC data a b'=r→CC (E.k 11) [.list E.T data,.int .i64 a,.int .i64 b']=r
 ahs: ∀{a b' kL:Int} {ak:LV} {r:Option LV},XJ E CC a b' kL ak=r→CC (E.k 12) [.int .i64 a,.int .i64 b',.int .i64 kL,.list E.T ak]=r
 aht: ∀{xs:LV} {r:Option LV},XK E CC xs=r→CC (E.k 13) [.list E.T xs]=r
end Go.AM
set_option maxRecDepth 100000
set_option maxHeartbeats 4000000
namespace Go.AM
open Go.IntKind (wrap)
open Go.Proofs Go.Sort
variable {α:Type} [au α]
def aE (a b:α):Bool:=decide (au.cmp a b<0)
theorem yl (a b:α):(aE a b=true)=(au.cmp a b<0):=by unfold aE;rw[fl]
theorem wF (a b:α):((!aE a b)=true)= ¬(au.cmp a b<0):=by unfold aE;simp
abbrev eA (d:Array α):List V:=uQ au.enc d
theorem Pv {β:Type} {d:Array α} {i:Nat} {k:Int} {v:V} {x:Option β} (h:i<d.size:=by omega):aq (aI (eA d) k v) (i:Int) (fun _=>x)=x:=by
 unfold aq aI;rw[wO,jW,e7,aM,br,aM,br,Int.toNat_natCast,cp (by rw[wO,jW];exact h)];rfl
variable [Inhabited α]
theorem auf (a j:Nat) (d:Array α):insInner aE a (j+1) d=if j+1>a then (if au.cmp d[j+1]! d[j]! <0 then insInner aE a j (swp d (j+1) j) else d) else d:=by
 rw[ag2];by_cases h1:j+1>a
 ·rw[ah h1];simp only[h1,wK,Bl,yl]
 ·rw[ag h1,ag (by simp[h1])]
theorem XN (hi first root:Nat) (d:Array α):siftDown aE hi first root d=
  if 2*root+1≥hi then d else
   if 2*root+2<hi then
    (if au.cmp d[first+(2*root+1)]! d[first+(2*root+2)]! <0 then
     (if au.cmp d[first+root]! d[first+(2*root+2)]! <0 then siftDown aE hi first (2*root+2) (swp d (first+root) (first+(2*root+2))) else d)
    else (if au.cmp d[first+root]! d[first+(2*root+1)]! <0 then siftDown aE hi first (2*root+1) (swp d (first+root) (first+(2*root+1))) else d))
   else (if au.cmp d[first+root]! d[first+(2*root+1)]! <0 then siftDown aE hi first (2*root+1) (swp d (first+root) (first+(2*root+1))) else d):=by
 rw[siftDown];by_cases h1:2*root+1≥hi
 ·rw[rW h1,ah h1]
 rw[dif_neg h1,ag h1];by_cases h2:2*root+2<hi
 ·rw[ah h2];by_cases h3:au.cmp d[first+(2*root+1)]! d[first+(2*root+2)]! <0
  ·rw[ah h3,ah (by simp only[aK,fl,yl];exact ⟨h2,h3⟩)];simp only[wF];by_cases h4:au.cmp d[first+root]! d[first+(2*root+2)]! <0
   ·rw[ag (sb h4),rW h2,ah h4]
   ·rw[ah h4,ag h4]
  ·rw[ag h3,ag (by simp only[aK,fl,yl];exact fun h=>h3 h.2)];simp only[wF];by_cases h4:au.cmp d[first+root]! d[first+(2*root+1)]! <0
   ·rw[ag (sb h4),ah h4]
   ·rw[ah h4,ag h4]
 ·rw[ag h2,ag (by simp only[aK,fl,yl];exact fun h=>h2 h.1)];simp only[wF];by_cases h4:au.cmp d[first+root]! d[first+(2*root+1)]! <0
  ·rw[ag (sb h4),ah h4]
  ·rw[ah h4,ag h4]
theorem ahu {a b i:Nat}: ∀(j:Nat) (d:Array α),j<d.size→d.size<1152921504606846976→
  ∃j' t,Loop (Du (au.E α) CC a b i) ((j:Int),eA d)=some (j',t,eA (insInner aE a j d))
 | 0,d,hj,hs=>⟨(0:Nat),false,di (by
   simp (disch:=omega) only[Du,Dt,un,aM,ag];rfl)⟩
 | j+1,d,hj,hs=>by
  obtain ⟨j',t,ih⟩:=ahu (a:=a) (b:=b) (i:=i) j (swp d (j+1) j) (by rw[size_swp];omega) (by rw[size_swp];omega);rw[auf];by_cases h1:j+1>a
  ·rw[ah h1];have e:Du (au.E α) CC a b i (((j+1:Nat):Int),eA d)=if au.cmp d[j+1]! d[j]! <0 then some (.inl ((j:Int),eA (swp d (j+1) j))) else some (.inr (((j+1:Nat):Int),decide (au.cmp d[j+1]! d[j]! <0),eA d)):=by
    simp (disch:=omega) only[Du,Dt,un,aM,e7,jO,ah,ag,wrap64,fB,jE,Int.toNat_natCast,Option.bind_some,jW,jX,au.re,jD,lC,kq,au.cs,V.ct,V.toInt_int,cond_true,cond_false,yf];rfl
   by_cases h2:au.cmp d[j+1]! d[j]! <0
   ·rw[ah h2] at e⊢;exact ⟨j',t,(fY e).trans ih⟩
   ·rw[ag h2] at e⊢;exact ⟨_,_,di e⟩
  ·rw[ag h1];exact ⟨((j+1:Nat):Int),false,di (by
    simp (disch:=omega) only[Du,Dt,un,aM,ag])⟩
theorem aug {a b:Nat}: ∀(n i:Nat) (d:Array α),b-i=n→b≤d.size→d.size<1152921504606846976→
  ∃j' t,Loop (Pj (au.E α) CC a b) ((i:Int),eA d)=some (j',t,eA (insOuter aE a b i d)):=by
 intro n
 induction n with
 | zero=>
  intro i d hn hb hs;rw[insOuter,cl];exact ⟨(i:Int),false,di (by
   simp (disch:=omega) only[Pj,I5,un,wB,cond_false])⟩
 | succ n ih=>
  intro i d hn hb hs;obtain ⟨j1,t1,h1⟩:=ahu (a:=a) (b:=b) (i:=i) i d (by omega) hs;obtain ⟨j',t,h2⟩:=ih (i+1) (insInner aE a i d) (by omega) (by rw[Xl];omega) (by rw[Xl];omega);rw[insOuter,br];refine ⟨j',t,(fY ?_).trans h2⟩;simp (disch:=omega) only[Pj,I5,un,aM,ah,h1,Option.bind_some,fB,wrap64]
theorem ahv {a b:Nat} {d:Array α} (hb:b≤d.size) (hs:d.size<1152921504606846976) (ha:a<1152921504606846976):
  CC ((au.E α).k 0) [.int .i64 (a:Int),.int .i64 (b:Int),.list (au.E α).T (eA d)]=some [.list (au.E α).T (eA (insertionSort aE d a b))]:=by
 refine au.ahi ?_;unfold Xu;obtain ⟨j',t,h⟩:=aug (a:=a) (b:=b) _ (a+1) d rfl hb hs;simp (disch:=omega) only[fB,wrap64];rw[h];rfl
theorem auh (hi first:Nat): ∀(n root:Nat) (d:Array α),hi-root≤n→root<1152921504606846976→first+hi≤d.size→d.size<1152921504606846976→
  (∃x y z,Loop (th (au.E α) CC hi first) ((root:Int),eA d)=some (.inl (x,y,z,eA (siftDown aE hi first root d))))∨
  (∃x y z,Loop (th (au.E α) CC hi first) ((root:Int),eA d)=some (.inr (x,y,z,eA (siftDown aE hi first root d)))):=by
 intro n
 induction n with
 | zero=>
  intro root d hn hr hb hs;rw[XN,br];exact .inl ⟨(root:Int),((root*2+1:Nat):Int),true,di (by
   simp (disch:=omega) only[th,yh,un,IN,fB,wrap64];rw[rN (by omega)];rfl)⟩
 | succ n ih=>
  intro root d hn hr hb hs;by_cases h1:2*root+1≥hi
  ·rw[XN,ah h1];exact .inl ⟨(root:Int),((root*2+1:Nat):Int),true,di (by
    simp (disch:=omega) only[th,yh,un,IN,fB,wrap64];rw[rN (by omega)];rfl)⟩
  ·have go: ∀c:Nat,c<hi→root<c→(th (au.E α) CC hi first ((root:Int),eA d)=
      if au.cmp d[first+root]! d[first+c]! <0 then some (.inl ((c:Int),eA (swp d (first+root) (first+c)))) else some (.inr (.inr ((root:Int),(c:Int),true,eA d))))→
     siftDown aE hi first root d=(if au.cmp d[first+root]! d[first+c]! <0 then siftDown aE hi first c (swp d (first+root) (first+c)) else d)→
     ((∃x y z,Loop (th (au.E α) CC hi first) ((root:Int),eA d)=some (.inl (x,y,z,eA (siftDown aE hi first root d))))∨
     (∃x y z,Loop (th (au.E α) CC hi first) ((root:Int),eA d)=some (.inr (x,y,z,eA (siftDown aE hi first root d))))):=by
    intro c hc hrc e1 e2;rw[e2];by_cases h3:au.cmp d[first+root]! d[first+c]! <0
    ·rw[ah h3] at e1;rw[ah h3,fY e1];exact ih c _ (by omega) (by omega) (by rw[size_swp];omega) (by rw[size_swp];omega)
    ·rw[ag h3] at e1;rw[ag h3,di e1];exact .inr ⟨_,_,_,rfl⟩
   have e0:=XN hi first root d
   rw[ag h1] at e0;by_cases h2:2*root+2<hi
   ·rw[ah h2] at e0;by_cases h3:au.cmp d[first+(2*root+1)]! d[first+(2*root+2)]! <0
    ·rw[ah h3] at e0;refine go (2*root+2) (by omega) (by omega) ?_ e0;rw[ml 2 root] at h3;simp (disch:=omega) only[th,yh,un,IN,fB,jE,wrap64];rw[aM,cl,aM,br];simp (disch:=omega) only[AP,aM,e7,jO,ah,ag,wrap64,fB,jE,Int.toNat_natCast,Option.bind_some,jW,jX,au.re,jD,lC,kq,au.cs,V.ct,V.toInt_int,cond_true,cond_false,ml 2 root,rN];by_cases h4:au.cmp d[first+root]! d[first+(root*2+2)]! <0
     ·simp only[h4,kR];rfl
     ·simp only[h4,mi];rfl
    ·rw[ag h3] at e0;refine go (2*root+1) (by omega) (by omega) ?_ e0;rw[ml 2 root] at h3;simp (disch:=omega) only[th,yh,un,IN,fB,jE,wrap64];rw[aM,cl,aM,br];simp (disch:=omega) only[AP,aM,e7,jO,ah,ag,wrap64,fB,jE,Int.toNat_natCast,Option.bind_some,jW,jX,au.re,jD,lC,kq,au.cs,V.ct,V.toInt_int,cond_true,cond_false,ml 2 root,wB];by_cases h4:au.cmp d[first+root]! d[first+(root*2+1)]! <0
     ·simp only[h4,kR];rfl
     ·simp only[h4,mi];rfl
   ·rw[ag h2] at e0;refine go (2*root+1) (by omega) (by omega) ?_ e0;simp (disch:=omega) only[th,yh,un,IN,fB,jE,wrap64];rw[aM,cl,aM,cl];simp (disch:=omega) only[AP,aM,e7,jO,ah,ag,wrap64,fB,jE,Int.toNat_natCast,Option.bind_some,jW,jX,au.re,jD,lC,kq,au.cs,V.ct,V.toInt_int,cond_true,cond_false,ml 2 root];by_cases h4:au.cmp d[first+root]! d[first+(root*2+1)]! <0
    ·simp only[h4,kR];rfl
    ·simp only[h4,mi];rfl
theorem ahw {lo hi first:Nat} {d:Array α} (hl:lo<1152921504606846976) (hb:first+hi≤d.size) (hs:d.size<1152921504606846976):
  CC ((au.E α).k 1) [.int .i64 (lo:Int),.int .i64 (hi:Int),.int .i64 (first:Int),.list (au.E α).T (eA d)]=some [.list (au.E α).T (eA (siftDown aE hi first lo d))]:=by
 refine au.ahj ?_;unfold Xw;rcases auh hi first _ lo d (az _) hl hb hs with ⟨x,y,z,h⟩|⟨x,y,z,h⟩
 ·rw[h];rfl
 ·rw[h];rfl
theorem ahx {hi first:Nat}: ∀(k:Nat) (d:Array α),k<1152921504606846976→first+hi≤d.size→d.size<1152921504606846976→
  ∃x y,Loop (Pk (au.E α) CC first 0 hi) ((k:Int)-1,eA d)=some (x,y,eA (heapBuild aE hi first k d))
 | 0,d,hk,hb,hs=>⟨-1,false,di (by
   simp (disch:=omega) only[Pk,I6,un,aM,ag];rfl)⟩
 | k+1,d,hk,hb,hs=>by
  obtain ⟨x,y,ih⟩:=ahx (hi:=hi) (first:=first) k (siftDown aE hi first k d) (by omega) (by rw[IP _ _ _ _ _ (az _)];omega) (by rw[IP _ _ _ _ _ (az _)];omega);refine ⟨x,y,(fY ?_).trans ih⟩;simp (disch:=omega) only[Pk,I6,un,aM,ah,yf,ahw,Option.bind_some,V.ct,V.ki,wrap64]
theorem ahy {first:Nat}: ∀(k:Nat) (d:Array α),k<1152921504606846976→first+k≤d.size→d.size<1152921504606846976→
  ∃x y,Loop (Pl (au.E α) CC first 0) ((k:Int)-1,eA d)=some (x,y,eA (heapPop aE first k d))
 | 0,d,hk,hb,hs=>⟨-1,false,di (by
   simp (disch:=omega) only[Pl,I7,un,aM,ag];rfl)⟩
 | k+1,d,hk,hb,hs=>by
  obtain ⟨x,y,ih⟩:=ahy (first:=first) k (siftDown aE k first 0 (swp d first (first+k))) (by omega) (by rw[IP _ _ _ _ _ (az _),size_swp];omega) (by rw[IP _ _ _ _ _ (az _),size_swp];omega);refine ⟨x,y,(fY ?_).trans ih⟩;have oN:=ahw (lo:=0) (hi:=k) (first:=first) (d:=swp d first (first+k)) (by omega) (by rw[size_swp];omega) (by rw[size_swp];omega);unfold swp at oN⊢;rw[show ((0:Nat):Int)=0 from rfl] at oN;simp (disch:=omega) only[Pl,I7,un,yf,aM,e7,jO,ah,ag,wrap64,fB,jE,Int.toNat_natCast,Option.bind_some,jW,jX,au.re,jD,lC,kq,au.cs,V.ct,V.toInt_int,cond_true,cond_false];rw[oN];simp (disch:=omega) only[Option.bind_some,V.ct,V.ki,wrap64]
theorem aui {a b:Nat} {d:Array α} (jr:a<b) (hb:b≤d.size) (hs:d.size<1152921504606846976):
  CC ((au.E α).k 2) [.int .i64 (a:Int),.int .i64 (b:Int),.list (au.E α).T (eA d)]=some [.list (au.E α).T (eA (heapSort aE d a b))]:=by
 refine au.ahk ?_;unfold Xx;obtain ⟨x,y,h1⟩:=ahx (hi:=b-a) (first:=a) ((b-a-1)/2+1) d (by omega) (by omega) hs;obtain ⟨x2,y2,h2⟩:=ahy (first:=a) (b-a) (heapBuild aE (b-a) a ((b-a-1)/2+1) d) (by omega) (by rw[Xm];omega) (by rw[Xm];omega);have e1:((((b-a-1)/2+1:Nat):Int)-1)=Int.tdiv (((b-a:Nat):Int)-1) 2:=by
  rw[Int.tdiv_eq_ediv_of_nonneg (by omega)];omega
 rw[e1] at h1;simp (disch:=omega) only[qH,wrap64];rw[h1];simp only[Option.bind_some,un];rw[h2];rfl
theorem auj: ∀(n i j:Nat) (d:Array α),j-i≤n→j<d.size→d.size<1152921504606846976→
  ∃x y z,Loop (I8 (au.E α) CC) ((i:Int),(j:Int),eA d)=some (x,y,z,eA (reverseLoop i j d)):=by
 intro n
 induction n with
 | zero=>
  intro i j d hn hj hs;rw[reverseLoop,cl];exact ⟨(i:Int),(j:Int),false,di (by
   simp (disch:=omega) only[I8,Dx,un,wB,cond_false])⟩
 | succ n ih=>
  intro i j d hn hj hs;rw[reverseLoop];by_cases h:i<j
  ·rw[ah h];obtain ⟨x,y,z,h2⟩:=ih (i+1) (j-1) (swp d i j) (by omega) (by rw[size_swp];omega) (by rw[size_swp];omega);refine ⟨x,y,z,(fY ?_).trans h2⟩;simp (disch:=omega) only[I8,Dx,un,aM,e7,jO,ah,ag,wrap64,fB,jE,Int.toNat_natCast,Option.bind_some,jW,jX,au.re,jD,lC,kq,au.cs,V.ct,V.toInt_int,cond_true,cond_false,ny];rfl
  ·rw[ag h];exact ⟨(i:Int),(j:Int),false,di (by
    simp (disch:=omega) only[I8,Dx,un,wB,cond_false])⟩
theorem auk {a b:Nat} {d:Array α} (jr:a<b) (hb:b≤d.size) (hs:d.size<1152921504606846976):
  CC ((au.E α).k 3) [.int .i64 (a:Int),.int .i64 (b:Int),.list (au.E α).T (eA d)]=some [.list (au.E α).T (eA (reverseRange d a b))]:=by
 refine au.ahl ?_;unfold Xy;obtain ⟨x,y,z,h⟩:=auj _ a (b-1) d (az _) (by omega) hs;simp (disch:=omega) only[ny,wrap64];rw[h];rfl
variable {α:Type} [Inhabited α] [au α]
theorem Pw (d:Array α) (b i:Nat):scanSorted aE d b i=if i<b then (if au.cmp d[i]! d[i-1]! <0 then i else scanSorted aE d b (i+1)) else i:=by
 conv=>lhs;rw[scanSorted]
 by_cases h:i<b
 ·rw[ah h];simp only[h,wK,Bl,wF];by_cases h2:au.cmp d[i]! d[i-1]! <0
  ·rw[ag (sb h2),ah h2]
  ·rw[ah h2,ag h2]
 ·rw[ag h,ag (by simp[h])]
theorem ahz (j:Nat) (d:Array α):shiftDown aE (j+1) d=if au.cmp d[j+1]! d[j]! <0 then shiftDown aE j (swp d (j+1) j) else d:=by
 conv=>lhs;rw[shiftDown]
 simp only[wF];by_cases h2:au.cmp d[j+1]! d[j]! <0
 ·rw[ag (sb h2),ah h2]
 ·rw[ah h2,ag h2]
theorem Px (b j:Nat) (d:Array α):shiftUp aE b j d=if j<b then (if au.cmp d[j]! d[j-1]! <0 then shiftUp aE b (j+1) (swp d j (j-1)) else d) else d:=by
 conv=>lhs;rw[shiftUp]
 simp only[wF];by_cases h:j<b
 ·rw[ah h,ah h];by_cases h2:au.cmp d[j]! d[j-1]! <0
  ·rw[ag (sb h2),ah h2]
  ·rw[ah h2,ag h2]
 ·rw[ag h,ag h]
theorem aul {a:Nat}: ∀(n i j:Nat) (d:Array α),j+1-i≤n→(partLoop aE a i j d).2.size=d.size∧(partLoop aE a i j d).1≤j:=by
 intro n
 induction n with
 | zero=>
  intro i j d hn;have h1:=scanUp_ge (fun x=>aE x d[a]!) d j i;have h2:=scanDown_le (fun x=> !aE x d[a]!) d (scanUp (fun x=>aE x d[a]!) d j i) j;rw[partLoop_eq,br];exact ⟨rfl,h2⟩
 | succ n ih=>
  intro i j d hn;rw[partLoop_eq];have h1:=scanUp_ge (fun x=>aE x d[a]!) d j i;have h2:=scanDown_le (fun x=> !aE x d[a]!) d (scanUp (fun x=>aE x d[a]!) d j i) j;split
  ·exact ⟨rfl,h2⟩
  ·obtain ⟨h3,h4⟩:=ih (scanUp (fun x=>aE x d[a]!) d j i+1) (scanDown (fun x=> !aE x d[a]!) d (scanUp (fun x=>aE x d[a]!) d j i) j-1) (swp d (scanUp (fun x=>aE x d[a]!) d j i) (scanDown (fun x=> !aE x d[a]!) d (scanUp (fun x=>aE x d[a]!) d j i) j)) (by omega);exact ⟨by rw[h3,size_swp],by omega⟩
theorem ow {β:Type} {d:Array α} {i:Nat} {f:V→Option β} (h:i<d.size:=by omega):aq (eA d) (i:Int) f=f (au.enc (d[i]!)):=by
 unfold aq;rw[jW,e7,aM,br,aM,br,Int.toNat_natCast,jX h];rfl
theorem aum {a j:Nat} {d:Array α} (ha:a<d.size) (hj:j<d.size) (hs:d.size<1152921504606846976): ∀(n i:Nat),j+1-i=n→i≤d.size→
  ∃t,Loop (Ja (au.E α) CC a j (eA d)) (i:Int)=some (((scanUp (fun x=>aE x d[a]!) d j i:Nat):Int),t):=by
 intro n
 induction n with
 | zero=>
  intro i hn hi;rw[Dp,cl];exact ⟨false,di (by simp (disch:=omega) only[Ja,I9,aM,ag])⟩
 | succ n ih=>
  intro i hn hi;obtain ⟨t,h⟩:=ih (i+1) (by omega) (by omega);rw[Dp,br];have e:Ja (au.E α) CC a j (eA d) (i:Int)=if au.cmp d[i]! d[a]! <0 then some (.inl ((i+1:Nat):Int)) else some (.inr ((i:Int),decide (au.cmp d[i]! d[a]! <0))):=by
   simp (disch:=omega) only[Ja,I9,aM,e7,jO,ah,ag,wrap64,fB,jE,Int.toNat_natCast,Option.bind_some,jW,jX,au.re,jD,lC,kq,au.cs,V.ct,V.toInt_int,cond_true,cond_false]
  simp only[yl];by_cases h2:au.cmp d[i]! d[a]! <0
  ·rw[ah h2] at e;rw[ah h2];exact ⟨t,(fY e).trans h⟩
  ·rw[ag h2] at e;rw[ag h2];exact ⟨_,di e⟩
theorem ahA {a j:Nat} {d:Array α} (ha:a<d.size) (hj:j<d.size) (hs:d.size<1152921504606846976): ∀(n i:Nat),j+1-i=n→i≤d.size→
  ∃t,Loop (Jc (au.E α) CC a j (eA d)) (i:Int)=some (((scanUp (fun x=>aE x d[a]!) d j i:Nat):Int),t):=by
 intro n
 induction n with
 | zero=>
  intro i hn hi;rw[Dp,cl];exact ⟨false,di (by simp (disch:=omega) only[Jc,Jb,aM,ag])⟩
 | succ n ih=>
  intro i hn hi;obtain ⟨t,h⟩:=ih (i+1) (by omega) (by omega);rw[Dp,br];have e:Jc (au.E α) CC a j (eA d) (i:Int)=if au.cmp d[i]! d[a]! <0 then some (.inl ((i+1:Nat):Int)) else some (.inr ((i:Int),decide (au.cmp d[i]! d[a]! <0))):=by
   simp (disch:=omega) only[Jc,Jb,aM,e7,jO,ah,ag,wrap64,fB,jE,Int.toNat_natCast,Option.bind_some,jW,jX,au.re,jD,lC,kq,au.cs,V.ct,V.toInt_int,cond_true,cond_false]
  simp only[yl];by_cases h2:au.cmp d[i]! d[a]! <0
  ·rw[ah h2] at e;rw[ah h2];exact ⟨t,(fY e).trans h⟩
  ·rw[ag h2] at e;rw[ag h2];exact ⟨_,di e⟩
theorem ahB {a i:Nat} {d:Array α} (ha:a<d.size) (hi:1≤i) (hs:d.size<1152921504606846976): ∀(j:Nat),j<d.size→
  ∃t,Loop (Dz (au.E α) CC a i (eA d)) (j:Int)=some (((scanDown (fun x=> !aE x d[a]!) d i j:Nat):Int),t)
 | 0,hj=>⟨false,di (by simp (disch:=omega) only[Dz,Dy,aM,ag];rfl)⟩
 | j+1,hj=>by
  obtain ⟨t,h⟩:=ahB ha hi hs j (by omega);rw[Xk];by_cases h1:i≤j+1
  ·rw[ah h1];have e:Dz (au.E α) CC a i (eA d) ((j+1:Nat):Int)=if au.cmp d[j+1]! d[a]! <0 then some (.inr (((j+1:Nat):Int),!decide (au.cmp d[j+1]! d[a]! <0))) else some (.inl (j:Int)):=by
    simp (disch:=omega) only[Dz,Dy,aM,e7,jO,ah,ag,wrap64,fB,jE,Int.toNat_natCast,Option.bind_some,jW,jX,au.re,jD,lC,kq,au.cs,V.ct,V.toInt_int,cond_true,cond_false,yf]
   simp only[wF];by_cases h2:au.cmp d[j+1]! d[a]! <0
   ·rw[ah h2] at e;rw[ag (sb h2)];exact ⟨_,di e⟩
   ·rw[ag h2] at e;rw[ah h2];exact ⟨t,(fY e).trans h⟩
  ·rw[ag h1];exact ⟨false,di (by simp (disch:=omega) only[Dz,Dy,aM,ag])⟩
theorem XO {a i:Nat} {d:Array α} (ha:a<d.size) (hi:1≤i) (hs:d.size<1152921504606846976): ∀(j:Nat),j<d.size→
  ∃t,Loop (DB (au.E α) CC a i (eA d)) (j:Int)=some (((scanDown (fun x=> !aE x d[a]!) d i j:Nat):Int),t)
 | 0,hj=>⟨false,di (by simp (disch:=omega) only[DB,DA,aM,ag];rfl)⟩
 | j+1,hj=>by
  obtain ⟨t,h⟩:=XO ha hi hs j (by omega);rw[Xk];by_cases h1:i≤j+1
  ·rw[ah h1];have e:DB (au.E α) CC a i (eA d) ((j+1:Nat):Int)=if au.cmp d[j+1]! d[a]! <0 then some (.inr (((j+1:Nat):Int),!decide (au.cmp d[j+1]! d[a]! <0))) else some (.inl (j:Int)):=by
    simp (disch:=omega) only[DB,DA,aM,e7,jO,ah,ag,wrap64,fB,jE,Int.toNat_natCast,Option.bind_some,jW,jX,au.re,jD,lC,kq,au.cs,V.ct,V.toInt_int,cond_true,cond_false,yf]
   simp only[wF];by_cases h2:au.cmp d[j+1]! d[a]! <0
   ·rw[ah h2] at e;rw[ag (sb h2)];exact ⟨_,di e⟩
   ·rw[ag h2] at e;rw[ah h2];exact ⟨t,(fY e).trans h⟩
  ·rw[ag h1];exact ⟨false,di (by simp (disch:=omega) only[DB,DA,aM,ag])⟩
theorem ahC {a j:Nat} {d:Array α} (ha:a<d.size) (hj:j<d.size) (hs:d.size<1152921504606846976): ∀(n i:Nat),j+1-i=n→i≤d.size→
  ∃t,Loop (Jg (au.E α) CC a j (eA d)) (i:Int)=some (((scanUp (fun x=> !aE d[a]! x) d j i:Nat):Int),t):=by
 intro n
 induction n with
 | zero=>
  intro i hn hi;rw[Dp,cl];exact ⟨false,di (by simp (disch:=omega) only[Jg,Jf,aM,ag])⟩
 | succ n ih=>
  intro i hn hi;obtain ⟨t,h⟩:=ih (i+1) (by omega) (by omega);rw[Dp,br];have e:Jg (au.E α) CC a j (eA d) (i:Int)=if au.cmp d[a]! d[i]! <0 then some (.inr ((i:Int),!decide (au.cmp d[a]! d[i]! <0))) else some (.inl ((i+1:Nat):Int)):=by
   simp (disch:=omega) only[Jg,Jf,aM,e7,jO,ah,ag,wrap64,fB,jE,Int.toNat_natCast,Option.bind_some,jW,jX,au.re,jD,lC,kq,au.cs,V.ct,V.toInt_int,cond_true,cond_false]
  simp only[wF];by_cases h2:au.cmp d[a]! d[i]! <0
  ·rw[ah h2] at e;rw[ag (sb h2)];exact ⟨_,di e⟩
  ·rw[ag h2] at e;rw[ah h2];exact ⟨t,(fY e).trans h⟩
theorem XP {a i:Nat} {d:Array α} (ha:a<d.size) (hi:1≤i) (hs:d.size<1152921504606846976): ∀(j:Nat),j<d.size→
  ∃t,Loop (DG (au.E α) CC a i (eA d)) (j:Int)=some (((scanDown (fun x=>aE d[a]! x) d i j:Nat):Int),t)
 | 0,hj=>⟨false,di (by simp (disch:=omega) only[DG,DF,aM,ag];rfl)⟩
 | j+1,hj=>by
  obtain ⟨t,h⟩:=XP ha hi hs j (by omega);rw[Xk];by_cases h1:i≤j+1
  ·rw[ah h1];have e:DG (au.E α) CC a i (eA d) ((j+1:Nat):Int)=if au.cmp d[a]! d[j+1]! <0 then some (.inl (j:Int)) else some (.inr (((j+1:Nat):Int),decide (au.cmp d[a]! d[j+1]! <0))):=by
    simp (disch:=omega) only[DG,DF,aM,e7,jO,ah,ag,wrap64,fB,jE,Int.toNat_natCast,Option.bind_some,jW,jX,au.re,jD,lC,kq,au.cs,V.ct,V.toInt_int,cond_true,cond_false,yf]
   simp only[yl];by_cases h2:au.cmp d[a]! d[j+1]! <0
   ·rw[ah h2] at e;rw[ah h2];exact ⟨t,(fY e).trans h⟩
   ·rw[ag h2] at e;rw[ag h2];exact ⟨_,di e⟩
  ·rw[ag h1];exact ⟨false,di (by simp (disch:=omega) only[DG,DF,aM,ag])⟩
theorem aun {a:Nat}: ∀(n i j:Nat) (d:Array α),j+1-i≤n→1≤i→i≤d.size→a<d.size→j<d.size→d.size<1152921504606846976→
  ∃x z,Loop (DE (au.E α) CC a) ((i:Int),(j:Int),eA d)=some (x,(((partLoop aE a i j d).1:Nat):Int),z,eA (partLoop aE a i j d).2):=by
 intro n
 induction n with
 | zero=>
  intro i j d hn h1 h2 ha hj hs;obtain ⟨t3,e3⟩:=ahA (a:=a) ha hj hs _ i rfl h2;have g1:=scanUp_ge (fun x=>aE x d[a]!) d j i;have g2:=scanDown_le (fun x=> !aE x d[a]!) d (scanUp (fun x=>aE x d[a]!) d j i) j;obtain ⟨t4,e4⟩:=XO (a:=a) (i:=scanUp (fun x=>aE x d[a]!) d j i) ha (by omega) hs j hj;rw[partLoop_eq,br];refine ⟨((scanUp (fun x=>aE x d[a]!) d j i:Nat):Int),true,di ?_⟩;simp only[DE,Jd,un];rw[e3];simp only[Option.bind_some,un];rw[e4];simp (disch:=omega) only[Option.bind_some,un,rN,cond_true]
 | succ n ih=>
  intro i j d hn h1 h2 ha hj hs;obtain ⟨t3,e3⟩:=ahA (a:=a) ha hj hs _ i rfl h2;have g1:=scanUp_ge (fun x=>aE x d[a]!) d j i;have g2:=scanDown_le (fun x=> !aE x d[a]!) d (scanUp (fun x=>aE x d[a]!) d j i) j;obtain ⟨t4,e4⟩:=XO (a:=a) (i:=scanUp (fun x=>aE x d[a]!) d j i) ha (by omega) hs j hj;rw[partLoop_eq];have f:DE (au.E α) CC a ((i:Int),(j:Int),eA d)=DE (au.E α) CC a ((i:Int),(j:Int),eA d):=rfl
  conv at f=>rhs;simp only[DE,Jd,un];rw[e3];simp only[Option.bind_some,un];rw[e4];simp only[Option.bind_some,un]
  generalize lh:scanUp (fun x=>aE x d[a]!) d j i=i2 at*
  generalize cS:scanDown (fun x=> !aE x d[a]!) d i2 j=j2 at*
  by_cases h:i2>j2
  ·rw[ah h];refine ⟨(i2:Int),true,di (f.trans ?_)⟩;simp (disch:=omega) only[Option.bind_some,rN,cond_true]
  ·rw[ag h];obtain ⟨x,z,e⟩:=ih (i2+1) (j2-1) (swp d i2 j2) (by omega) (by omega) (by rw[size_swp];omega) (by rw[size_swp];omega) (by rw[size_swp];omega) (by rw[size_swp];omega);refine ⟨x,z,(fY (f.trans ?_)).trans e⟩;simp (disch:=omega) only[aM,e7,jO,ah,ag,wrap64,fB,jE,Int.toNat_natCast,Option.bind_some,jW,jX,au.re,jD,lC,kq,au.cs,V.ct,V.toInt_int,cond_true,cond_false,ny];rfl
theorem auo (d:Array α) (a b pivot:Nat):partition aE d a b pivot=
  if scanUp (fun x=>aE x (swp d a pivot)[a]!) (swp d a pivot) (b-1) (a+1)>scanDown (fun x=> !aE x (swp d a pivot)[a]!) (swp d a pivot) (scanUp (fun x=>aE x (swp d a pivot)[a]!) (swp d a pivot) (b-1) (a+1)) (b-1) then
   (scanDown (fun x=> !aE x (swp d a pivot)[a]!) (swp d a pivot) (scanUp (fun x=>aE x (swp d a pivot)[a]!) (swp d a pivot) (b-1) (a+1)) (b-1),true,swp (swp d a pivot) (scanDown (fun x=> !aE x (swp d a pivot)[a]!) (swp d a pivot) (scanUp (fun x=>aE x (swp d a pivot)[a]!) (swp d a pivot) (b-1) (a+1)) (b-1)) a)
  else
   ((partLoop aE a (scanUp (fun x=>aE x (swp d a pivot)[a]!) (swp d a pivot) (b-1) (a+1)+1) (scanDown (fun x=> !aE x (swp d a pivot)[a]!) (swp d a pivot) (scanUp (fun x=>aE x (swp d a pivot)[a]!) (swp d a pivot) (b-1) (a+1)) (b-1)-1) (swp (swp d a pivot) (scanUp (fun x=>aE x (swp d a pivot)[a]!) (swp d a pivot) (b-1) (a+1)) (scanDown (fun x=> !aE x (swp d a pivot)[a]!) (swp d a pivot) (scanUp (fun x=>aE x (swp d a pivot)[a]!) (swp d a pivot) (b-1) (a+1)) (b-1)))).1,false,
    swp (partLoop aE a (scanUp (fun x=>aE x (swp d a pivot)[a]!) (swp d a pivot) (b-1) (a+1)+1) (scanDown (fun x=> !aE x (swp d a pivot)[a]!) (swp d a pivot) (scanUp (fun x=>aE x (swp d a pivot)[a]!) (swp d a pivot) (b-1) (a+1)) (b-1)-1) (swp (swp d a pivot) (scanUp (fun x=>aE x (swp d a pivot)[a]!) (swp d a pivot) (b-1) (a+1)) (scanDown (fun x=> !aE x (swp d a pivot)[a]!) (swp d a pivot) (scanUp (fun x=>aE x (swp d a pivot)[a]!) (swp d a pivot) (b-1) (a+1)) (b-1)))).2
    (partLoop aE a (scanUp (fun x=>aE x (swp d a pivot)[a]!) (swp d a pivot) (b-1) (a+1)+1) (scanDown (fun x=> !aE x (swp d a pivot)[a]!) (swp d a pivot) (scanUp (fun x=>aE x (swp d a pivot)[a]!) (swp d a pivot) (b-1) (a+1)) (b-1)-1) (swp (swp d a pivot) (scanUp (fun x=>aE x (swp d a pivot)[a]!) (swp d a pivot) (b-1) (a+1)) (scanDown (fun x=> !aE x (swp d a pivot)[a]!) (swp d a pivot) (scanUp (fun x=>aE x (swp d a pivot)[a]!) (swp d a pivot) (b-1) (a+1)) (b-1)))).1 a):=rfl
theorem DM (d:Array α) (i j:Nat):eA ((d.setIfInBounds i d[j]!).setIfInBounds j d[i]!)=eA (swp d i j):=rfl
theorem aup {a b pivot:Nat} {d:Array α} (hp:pivot<b) (jr:a<b) (hb:b≤d.size) (hs:d.size<1152921504606846976):
  CC ((au.E α).k 4) [.int .i64 (a:Int),.int .i64 (b:Int),.int .i64 (pivot:Int),.list (au.E α).T (eA d)]=
   some [.int .i64 ((partition aE d a b pivot).1:Int),.bool (partition aE d a b pivot).2.1,.list (au.E α).T (eA (partition aE d a b pivot).2.2)]:=by
 refine au.ahm ?_;unfold Xz;have z1:(swp d a pivot).size=d.size:=size_swp ..;obtain ⟨t1,e1⟩:=aum (a:=a) (j:=b-1) (d:=swp d a pivot) (by omega) (by omega) (by omega) _ (a+1) rfl (by omega);have g1:=scanUp_ge (fun x=>aE x (swp d a pivot)[a]!) (swp d a pivot) (b-1) (a+1);have g2:=scanDown_le (fun x=> !aE x (swp d a pivot)[a]!) (swp d a pivot) (scanUp (fun x=>aE x (swp d a pivot)[a]!) (swp d a pivot) (b-1) (a+1)) (b-1);obtain ⟨t2,e2⟩:=ahB (a:=a) (i:=scanUp (fun x=>aE x (swp d a pivot)[a]!) (swp d a pivot) (b-1) (a+1)) (d:=swp d a pivot) (by omega) (by omega) (by omega) (b-1) (by omega);have e0:=auo d a b pivot;rw[ow (i:=pivot),ow (i:=a),ow (i:=a),Pv (i:=pivot)];simp only[au.re,Int.toNat_natCast,jD,DM];simp (disch:=omega) only[ny,fB,wrap64];rw[e1];simp only[Option.bind_some,un];rw[e2];simp only[Option.bind_some,un];generalize lh:scanUp (fun x=>aE x (swp d a pivot)[a]!) (swp d a pivot) (b-1) (a+1)=i2 at*
 generalize cS:scanDown (fun x=> !aE x (swp d a pivot)[a]!) (swp d a pivot) i2 (b-1)=j2 at*
 generalize swp d a pivot=d1 at*
 by_cases h:i2>j2
 ·rw[ah h] at e0;rw[e0,aM,br];rw[ow (i:=a),ow (i:=j2)];rw[ow (i:=j2),Pv (i:=a)];simp only[au.re,Int.toNat_natCast,jD,DM]
 ·rw[ag h] at e0;rw[e0,aM,cl];have z2:(swp d1 i2 j2).size=d1.size:=size_swp ..;obtain ⟨x,z,e5⟩:=aun (a:=a) _ (i2+1) (j2-1) (swp d1 i2 j2) (az _) (by omega) (by omega) (by omega) (by omega) (by omega);obtain ⟨q1,q2⟩:=aul (a:=a) _ (i2+1) (j2-1) (swp d1 i2 j2) (az _);rw[ow (i:=j2),ow (i:=i2)];rw[ow (i:=i2),Pv (i:=j2)];simp only[au.re,Int.toNat_natCast,jD,DM];simp (disch:=omega) only[ny,fB,wrap64];rw[e5];generalize partLoop aE a (i2+1) (j2-1) (swp d1 i2 j2)=r at*
  simp only[Option.bind_some,un];rw[ow (i:=a),ow (i:=r.1)];rw[ow (i:=r.1),Pv (i:=a)];simp only[au.re,Int.toNat_natCast,jD,DM]
theorem auq {a:Nat}: ∀(n i j:Nat) (d:Array α),j+1-i≤n→1≤i→i≤d.size→a<d.size→j<d.size→d.size<1152921504606846976→
  ∃x z,Loop (DH (au.E α) CC a) ((i:Int),(j:Int),eA d)=some ((((partEqLoop aE a i j d).1:Nat):Int),x,z,eA (partEqLoop aE a i j d).2):=by
 intro n
 induction n with
 | zero=>
  intro i j d hn h1 h2 ha hj hs;obtain ⟨t3,e3⟩:=ahC (a:=a) ha hj hs _ i rfl h2;have g1:=scanUp_ge (fun x=> !aE d[a]! x) d j i;have g2:=scanDown_le (fun x=>aE d[a]! x) d (scanUp (fun x=> !aE d[a]! x) d j i) j;obtain ⟨t4,e4⟩:=XP (a:=a) (i:=scanUp (fun x=> !aE d[a]! x) d j i) ha (by omega) hs j hj;rw[partEqLoop_eq,br];refine ⟨((scanDown (fun x=>aE d[a]! x) d (scanUp (fun x=> !aE d[a]! x) d j i) j:Nat):Int),true,di ?_⟩;simp only[DH,Jh,un];rw[e3];simp only[Option.bind_some,un];rw[e4];simp (disch:=omega) only[Option.bind_some,un,rN,cond_true]
 | succ n ih=>
  intro i j d hn h1 h2 ha hj hs;obtain ⟨t3,e3⟩:=ahC (a:=a) ha hj hs _ i rfl h2;have g1:=scanUp_ge (fun x=> !aE d[a]! x) d j i;have g2:=scanDown_le (fun x=>aE d[a]! x) d (scanUp (fun x=> !aE d[a]! x) d j i) j;obtain ⟨t4,e4⟩:=XP (a:=a) (i:=scanUp (fun x=> !aE d[a]! x) d j i) ha (by omega) hs j hj;rw[partEqLoop_eq];have f:DH (au.E α) CC a ((i:Int),(j:Int),eA d)=DH (au.E α) CC a ((i:Int),(j:Int),eA d):=rfl
  conv at f=>rhs;simp only[DH,Jh,un];rw[e3];simp only[Option.bind_some,un];rw[e4];simp only[Option.bind_some,un]
  generalize lh:scanUp (fun x=> !aE d[a]! x) d j i=i2 at*
  generalize cS:scanDown (fun x=>aE d[a]! x) d i2 j=j2 at*
  by_cases h:i2>j2
  ·rw[ah h];refine ⟨(j2:Int),true,di (f.trans ?_)⟩;simp (disch:=omega) only[Option.bind_some,rN,cond_true]
  ·rw[ag h];obtain ⟨x,z,e⟩:=ih (i2+1) (j2-1) (swp d i2 j2) (by omega) (by omega) (by rw[size_swp];omega) (by rw[size_swp];omega) (by rw[size_swp];omega) (by rw[size_swp];omega);refine ⟨x,z,(fY (f.trans ?_)).trans e⟩;simp (disch:=omega) only[aM,e7,jO,ah,ag,wrap64,fB,jE,Int.toNat_natCast,Option.bind_some,jW,jX,au.re,jD,lC,kq,au.cs,V.ct,V.toInt_int,cond_true,cond_false,ny];rfl
theorem aur {a b pivot:Nat} {d:Array α} (hp:pivot<b) (jr:a<b) (hb:b≤d.size) (hs:d.size<1152921504606846976):
  CC ((au.E α).k 5) [.int .i64 (a:Int),.int .i64 (b:Int),.int .i64 (pivot:Int),.list (au.E α).T (eA d)]=
   some [.int .i64 ((partitionEqual aE d a b pivot).1:Int),.list (au.E α).T (eA (partitionEqual aE d a b pivot).2)]:=by
 refine au.ahn ?_;unfold XB;have z1:(swp d a pivot).size=d.size:=size_swp ..;obtain ⟨x,z,e⟩:=auq (a:=a) _ (a+1) (b-1) (swp d a pivot) (az _) (by omega) (by omega) (by omega) (by omega) (by omega);simp (disch:=omega) only[aM,e7,ah,jW,jX,Int.toNat_natCast,Option.bind_some,au.re,jD,lC,kq,ny,fB,wrap64,DM];rw[e];rfl
theorem aus {a b j:Nat} {d:Array α} (hb:b≤d.size) (hs:d.size<1152921504606846976): ∀(n i:Nat),b-i=n→1≤i→i≤b→
  ∃t,Loop (Jj (au.E α) CC a b j (eA d)) (i:Int)=some (((scanSorted aE d b i:Nat):Int),t):=by
 intro n
 induction n with
 | zero=>
  intro i hn h1 hi;rw[Pw,cl];exact ⟨false,di (by simp (disch:=omega) only[Jj,Ji,aM,ag])⟩
 | succ n ih=>
  intro i hn h1 hi;obtain ⟨t,h⟩:=ih (i+1) (by omega) (by omega) (by omega);rw[Pw,br];have e:Jj (au.E α) CC a b j (eA d) (i:Int)=if au.cmp d[i]! d[i-1]! <0 then some (.inr ((i:Int),!decide (au.cmp d[i]! d[i-1]! <0))) else some (.inl ((i+1:Nat):Int)):=by
   simp (disch:=omega) only[Jj,Ji,ny,aM,e7,jO,ah,ag,wrap64,fB,jE,Int.toNat_natCast,Option.bind_some,jW,jX,au.re,jD,lC,kq,au.cs,V.ct,V.toInt_int,cond_true,cond_false]
  by_cases h2:au.cmp d[i]! d[i-1]! <0
  ·rw[ah h2] at e⊢;exact ⟨_,di e⟩
  ·rw[ag h2] at e⊢;exact ⟨t,(fY e).trans h⟩
theorem ahD: ∀(j:Nat) (d:Array α),(shiftDown aE j d).size=d.size
 | 0,_=>rfl
 | j+1,d=>by
  rw[ahz];split
  ·rw[ahD j,size_swp]
  ·rfl
theorem aut {b:Nat}: ∀(n j:Nat) (d:Array α),b-j=n→(shiftUp aE b j d).size=d.size:=by
 intro n
 induction n with
 | zero=>intro j d h;rw[Px,cl]
 | succ n ih=>
  intro j d h;rw[Px,br];split
  ·rw[ih _ _ (by omega),size_swp]
  ·rfl
theorem ahE {a b i k:Nat}: ∀(j:Nat) (d:Array α),j<d.size→d.size<1152921504606846976→
  ∃t,Loop (Jl (au.E α) CC a b i k) ((j:Int),eA d)=some (t,eA (shiftDown aE j d))
 | 0,d,hj,hs=>⟨(0:Nat),di (by
   simp (disch:=omega) only[Jl,Jk,un,aM,ag];rfl)⟩
 | j+1,d,hj,hs=>by
  obtain ⟨t,ih⟩:=ahE (a:=a) (b:=b) (i:=i) (k:=k) j (swp d (j+1) j) (by rw[size_swp];omega) (by rw[size_swp];omega);rw[ahz];have e:Jl (au.E α) CC a b i k (((j+1:Nat):Int),eA d)=if au.cmp d[j+1]! d[j]! <0 then some (.inl ((j:Int),eA (swp d (j+1) j))) else some (.inr (((j+1:Nat):Int),eA d)):=by
   simp (disch:=omega) only[Jl,Jk,un,aM,e7,jO,ah,ag,wrap64,fB,jE,Int.toNat_natCast,Option.bind_some,jW,jX,au.re,jD,lC,kq,au.cs,V.ct,V.toInt_int,cond_true,cond_false,yf];rfl
  by_cases h2:au.cmp d[j+1]! d[j]! <0
  ·rw[ah h2] at e⊢;exact ⟨t,(fY e).trans ih⟩
  ·rw[ag h2] at e⊢;exact ⟨_,di e⟩
theorem auu {a b i k:Nat}: ∀(n j:Nat) (d:Array α),b-j=n→1≤j→j≤b→b≤d.size→d.size<1152921504606846976→
  ∃t,Loop (Jn (au.E α) CC a b i k) ((j:Int),eA d)=some (t,eA (shiftUp aE b j d)):=by
 intro n
 induction n with
 | zero=>
  intro j d hn h1 hj hb hs;rw[Px,cl];exact ⟨(j:Int),di (by
   simp (disch:=omega) only[Jn,Jm,un,aM,ag])⟩
 | succ n ih=>
  intro j d hn h1 hj hb hs;obtain ⟨t,h⟩:=ih (j+1) (swp d j (j-1)) (by omega) (by omega) (by omega) (by rw[size_swp];omega) (by rw[size_swp];omega);rw[Px,br];have e:Jn (au.E α) CC a b i k ((j:Int),eA d)=if au.cmp d[j]! d[j-1]! <0 then some (.inl (((j+1:Nat):Int),eA (swp d j (j-1)))) else some (.inr ((j:Int),eA d)):=by
   simp (disch:=omega) only[Jn,Jm,un,ny,aM,e7,jO,ah,ag,wrap64,fB,jE,Int.toNat_natCast,Option.bind_some,jW,jX,au.re,jD,lC,kq,au.cs,V.ct,V.toInt_int,cond_true,cond_false];rfl
  by_cases h2:au.cmp d[j]! d[j-1]! <0
  ·rw[ah h2] at e⊢;exact ⟨t,(fY e).trans h⟩
  ·rw[ag h2] at e⊢;exact ⟨_,di e⟩
theorem auv {d:Array α} {b:Nat}: ∀(n i:Nat),b-i=n→i≤b→i≤scanSorted aE d b i∧scanSorted aE d b i≤b:=by
 intro n
 induction n with
 | zero=>intro i hn hi;rw[Pw,cl];omega
 | succ n ih=>
  intro i hn hi;rw[Pw,br];obtain ⟨h1,h2⟩:=ih (i+1) (by omega) (by omega);split<;>omega
theorem auw {a b:Nat}: ∀(s i:Nat) (d:Array α),s≤5→a<i→i≤b→b≤d.size→d.size<1152921504606846976→
  (Loop (yj (au.E α) CC a b) ((i:Int),((5-s:Nat):Int),eA d)=some (.inl ((partialIns aE a b s i d).2,eA (partialIns aE a b s i d).1)))∨
  (∃x y z,(partialIns aE a b s i d).2=false∧Loop (yj (au.E α) CC a b) ((i:Int),((5-s:Nat):Int),eA d)=some (.inr (x,y,z,eA (partialIns aE a b s i d).1))):=by
 intro s
 induction s with
 | zero=>
  intro i d hs5 hi XQ hb hs;refine .inr ⟨(i:Int),((5:Nat):Int),false,rfl,di ?_⟩;simp (disch:=omega) only[yj,Jo,un,wB,cond_false];rfl
 | succ s ih=>
  intro i d hs5 hi XQ hb hs;obtain ⟨t1,e1⟩:=aus (a:=a) (j:=5-(s+1)) hb hs _ i rfl (by omega) XQ;obtain ⟨q1,q2⟩:=auv (d:=d) _ i rfl XQ;rw[partialIns_succ];have f:yj (au.E α) CC a b ((i:Int),((5-(s+1):Nat):Int),eA d)=yj (au.E α) CC a b ((i:Int),((5-(s+1):Nat):Int),eA d):=rfl
  conv at f=>rhs;simp only[yj,Jo,un];rw[aM,br,e1];simp only[Option.bind_some,un]
  generalize scanSorted aE d b i=k at*
  by_cases h1:k=b
  ·rw[ah h1];left;refine di (f.trans ?_);rw[rv,br]
  ·rw[ag h1];by_cases h2:b-a<50
   ·rw[ah h2];left;refine di (f.trans ?_);rw[rv,cl,dM,aM,br]
   ·rw[ag h2];have z1:(swp d k (k-1)).size=d.size:=size_swp ..;have z2:(fixDown aE a k (swp d k (k-1))).size=d.size:=by
     unfold fixDown;split
     ·rw[ahD,z1]
     ·exact z1
    have z3:(fixUp aE b k (fixDown aE a k (swp d k (k-1)))).size=d.size:=by
     unfold fixUp;split
     ·rw[aut _ _ _ rfl,z2]
     ·exact z2
    obtain ⟨t2,e2⟩:=ahE (a:=a) (b:=b) (i:=k) (k:=5-(s+1)) (k-1) (swp d k (k-1)) (by omega) (by omega);obtain ⟨t4,e4⟩:=auu (a:=a) (b:=b) (i:=k) (k:=5-(s+1)) _ (k+1) (fixDown aE a k (swp d k (k-1))) rfl (by omega) (by omega) (by omega) (by omega);have e5:yj (au.E α) CC a b ((i:Int),((5-(s+1):Nat):Int),eA d)=some (.inl ((k:Int),((5-s:Nat):Int),eA (fixUp aE b k (fixDown aE a k (swp d k (k-1)))))):=by
     refine f.trans ?_;rw[rv,cl,dM,aM,cl];simp (disch:=omega) only[aM,e7,ah,jW,jX,Int.toNat_natCast,Option.bind_some,au.re,jD,lC,kq,ny,fB,qH,wrap64,DM,Pp];rw[show 5-(s+1)+1=5-s by omega];unfold fixDown at e4⊢;unfold fixUp;have c1:(((k-a:Nat):Int)≥2)=(k-a≥2):=propext (by omega);have c2:(((b-k:Nat):Int)≥2)=(b-k≥2):=propext (by omega);simp only[c1,c2];by_cases g1:k-a≥2
     ·by_cases g2:b-k≥2
      ·simp only[g1,g2,kR,e2,Option.bind_some,un] at e4⊢;rw[e4];rfl
      ·simp only[g1,g2,kR,mi,e2,Option.bind_some,un]
     ·by_cases g2:b-k≥2
      ·simp only[g1,g2,kR,mi] at e4⊢;rw[e4];rfl
      ·exact absurd (show b-k≥2 by omega) g2
    rw[fY e5];exact ih k _ (by omega) (by omega) (by omega) (by omega) (by omega)
theorem ahF {a b:Nat} {d:Array α} (jr:a<b) (hb:b≤d.size) (hs:d.size<1152921504606846976):
  CC ((au.E α).k 6) [.int .i64 (a:Int),.int .i64 (b:Int),.list (au.E α).T (eA d)]=
   some [.bool (partialInsertionSort aE d a b).2,.list (au.E α).T (eA (partialInsertionSort aE d a b).1)]:=by
 refine au.aho ?_;unfold XC;simp (disch:=omega) only[fB,wrap64];rcases auw (a:=a) (b:=b) 5 (a+1) d (az _) (by omega) (by omega) hb hs with h|⟨x,y,z,h0,h⟩
 ·rw[show ((5-5:Nat):Int)=0 from rfl] at h;rw[h];rfl
 ·rw[show ((5-5:Nat):Int)=0 from rfl] at h;rw[h];unfold partialInsertionSort;rw[h0];rfl
end Go.AM
set_option maxRecDepth 100000
namespace Go.AM
open Go.IntKind (wrap)
open Go.Proofs
def ahG (C:ae) (ma:Int):Option LV:=
 some [.int .u64 (wrap .u64 ((BitVec.ofInt (IntKind.bits .u64) (wrap .u64 ((BitVec.ofInt (IntKind.bits .u64) (wrap .u64 ((BitVec.ofInt (IntKind.bits .u64) ma ^^^ BitVec.ofInt (IntKind.bits .u64) (wrap .u64 (ma*2^(min (13:Int).toNat (IntKind.bits .u64))))).toNat)) ^^^ BitVec.ofInt (IntKind.bits .u64) (Int.fdiv (wrap .u64 ((BitVec.ofInt (IntKind.bits .u64) ma ^^^ BitVec.ofInt (IntKind.bits .u64) (wrap .u64 (ma*2^(min (13:Int).toNat (IntKind.bits .u64))))).toNat)) (2^(min (7:Int).toNat (IntKind.bits .u64))))).toNat)) ^^^ BitVec.ofInt (IntKind.bits .u64) (wrap .u64 ((wrap .u64 ((BitVec.ofInt (IntKind.bits .u64) (wrap .u64 ((BitVec.ofInt (IntKind.bits .u64) ma ^^^ BitVec.ofInt (IntKind.bits .u64) (wrap .u64 (ma*2^(min (13:Int).toNat (IntKind.bits .u64))))).toNat)) ^^^ BitVec.ofInt (IntKind.bits .u64) (Int.fdiv (wrap .u64 ((BitVec.ofInt (IntKind.bits .u64) ma ^^^ BitVec.ofInt (IntKind.bits .u64) (wrap .u64 (ma*2^(min (13:Int).toNat (IntKind.bits .u64))))).toNat)) (2^(min (7:Int).toNat (IntKind.bits .u64))))).toNat))*2^(min (17:Int).toNat (IntKind.bits .u64))))).toNat)),.int .u64 (wrap .u64 ((BitVec.ofInt (IntKind.bits .u64) (wrap .u64 ((BitVec.ofInt (IntKind.bits .u64) (wrap .u64 ((BitVec.ofInt (IntKind.bits .u64) ma ^^^ BitVec.ofInt (IntKind.bits .u64) (wrap .u64 (ma*2^(min (13:Int).toNat (IntKind.bits .u64))))).toNat)) ^^^ BitVec.ofInt (IntKind.bits .u64) (Int.fdiv (wrap .u64 ((BitVec.ofInt (IntKind.bits .u64) ma ^^^ BitVec.ofInt (IntKind.bits .u64) (wrap .u64 (ma*2^(min (13:Int).toNat (IntKind.bits .u64))))).toNat)) (2^(min (7:Int).toNat (IntKind.bits .u64))))).toNat)) ^^^ BitVec.ofInt (IntKind.bits .u64) (wrap .u64 ((wrap .u64 ((BitVec.ofInt (IntKind.bits .u64) (wrap .u64 ((BitVec.ofInt (IntKind.bits .u64) ma ^^^ BitVec.ofInt (IntKind.bits .u64) (wrap .u64 (ma*2^(min (13:Int).toNat (IntKind.bits .u64))))).toNat)) ^^^ BitVec.ofInt (IntKind.bits .u64) (Int.fdiv (wrap .u64 ((BitVec.ofInt (IntKind.bits .u64) ma ^^^ BitVec.ofInt (IntKind.bits .u64) (wrap .u64 (ma*2^(min (13:Int).toNat (IntKind.bits .u64))))).toNat)) (2^(min (7:Int).toNat (IntKind.bits .u64))))).toNat))*2^(min (17:Int).toNat (IntKind.bits .u64))))).toNat))]
theorem auy {ma:Int} {r:Option LV} (h:ahG CC ma=r):CC M4 [.int .u64 ma]=r:=bj (L:=bm) an h
def ahH (C:ae) (length:Int):Option LV:=
 (C Gv [.int .u64 (wrap .u64 length)]).bind fun r1=>
 bif decide (0≤((V.nth r1 0).toInt)) then
  some [.int .u64 (wrap .u64 (1*2^(min ((V.nth r1 0).toInt).toNat (IntKind.bits .u64))))]
 else none
theorem auz {length:Int} {r:Option LV} (h:ahH CC length=r):CC M3 [V.int .i64 length]=r:=bj (L:=bm) an h
def ahI (C:ae) (x:Int):Option LV:=
 (C Gy [.int .u64 x]).bind fun r1=>
 some [V.int .i64 ((V.nth r1 0).toInt)]
theorem auA {x:Int} {r:Option LV} (h:ahI CC x=r):CC Gv [.int .u64 x]=r:=bj (L:=bm) an h
def AV (C:ae) (x n:Int) (t4:Bool) {β:Type} (kr:(Int×Int)→Option β):Option β:=
 bif t4 then
  kr (Int.fdiv x (2^(min (32:Int).toNat (IntKind.bits .u64))),32)
 else
  kr (x,n)
def AW (C:ae) (x n:Int) (t8:Bool) {β:Type} (kr:(Int×Int)→Option β):Option β:=
 bif t8 then
  kr (Int.fdiv x (2^(min (16:Int).toNat (IntKind.bits .u64))),wrap .i64 (n+16))
 else
  kr (x,n)
def ahJ (C:ae):cE:=gG 79 Vs [[0,0]] (@AV C) (gG 143 Vt [[0,0]] (@AW C) bm)
theorem auB (C:ae):aW C (ahJ C) 115 (Cd 4 [1,0,1,0] [1,0,1,1] 115):=gF Vs [[0,0]] (@AV C) (aG an) (aG an)
theorem auC (C:ae):aW C (ahJ C) 115 (Cd 8 [1,1,0,1,0] [1,1,0,1,1] 115):=gF Vt [[0,0]] (@AW C) (aG an) (aG an)
def ahK (C:ae) (x:Int):Option LV:=
 AV C x 0 (decide (x≥4294967296)) (un fun (iy:Int) (cv:Int)=>
  AW C iy cv (decide (iy≥65536)) (un fun (ym:Int) (dL:Int)=>
   bif decide (ym≥256) then
    (bif decide (0≤(wrap .u8 (Int.fdiv ym (2^(min (8:Int).toNat (IntKind.bits .u64)))))) then (Cr[(wrap .u8 (Int.fdiv ym (2^(min (8:Int).toNat (IntKind.bits .u64)))):Int).toNat]?).map fun b=>V.int .u8 b.toNat else none).bind fun x5=>
    some [V.int .i64 (wrap .i64 ((wrap .i64 (dL+8))+(wrap .i64 x5.toInt)))]
   else
    (bif decide (0≤(wrap .u8 ym)) then (Cr[(wrap .u8 ym:Int).toNat]?).map fun b=>V.int .u8 b.toNat else none).bind fun x6=>
    some [V.int .i64 (wrap .i64 (dL+(wrap .i64 x6.toInt)))]))
theorem XR {x:Int} {r:Option LV} (h:ahK CC x=r):CC Gy [.int .u64 x]=r:=bj (aU (auB CC) (aU (auC CC) an)) h
end Go.AM
set_option maxRecDepth 100000
set_option maxHeartbeats 4000000
namespace Go.AM
open Go.IntKind (wrap)
open Go.Proofs Go.Sort
variable {α:Type} [au α]
theorem ahL (a b:α):(aE a b=false)= ¬(au.cmp a b<0):=by rw[←yl];simp
theorem DN:SWO (aE (α:=α)):=au.swo
variable [Inhabited α]
def Py:List UInt8:=Cr
theorem auD:(List.range 256).all (fun y=>match Py[y]? with|some b=>decide (b.toNat≤8)&&(Nat.beq y 0||(decide (1≤b.toNat)&&decide (2^(b.toNat-1)≤y)))|none=>false)=true:=by decide+kernel
theorem ahM {y:Nat} (h:y<256): ∃b,Py[y]? =some b∧b.toNat≤8∧(0<y→1≤b.toNat∧2^(b.toNat-1)≤y):=by
 have:=gC.1 auD y (jG.2 h);cases hb:Py[y]? with
 | none=>rw[hb] at this;cases this
 | some b=>
  rw[hb] at this;simp only[aK,Bool.or_eq_true,fl] at this;refine ⟨b,rfl,this.1,fun hy=> ?_⟩;rcases this.2 with h2|h2
  ·have:=D1 h2;omega
  ·exact h2
theorem XS {y t k:Nat} (h:2^(t-1)≤y/2^k) (ht:1≤t):2^(t+k-1)≤y:=by
 have e:t+k-1=(t-1)+k:=by omega
 rw[e,Nat.pow_add];exact kP (eV _ h) (Nat.div_mul_le_self _ _)
def DO (y n:Int):Option (List V):=
(bif decide ((y:Int)≥256) then
    (bif decide (0≤(wrap .u8 (Int.fdiv y (2^(min (8:Int).toNat (IntKind.bits .u64)))))) then (Cr[(wrap .u8 (Int.fdiv y (2^(min (8:Int).toNat (IntKind.bits .u64)))):Int).toNat]?).map fun b=>V.int .u8 b.toNat else none).bind fun x5=>
    some [V.int .i64 (wrap .i64 ((wrap .i64 (n+8))+(wrap .i64 x5.toInt)))]
   else
    (bif decide (0≤(wrap .u8 y)) then (Cr[(wrap .u8 y:Int).toNat]?).map fun b=>V.int .u8 b.toNat else none).bind fun x6=>
    some [V.int .i64 (wrap .i64 (n+(wrap .i64 x6.toInt)))])
theorem auE {x:Nat} (h:x<2^64): ∃L:Nat,CC Gy [.int .u64 (x:Int)]=some [.int .i64 (L:Int)]∧L≤64∧(0<x→1≤L∧2^(L-1)≤x):=by
 have last: ∀y n:Nat,y<65536→n≤48→∃t:Nat,
   DO (y:Int) (n:Int)=some [V.int .i64 ((n+t:Nat):Int)]∧t≤16∧(0<y→1≤t∧2^(t-1)≤y):=by
  intro y n hy hn;unfold DO;rw[show Cr=Py from rfl];by_cases h1:y≥256
  ·have e:Int.fdiv (y:Int) (2^(min (8:Int).toNat (IntKind.bits .u64)))=((y/2^8:Nat):Int):=GY (m:=8) (by omega);obtain ⟨b,hb,b1,b2⟩:=ahM (y:=y/2^8) (by omega);refine ⟨b.toNat+8,?_,by omega,fun _=> ?_⟩
   ·rw[e,aM,br,ab4 (by omega) (by omega),aM,br,Int.toNat_natCast,hb];simp only[Option.map_some,Option.bind_some,V.toInt_int];simp (disch:=omega) only[wrap64];congr 3;omega
   ·obtain ⟨b3,b4⟩:=b2 (by omega);exact ⟨by omega,XS b4 b3⟩
  ·obtain ⟨b,hb,b1,b2⟩:=ahM (y:=y) (by omega);refine ⟨b.toNat,?_,by omega,b2⟩;rw[aM,cl,ab4 (by omega) (by omega),aM,br,Int.toNat_natCast,hb];simp (disch:=omega) only[Option.map_some,Option.bind_some,V.toInt_int,wrap64];congr 3
 have mid: ∀y n:Nat,y<4294967296→n≤32→∃t:Nat,∀F:Int→Int→Option (List V),
   (∀y n:Nat,y<65536→n≤48→∃t:Nat,F (y:Int) (n:Int)=some [V.int .i64 ((n+t:Nat):Int)]∧t≤16∧(0<y→1≤t∧2^(t-1)≤y))→
   ∃t:Nat,AW CC (y:Int) (n:Int) (decide (((y:Int):Int)≥65536)) (un F)=some [V.int .i64 ((n+t:Nat):Int)]∧t≤32∧(0<y→1≤t∧2^(t-1)≤y):=by
  intro y n hy hn;refine ⟨0,fun F hF=> ?_⟩;unfold AW;by_cases h1:y≥65536
  ·have e:Int.fdiv (y:Int) (2^(min (16:Int).toNat (IntKind.bits .u64)))=((y/2^16:Nat):Int):=GY (m:=16) (by omega);rw[aM,br,e,dM];obtain ⟨t,h2,h3,h4⟩:=hF (y/2^16) (n+16) (by omega) (by omega);refine ⟨t+16,?_,by omega,fun _=> ?_⟩
   ·rw[show ((n:Int)+16)=((n+16:Nat):Int) by omega];simp only[un];rw[h2];congr 3;omega
   ·obtain ⟨b3,b4⟩:=h4 (by omega);exact ⟨by omega,XS b4 b3⟩
  ·rw[aM,cl];obtain ⟨t,h2,h3,h4⟩:=hF y n (by omega) (by omega);exact ⟨t,h2,by omega,h4⟩
 by_cases h1:x≥4294967296
 ·have e:Int.fdiv (x:Int) (2^(min (32:Int).toNat (IntKind.bits .u64)))=((x/2^32:Nat):Int):=GY (m:=32) (by omega);obtain ⟨_,hm⟩:=mid (x/2^32) 32 (by omega) (by omega);obtain ⟨t,h2,h3,h4⟩:=hm DO last;refine ⟨32+t,XR ?_,by omega,fun _=> ?_⟩
  ·show AV CC (x:Int) 0 (decide (((x:Int):Int)≥4294967296)) (un fun (iy:Int) (cv:Int)=>AW CC iy cv (decide ((iy:Int)≥65536)) (un DO))=_;unfold AV;rw[aM,br,e];exact h2
  ·obtain ⟨b3,b4⟩:=h4 (by omega);rw[Nat.add_comm 32 t];exact ⟨by omega,XS b4 b3⟩
 ·obtain ⟨_,hm⟩:=mid x 0 (by omega) (by omega);obtain ⟨t,h2,h3,h4⟩:=hm DO last;refine ⟨t,XR ?_,by omega,h4⟩;show AV CC (x:Int) 0 (decide (((x:Int):Int)≥4294967296)) (un fun (iy:Int) (cv:Int)=>AW CC iy cv (decide ((iy:Int)≥65536)) (un DO))=_;unfold AV;rw[aM,cl];rw[ed] at h2;exact h2
theorem ahN {x:Nat} (h:x<2^64): ∃L:Nat,CC Gv [.int .u64 (x:Int)]=some [.int .i64 (L:Int)]∧L≤64∧(0<x→1≤L∧2^(L-1)≤x):=by
 obtain ⟨L,h1,h2⟩:=auE h;refine ⟨L,auA ?_,h2⟩;unfold ahI;rw[h1];rfl
theorem auF {x:Nat} (h0:0<x) (h:x<1152921504606846976): ∃M:Nat,CC M3 [.int .i64 (x:Int)]=some [.int .u64 (M:Int)]∧1≤M∧M≤2*x:=by
 obtain ⟨L,h1,h2,h3⟩:=ahN (x:=x) (by omega);obtain ⟨h4,h5⟩:=h3 h0;have e:2^L=2*2^(L-1):=by
  obtain ⟨k,rfl⟩: ∃k,L=k+1:=⟨L-1,by omega⟩
  rw[Nat.pow_succ];simp only[Kn];omega
 have hL:L<64:=by
  by_cases hx:L<64
  ·exact hx
  ·have:2^63≤2^(L-1):=sa (by omega) (by omega);omega
 refine ⟨2^L,auz ?_,rX (by simp),by omega⟩;unfold ahH;rw[sY (A:=x) (by omega),h1];simp only[Option.bind_some,V.ct,V.toInt_int];rw[aM,br,Int.toNat_natCast,GX hL]
theorem auG (r:Int): ∃R:Nat,CC M4 [.int .u64 r]=some [.int .u64 (R:Int),.int .u64 (R:Int)]∧R<2^64:=by
 have h: ∀n:Int,∃R:Nat,wrap .u64 n=(R:Int)∧R<2^64:=fun n=>⟨(wrap .u64 n).toNat,by rw[wrap_u64];omega,by rw[wrap_u64];omega⟩
 obtain ⟨R,h1,h2⟩:=h _;exact ⟨R,auy (by unfold ahG;rw[h1]),h2⟩
theorem Pz {d:Array α} {i:Nat} (h:i<d.size):idx (eA d) (i:Int)=some (au.enc (d[i]!)):=by rw[Mn,jX h]
theorem XT {d:Array α} {a b:Nat} {s:Int} (ha:a<d.size) (hb:b<d.size): ∃(x y:Nat) (s':Int),CC ((au.E α).k 10) [.list (au.E α).T (eA d),.int .i64 (a:Int),.int .i64 (b:Int),.int .i64 s]=some [.int .i64 (x:Int),.int .i64 (y:Int),.int .i64 s']∧(x=a∧y=b∨x=b∧y=a):=by
 by_cases h:au.cmp d[b]! d[a]! <0
 ·refine ⟨b,a,_,au.XL (by unfold Ps;rw[Pz hb,Pz ha];simp only[Option.bind_some,au.re,au.cs,V.ct,V.toInt_int];rw[aM,ah h]),.inr ⟨rfl,rfl⟩⟩
 ·refine ⟨a,b,_,au.XL (by unfold Ps;rw[Pz hb,Pz ha];simp only[Option.bind_some,au.re,au.cs,V.ct,V.toInt_int];rw[aM,ag h]),.inl ⟨rfl,rfl⟩⟩
theorem XU {d:Array α} {a b c:Nat} {s:Int} (ha:a<d.size) (hb:b<d.size) (hc:c<d.size): ∃(m:Nat) (s':Int),CC ((au.E α).k 8) [.list (au.E α).T (eA d),.int .i64 (a:Int),.int .i64 (b:Int),.int .i64 (c:Int),.int .i64 s]=some [.int .i64 (m:Int),.int .i64 s']∧(m=a∨m=b∨m=c):=by
 obtain ⟨x1,y1,s1,e1,o1⟩:=XT (s:=s) ha hb;obtain ⟨x2,y2,s2,e2,o2⟩:=XT (d:=d) (a:=y1) (b:=c) (s:=s1) (by omega) hc;obtain ⟨x3,y3,s3,e3,o3⟩:=XT (d:=d) (a:=x1) (b:=x2) (s:=s2) (by omega) (by omega);refine ⟨y3,s3,au.ahq ?_,by omega⟩;unfold XF;rw[e1];simp only[Option.bind_some,V.ct,V.vM,V.toInt_int,mn,jZ];rw[e2];simp only[Option.bind_some,V.ct,V.vM,V.toInt_int,mn,jZ];rw[e3];rfl
theorem XV {d:Array α} {a:Nat} {s:Int} (h1:1≤a) (ha:a+1<d.size) (hs:d.size<1152921504606846976): ∃(m:Nat) (s':Int),CC ((au.E α).k 9) [.list (au.E α).T (eA d),.int .i64 (a:Int),.int .i64 s]=some [.int .i64 (m:Int),.int .i64 s']∧a≤m+1∧m≤a+1:=by
 obtain ⟨m,s',e,o⟩:=XU (d:=d) (a:=a-1) (b:=a) (c:=a+1) (s:=s) (by omega) (by omega) (by omega);refine ⟨m,s',au.ahr ?_,by omega,by omega⟩;unfold XG;simp (disch:=omega) only[ny,fB,wrap64];rw[e];rfl
theorem XW (n:Nat):Int.tdiv (n:Int) 4=((n/4:Nat):Int):=by
 have:=divC n 4;exact this
theorem mulC (k n:Nat):((k:Nat):Int)*(n:Int)=((k*n:Nat):Int):=(Int.natCast_mul k n).symm
theorem auH {d:Array α} {a b:Nat} (jr:a+12<b) (hb:b≤d.size) (hs:d.size<1152921504606846976): ∃(p:Nat) (h:Int),CC ((au.E α).k 11) [.list (au.E α).T (eA d),.int .i64 (a:Int),.int .i64 (b:Int)]=some [.int .i64 (p:Int),.int .i64 h]∧a≤p∧p<b:=by
 have fin: ∀(p:Nat) (s:Int),∃h:Int,(bif (s:Int)==0 then some [V.int .i64 (p:Int),V.int .i64 1] else bif (s:Int)==12 then some [V.int .i64 (p:Int),V.int .i64 2] else some [V.int .i64 (p:Int),V.int .i64 0])=some [V.int .i64 (p:Int),V.int .i64 h]:=by
  intro p s;rw[rv];split
  ·exact ⟨1,rfl⟩
  ·rw[rv];split
   ·exact ⟨2,rfl⟩
   ·exact ⟨0,rfl⟩
 have e1:wrap .i64 ((b:Int)-(a:Int))=((b-a:Nat):Int):=by rw[qH (by omega),dM]
 have e2:wrap .i64 (Int.tdiv ((b-a:Nat):Int) 4)=(((b-a)/4:Nat):Int):=by rw[XW,dM]
 have e3: ∀k:Nat,k≤3→wrap .i64 ((a:Int)+wrap .i64 ((k:Int)*(((b-a)/4:Nat):Int)))=((a+k*((b-a)/4):Nat):Int):=by
  intro k hk;have uh:k*((b-a)/4)≤3*((b-a)/4):=eV _ hk;simp (disch:=omega) only[mulC,wrap64,jE]
 have XX:=e3 1 (by omega);have yn:=e3 2 (by omega);have XY:=e3 3 (by omega);rw[show ((1:Nat):Int)=1 from rfl] at XX;rw[show ((2:Nat):Int)=2 from rfl] at yn;rw[show ((3:Nat):Int)=3 from rfl] at XY;by_cases h50:b-a≥50
 ·obtain ⟨m1,s1,q1,r1⟩:=XV (d:=d) (a:=a+1*((b-a)/4)) (s:=0) (by omega) (by omega) hs;obtain ⟨m2,s2,q2,r2⟩:=XV (d:=d) (a:=a+2*((b-a)/4)) (s:=s1) (by omega) (by omega) hs;obtain ⟨m3,s3,q3,r3⟩:=XV (d:=d) (a:=a+3*((b-a)/4)) (s:=s2) (by omega) (by omega) hs;obtain ⟨m,s,q,r⟩:=XU (d:=d) (a:=m1) (b:=m2) (c:=m3) (s:=s3) (by omega) (by omega) (by omega);obtain ⟨h,hf⟩:=fin m s;refine ⟨m,h,au.XM ?_,by omega,by omega⟩;unfold Pt Js Jr;rw[e1,e2,XX,yn,XY,rN (by omega),cond_true,rN (by omega),cond_true,q1];simp only[Option.bind_some,V.ct,V.vM,V.toInt_int,mn,jZ];rw[q2];simp only[Option.bind_some,V.ct,V.vM,V.toInt_int,mn,jZ];rw[q3];simp only[Option.bind_some,V.ct,V.vM,V.toInt_int,mn,jZ,un];rw[q];exact hf
 ·obtain ⟨m,s,q,r⟩:=XU (d:=d) (a:=a+1*((b-a)/4)) (b:=a+2*((b-a)/4)) (c:=a+3*((b-a)/4)) (s:=0) (by omega) (by omega) (by omega);obtain ⟨h,hf⟩:=fin m s;refine ⟨m,h,au.XM ?_,by omega,by omega⟩;unfold Pt Js Jr;rw[e1,e2,XX,yn,XY,rN (by omega),cond_true,wB (by omega),cond_false];simp only[un];rw[q];exact hf
theorem auI {a b M:Nat} (hM1:1≤M) (hM:M≤2*(b-a)) (h8:8≤b-a) (hB:b<1152921504606846976): ∀(n i:Nat) (d:Array α) (r:Int),a+2*((b-a)/4)+2-i=n→a≤i→b≤d.size→d.size<1152921504606846976→
  ∃x y z R,Loop (Pr (au.E α) CC a (b-a:Nat) M) ((i:Int),eA d,r)=some (x,y,eA R,z)∧PermIn a b d R:=by
 have e2:wrap .i64 (Int.tdiv ((b-a:Nat):Int) 4)=(((b-a)/4:Nat):Int):=by rw[XW,dM]
 have yn:wrap .i64 ((a:Int)+wrap .i64 (2*(((b-a)/4:Nat):Int)))=((a+2*((b-a)/4):Nat):Int):=by
  have:=mulC 2 ((b-a)/4);rw[show ((2:Nat):Int)=2 from rfl] at this;rw[this];simp (disch:=omega) only[wrap64,jE]
 intro n
 induction n with
 | zero=>
  intro i d r hn hi hb hs;refine ⟨(i:Int),false,r,d,di ?_,permIn_refl _ _ _⟩;simp only[Pr,Jq,un];rw[e2,yn,fB,dM,wB (by omega),cond_false]
 | succ n ih=>
  intro i d r hn hi hb hs;obtain ⟨R1,q1,q2⟩:=auG r;obtain ⟨o,ho,rh⟩: ∃o:Nat,(o=if R1&&&(M-1)≥b-a then (R1&&&(M-1))-(b-a) else R1&&&(M-1))∧o<b-a:=by
   refine ⟨_,rfl,?_⟩;have:R1&&&(M-1)≤M-1:=Nat.and_le_right;split<;>omega
  have hand:R1&&&(M-1)≤M-1:=Nat.and_le_right;have hP:=swp_permIn (α:=α) d a b i (a+o) hi (by omega) (by omega) (by omega) hb;obtain ⟨x,y,z,R,e,hR⟩:=ih (i+1) (swp d i (a+o)) (R1:Int) (by omega) (by omega) (by rw[size_swp];exact hb) (by rw[size_swp];exact hs);refine ⟨x,y,z,R,(fY ?_).trans e,permIn_trans _ _ _ a b hP hR⟩;simp only[Pr,Jq,un];rw[e2,yn,fB,wrap64 (x:=((a+2*((b-a)/4)+1:Nat):Int)) (by omega) (by omega),rN (by omega),cond_true,q1];simp only[Option.bind_some,V.ct,V.vM,V.toInt_int,mn,jZ];have e5:wrap .u64 ((M:Int)-1)=((M-1:Nat):Int):=by rw[ny hM1,sY (by omega)]
  rw[e5,u64_and q2 (by omega),wrap64 (x:=((R1&&&(M-1):Nat):Int)) (by omega) (by omega)];have fin: ∀k:Int,k=(o:Int)→(bif (decide (0≤(wrap .i64 ((a:Int)+k))))&&(decide ((wrap .i64 ((a:Int)+k))<((eA d).length:Int))) then
   ((eA d)[(wrap .i64 ((a:Int)+k):Int).toNat]?).bind fun x4=>
   bif (decide (0≤(i:Int)))&&(decide ((i:Int)<((eA d).length:Int))) then
    ((eA d)[((i:Int):Int).toNat]?).bind fun x5=>
    bif (decide (0≤(i:Int)))&&(decide ((i:Int)<((eA d).length:Int))) then
    ((eA d)[((i:Int):Int).toNat]?).bind fun x6=>
    bif (decide (0≤(wrap .i64 ((a:Int)+k))))&&(decide ((wrap .i64 ((a:Int)+k))<(((eA d).set (((i:Int):Int).toNat) (.agg ((au.E α).ex x4))).length:Int))) then
     (((eA d).set (((i:Int):Int).toNat) (.agg ((au.E α).ex x4)))[(wrap .i64 ((a:Int)+k):Int).toNat]?).bind fun x7=>
     some (.inl (wrap .i64 ((i:Int)+1),((eA d).set (((i:Int):Int).toNat) (.agg ((au.E α).ex x4))).set ((wrap .i64 ((a:Int)+k):Int).toNat) (.agg ((au.E α).ex x5)),(R1:Int)))
    else none
    else none
   else none
   else none:Option ((Int×List V×Int) ⊕ (Int×Bool×List V×Int)))=some (.inl (((i+1:Nat):Int),eA (swp d i (a+o)),(R1:Int))):=by
   intro k hk;subst hk;simp (disch:=omega) only[aM,e7,jO,ah,ag,wrap64,fB,jE,Int.toNat_natCast,Option.bind_some,jW,jX,au.re,jD,lC,kq,au.cs,V.ct,V.toInt_int,cond_true,cond_false];rfl
  unfold Pq;by_cases h:R1&&&(M-1)≥b-a
  ·rw[ah h] at ho;rw[rN (by omega),cond_true];exact fin _ (by rw[qH (by omega),dM];omega)
  ·rw[ag h] at ho;rw[wB (by omega),cond_false];exact fin _ (by omega)
theorem auJ {a b:Nat} {d:Array α} (jr:a+12<b) (hb:b≤d.size) (hs:d.size<1152921504606846976): ∃R,CC ((au.E α).k 7) [.int .i64 (a:Int),.int .i64 (b:Int),.list (au.E α).T (eA d)]=some [.list (au.E α).T (eA R)]∧PermIn a b d R:=by
 obtain ⟨M,q1,q2,q3⟩:=auF (x:=b-a) (by omega) (by omega);have e1:wrap .i64 ((b:Int)-(a:Int))=((b-a:Nat):Int):=by rw[qH (by omega),dM]
 have e2:wrap .i64 (Int.tdiv ((b-a:Nat):Int) 4)=(((b-a)/4:Nat):Int):=by rw[XW,dM]
 have yn:wrap .i64 ((a:Int)+wrap .i64 (2*(((b-a)/4:Nat):Int)))=((a+2*((b-a)/4):Nat):Int):=by
  have:=mulC 2 ((b-a)/4);rw[show ((2:Nat):Int)=2 from rfl] at this;rw[this];simp (disch:=omega) only[wrap64,jE]
 obtain ⟨x,y,z,R,e,hR⟩:=auI (a:=a) (b:=b) (M:=M) q2 q3 (by omega) (by omega) _ (a+2*((b-a)/4)-1) d (wrap .u64 ((b-a:Nat):Int)) rfl (by omega) hb hs;refine ⟨R,au.ahp ?_,hR⟩;unfold XE;rw[e1,aM,br,q1];simp only[Option.bind_some,V.ct,V.toInt_int];rw[e2,yn,ny (by omega),wrap64 (x:=((a+2*((b-a)/4)-1:Nat):Int)) (by omega) (by omega),e];rfl
def yo (E:SE) (C:ae) (a b':Int) (ib iG:Bool) (dW iH:Int) (ti:List V) {β:Type} (kn:(Int×Int×Int×Bool×Bool×(List V))→Option β):Option β:=
      bif decide ((a:Int)>0) then
       aq ti (wrap .i64 (a-1)) fun qG=>
       aq ti iH fun ko=>
        (C E.cmp (E.ex qG++E.ex ko)).bind fun fx=>
        bif !(decide ((((V.nth fx 0).toInt):Int)<0)) then
        (C (E.k 5) [.int .i64 a,.int .i64 b',.int .i64 iH,.list E.T ti]).bind fun nt=>
        kn ((V.nth nt 0).toInt,b',dW,ib,iG,(V.nth (nt.drop 1) 0).toList)
        else
        (C (E.k 4) [.int .i64 a,.int .i64 b',.int .i64 iH,.list E.T ti]).bind fun hG=>
        bif decide (((wrap .i64 (((V.nth hG 0).toInt)-a)):Int)<(wrap .i64 (b'-((V.nth hG 0).toInt)))) then
         (C (E.k 12) [.int .i64 a,.int .i64 ((V.nth hG 0).toInt),.int .i64 dW,.list E.T ((V.nth (hG.drop 2) 0).toList)]).bind fun DL=>
         kn (wrap .i64 (((V.nth hG 0).toInt)+1),b',dW,decide (((wrap .i64 (((V.nth hG 0).toInt)-a)):Int)≥(wrap .i64 (Int.tdiv (wrap .i64 (b'-a)) 8))),(V.nth (hG.drop 1) 0).toBool,(V.nth DL 0).toList)
        else
         (C (E.k 12) [.int .i64 (wrap .i64 (((V.nth hG 0).toInt)+1)),.int .i64 b',.int .i64 dW,.list E.T ((V.nth (hG.drop 2) 0).toList)]).bind fun gL=>
         kn (a,(V.nth hG 0).toInt,dW,decide (((wrap .i64 (b'-((V.nth hG 0).toInt))):Int)≥(wrap .i64 (Int.tdiv (wrap .i64 (b'-a)) 8))),(V.nth (hG.drop 1) 0).toBool,(V.nth gL 0).toList)
      else
       (C (E.k 4) [.int .i64 a,.int .i64 b',.int .i64 iH,.list E.T ti]).bind fun p7=>
       bif decide (((wrap .i64 (((V.nth p7 0).toInt)-a)):Int)<(wrap .i64 (b'-((V.nth p7 0).toInt)))) then
       (C (E.k 12) [.int .i64 a,.int .i64 ((V.nth p7 0).toInt),.int .i64 dW,.list E.T ((V.nth (p7.drop 2) 0).toList)]).bind fun wE=>
       kn (wrap .i64 (((V.nth p7 0).toInt)+1),b',dW,decide (((wrap .i64 (((V.nth p7 0).toInt)-a)):Int)≥(wrap .i64 (Int.tdiv (wrap .i64 (b'-a)) 8))),(V.nth (p7.drop 1) 0).toBool,(V.nth wE 0).toList)
       else
       (C (E.k 12) [.int .i64 (wrap .i64 (((V.nth p7 0).toInt)+1)),.int .i64 b',.int .i64 dW,.list E.T ((V.nth (p7.drop 2) 0).toList)]).bind fun ov=>
       kn (a,(V.nth p7 0).toInt,dW,decide (((wrap .i64 (b'-((V.nth p7 0).toInt))):Int)≥(wrap .i64 (Int.tdiv (wrap .i64 (b'-a)) 8))),(V.nth (p7.drop 1) 0).toBool,(V.nth ov 0).toList)
theorem PA (E:SE) (C:ae) (a b' kL:Int) (ib iG:Bool) (ak:List V) {β:Type} (kn:(Int×Int×Int×Bool×Bool×(List V))→Option β) (kr:(List V)→Option β):
  uS E C a b' kL ib iG ak kn kr=
 bif decide (((wrap .i64 (b'-a)):Int)≤12) then
  (C (E.k 0) [.int .i64 a,.int .i64 b',.list E.T ak]).bind fun r1=>
  kr ((V.nth r1 0).toList)
 else
  bif (kL:Int)==0 then
  (C (E.k 2) [.int .i64 a,.int .i64 b',.list E.T ak]).bind fun r2=>
  kr ((V.nth r2 0).toList)
  else
  DJ E C a b' kL ib iG (wrap .i64 (b'-a)) (!ib) ak (un fun (dW:Int) (Jt:List V)=>
   (C (E.k 11) [.list E.T Jt,.int .i64 a,.int .i64 b']).bind fun r6=>
   DK E C a b' dW ib iG (wrap .i64 (b'-a)) ((V.nth r6 0).toInt) ((V.nth (r6.drop 1) 0).toInt) ((((V.nth (r6.drop 1) 0).toInt):Int)==2) Jt (un fun (iH:Int)=>un fun (XI:Int) (tf:List V)=>
    bif ib then
     bif iG then
     qJ E C a b' dW ib iG (wrap .i64 (b'-a)) iH ((XI:Int)==1) tf (bN (un fun (Hh:Bool) (XZ:List V)=>
      kr XZ) (fun (ti:List V)=>yo E C a b' ib iG dW iH ti kn))
     else
     qJ E C a b' dW ib iG (wrap .i64 (b'-a)) iH false tf (bN (un fun (aqq:Bool) (auK:List V)=>
      kr auK) (fun (auL:List V)=>yo E C a b' ib iG dW iH auL kn))
    else
     qJ E C a b' dW ib iG (wrap .i64 (b'-a)) iH false tf (bN (un fun (auM:Bool) (auN:List V)=>
      kr auN) (fun (auO:List V)=>yo E C a b' ib iG dW iH auO kn)))):=rfl
section
variable {a b:Nat} {lim:Int} {wb wp:Bool}
theorem auP {d:Array α} (jr:a+12<b) (hb:b≤d.size) (hs:d.size<1152921504606846976) (len:Int) (t:Bool): ∃(l1:Int) (d1:Array α),PermIn a b d d1∧∀(β:Type) (kr:(Int×List V)→Option β),DJ (au.E α) CC a b lim wb wp len t (eA d) kr=kr (l1,eA d1):=by
 cases t with
 | true=>
  obtain ⟨R,e,hR⟩:=auJ jr hb hs;refine ⟨wrap .i64 (lim-1),R,hR,fun β kr=> ?_⟩;unfold DJ;rw[cond_true,e];rfl
 | false=>exact ⟨lim,d,permIn_refl _ _ _,fun β kr=>rfl⟩
theorem auQ {d:Array α} (jr:a+12<b) (hb:b≤d.size) (hs:d.size<1152921504606846976) (len h:Int) (t:Bool) {p:Nat} (h1:a≤p) (h2:p<b): ∃(p2:Nat) (h2:Int) (d1:Array α),a≤p2∧p2<b∧PermIn a b d d1∧∀(β:Type) (kr:(Int×Int×List V)→Option β),DK (au.E α) CC a b lim wb wp len p h t (eA d) kr=kr ((p2:Int),h2,eA d1):=by
 cases t with
 | true=>
  refine ⟨b-1-(p-a),1,reverseRange d a b,by omega,by omega,reverseRange_holds d a b (by omega) hb,fun β kr=> ?_⟩;unfold DK;rw[cond_true,auk (by omega) hb hs];simp (disch:=omega) only[Option.bind_some,V.ct,V.ki,ny,qH,wrap64]
 | false=>exact ⟨p,h,d,h1,h2,permIn_refl _ _ _,fun β kr=>rfl⟩
theorem auR {d:Array α} (jr:a+12<b) (hb:b≤d.size) (hs:d.size<1152921504606846976) (hB:Below aE a b d) (len p:Int) (t:Bool): ∃d1:Array α,PermIn a b d d1∧
  ((∀(β:Type) (kr:((Bool×List V) ⊕ List V)→Option β),qJ (au.E α) CC a b lim wb wp len p t (eA d) kr=kr (.inr (eA d1)))∨
  (SortedIn aE a b d1∧∀(β:Type) (kr:((Bool×List V) ⊕ List V)→Option β),qJ (au.E α) CC a b lim wb wp len p t (eA d) kr=kr (.inl (true,eA d1)))):=by
 cases t with
 | true=>
  have hp:=partialInsertionSort_holds (lt:=aE) DN d a b (by omega) hb hB;refine ⟨_,hp.1,?_⟩;cases h:(partialInsertionSort aE d a b).2 with
  | true=>
   refine .inr ⟨hp.2 h,fun β kr=> ?_⟩;unfold qJ;rw[cond_true,ahF (by omega) hb hs,h];rfl
  | false=>
   refine .inl fun β kr=> ?_;unfold qJ;rw[cond_true,ahF (by omega) hb hs,h];rfl
 | false=>exact ⟨d,permIn_refl _ _ _,.inl fun β kr=>rfl⟩
end
def PB (a b:Nat) (d:Array α):Prop:= ∀(lim:Int) (wb wp:Bool),∃R,Loop (ahh (au.E α) CC) ((a:Int),(b:Int),lim,wb,wp,eA d)=some (eA R)∧PermIn a b d R∧SortedIn aE a b R
theorem PB.call {a b:Nat} {d:Array α} (h:PB a b d) (lim:Int): ∃R,CC ((au.E α).k 12) [.int .i64 (a:Int),.int .i64 (b:Int),.int .i64 lim,.list (au.E α).T (eA d)]=some [.list (au.E α).T (eA R)]∧PermIn a b d R∧SortedIn aE a b R:=by
 obtain ⟨R,e,h1,h2⟩:=h lim true true;refine ⟨R,au.ahs ?_,h1,h2⟩;unfold XJ;rw[e];rfl
theorem auS {a b p:Nat} {d:Array α} (jr:a+12<b) (hb:b≤d.size) (hs:d.size<1152921504606846976) (hB:Below aE a b d) (h1:a≤p) (h2:p<b)
  (ih: ∀(a2 b2:Nat) (d2:Array α),b2-a2<b-a→a2≤b2→b2≤d2.size→d2.size<1152921504606846976→Below aE a2 b2 d2→PB a2 b2 d2) (wb wp:Bool) (lim:Int):
  ∃(a2 b2:Nat) (AX AY:Bool) (d2:Array α),b2-a2<b-a∧a2≤b2∧b2≤d2.size∧d2.size<1152921504606846976∧Below aE a2 b2 d2∧
   (∀R,PermIn a2 b2 d2 R→SortedIn aE a2 b2 R→PermIn a b d R∧SortedIn aE a b R)∧
   ∀(β:Type) (kn:(Int×Int×Int×Bool×Bool×(List V))→Option β),yo (au.E α) CC a b wb wp lim p (eA d) kn=kn ((a2:Int),(b2:Int),lim,AX,AY,eA d2):=by
 have part: ∃(a2 b2:Nat) (AX AY:Bool) (d2:Array α),b2-a2<b-a∧a2≤b2∧b2≤d2.size∧d2.size<1152921504606846976∧Below aE a2 b2 d2∧
   (∀R,PermIn a2 b2 d2 R→SortedIn aE a2 b2 R→PermIn a b d R∧SortedIn aE a b R)∧
   ∀(β:Type) (kn:(Int×Int×Int×Bool×Bool×(List V))→Option β),
    ((CC ((au.E α).k 4) [.int .i64 (a:Int),.int .i64 (b:Int),.int .i64 (p:Int),.list (au.E α).T (eA d)]).bind fun hG=>
        bif decide (((wrap .i64 (((V.nth hG 0).toInt)-(a:Int))):Int)<(wrap .i64 ((b:Int)-((V.nth hG 0).toInt)))) then
         (CC ((au.E α).k 12) [.int .i64 (a:Int),.int .i64 ((V.nth hG 0).toInt),.int .i64 lim,.list (au.E α).T ((V.nth (hG.drop 2) 0).toList)]).bind fun DL=>
         kn (wrap .i64 (((V.nth hG 0).toInt)+1),(b:Int),lim,decide (((wrap .i64 (((V.nth hG 0).toInt)-(a:Int))):Int)≥(wrap .i64 (Int.tdiv (wrap .i64 ((b:Int)-(a:Int))) 8))),(V.nth (hG.drop 1) 0).toBool,(V.nth DL 0).toList)
        else
         (CC ((au.E α).k 12) [.int .i64 (wrap .i64 (((V.nth hG 0).toInt)+1)),.int .i64 (b:Int),.int .i64 lim,.list (au.E α).T ((V.nth (hG.drop 2) 0).toList)]).bind fun gL=>
         kn ((a:Int),(V.nth hG 0).toInt,lim,decide (((wrap .i64 ((b:Int)-((V.nth hG 0).toInt))):Int)≥(wrap .i64 (Int.tdiv (wrap .i64 ((b:Int)-(a:Int))) 8))),(V.nth (hG.drop 1) 0).toBool,(V.nth gL 0).toList))=kn ((a2:Int),(b2:Int),lim,AX,AY,eA d2):=by
  obtain ⟨mid,ap,d4,hx⟩: ∃mid ap d4,partition aE d a b p=(mid,ap,d4):=⟨_,_,_,rfl⟩
  obtain ⟨g1,g2,tm,hBa,hBr,auT,auU⟩:=round_part DN (partition_holds aE) h1 h2 hb hB hx;have hc:=aup (a:=a) (b:=b) (pivot:=p) (d:=d) h2 (by omega) hb hs;rw[hx] at hc;by_cases hl:mid-a<b-mid
  ·obtain ⟨L,e,l1,l2⟩:=(ih a mid d4 (by omega) g1 (by rw[tm];omega) (by rw[tm];exact hs) hBa).call lim;obtain ⟨X0,rK⟩:=auT _ l1 l2;refine ⟨mid+1,b,decide (((wrap .i64 ((mid:Int)-(a:Int))):Int)≥(wrap .i64 (Int.tdiv (wrap .i64 ((b:Int)-(a:Int))) 8))),ap,L,by omega,by omega,by rw[l1.1,tm];exact hb,by rw[l1.1,tm];exact hs,X0,rK,fun β kn=> ?_⟩
   ·rw[hc];simp only[Option.bind_some,V.ct,V.vM,V.toInt_int,V.mC,V.ki,mn,jZ];rw[aM,ah (by rw[qH g1,qH (by omega),wrap64 (by omega) (by omega),wrap64 (by omega) (by omega)];omega),e];simp only[Option.bind_some,V.ct,V.ki];rw[fB,wrap64 (x:=((mid+1:Nat):Int)) (by omega) (by omega)]
  ·obtain ⟨L,e,l1,l2⟩:=(ih (mid+1) b d4 (by omega) (by omega) (by rw[tm];exact hb) (by rw[tm];exact hs) hBr).call lim;obtain ⟨X0,rK⟩:=auU _ l1 l2;refine ⟨a,mid,decide (((wrap .i64 ((b:Int)-(mid:Int))):Int)≥(wrap .i64 (Int.tdiv (wrap .i64 ((b:Int)-(a:Int))) 8))),ap,L,by omega,by omega,by rw[l1.1,tm];omega,by rw[l1.1,tm];exact hs,X0,rK,fun β kn=> ?_⟩
   ·rw[hc];simp only[Option.bind_some,V.ct,V.vM,V.toInt_int,V.mC,V.ki,mn,jZ];rw[aM,ag (by rw[qH g1,qH (by omega),wrap64 (by omega) (by omega),wrap64 (by omega) (by omega)];omega),fB,wrap64 (x:=((mid+1:Nat):Int)) (by omega) (by omega),e];simp only[Option.bind_some,V.ct,V.ki]
 by_cases ha:0<a
 ·by_cases hc:au.cmp d[a-1]! d[p]! <0
  ·obtain ⟨a2,b2,AX,AY,d2,q1,q2,q3,q4,q5,q6,q7⟩:=part;refine ⟨a2,b2,AX,AY,d2,q1,q2,q3,q4,q5,q6,fun β kn=> ?_⟩;rw[←q7 β kn];unfold yo;rw[aM,br,ny ha,dM,ow (i:=a-1),ow (i:=p)];simp only[au.re,au.cs,Option.bind_some,V.ct,V.toInt_int];rw[jO,aM,ah hc]
  ·obtain ⟨mid,d4,hx⟩: ∃mid d4,partitionEqual aE d a b p=(mid,d4):=⟨_,_,rfl⟩
   obtain ⟨g1,lb,tm,hB4,rK⟩:=round_eq DN (partitionEqual_holds aE) ha h1 h2 hb hB (by rw[ahL];exact hc) hx;have he:=aur (a:=a) (b:=b) (pivot:=p) (d:=d) h2 (by omega) hb hs;rw[hx] at he;refine ⟨mid,b,wb,wp,d4,by omega,lb,by rw[tm];exact hb,by rw[tm];exact hs,hB4,rK,fun β kn=> ?_⟩;unfold yo;rw[aM,br,ny ha,dM,ow (i:=a-1),ow (i:=p)];simp only[au.re,au.cs,Option.bind_some,V.ct,V.toInt_int];rw[jO,aM,ag hc,he];rfl
 ·obtain ⟨a2,b2,AX,AY,d2,q1,q2,q3,q4,q5,q6,q7⟩:=part;refine ⟨a2,b2,AX,AY,d2,q1,q2,q3,q4,q5,q6,fun β kn=> ?_⟩;rw[←q7 β kn];unfold yo;rw[aM,cl]
theorem auV: ∀(n a b:Nat) (d:Array α),b-a≤n→a≤b→b≤d.size→d.size<1152921504606846976→Below aE a b d→PB a b d:=by
 intro n
 induction n with
 | zero=>
  intro a b d hn jr hb hs hB lim wb wp;have hi:=insertionSort_holds (lt:=aE) DN d a b jr hb;refine ⟨_,di ?_,hi⟩;show uS (au.E α) CC a b lim wb wp (eA d) (fun y=>some (Sum.inl y)) (fun r=>some (Sum.inr r))=_;rw[PA,aM,ah (by rw[qH jr,wrap64 (by omega) (by omega)];omega),ahv hb hs (by omega)];rfl
 | succ n ih=>
  intro a b d hn jr hb hs hB lim wb wp;by_cases h12:b-a≤12
  ·have hi:=insertionSort_holds (lt:=aE) DN d a b jr hb;refine ⟨_,di ?_,hi⟩;show uS (au.E α) CC a b lim wb wp (eA d) (fun y=>some (Sum.inl y)) (fun r=>some (Sum.inr r))=_;rw[PA,aM,ah (by rw[qH jr,wrap64 (by omega) (by omega)];omega),ahv hb hs (by omega)];rfl
  ·have Jv:a+12<b:=by omega
   have zA: ¬(((wrap .i64 ((b:Int)-(a:Int))):Int)≤12):=by rw[qH jr,dM];omega
   by_cases h0:lim=0
   ·have hi:=heapSort_holds (lt:=aE) DN d a b jr hb;refine ⟨_,di ?_,hi⟩;show uS (au.E α) CC a b lim wb wp (eA d) (fun y=>some (Sum.inl y)) (fun r=>some (Sum.inr r))=_;rw[PA,aM,ag zA,rv,ah h0,aui (by omega) hb hs];rfl
   ·obtain ⟨l1,d1,s1,k1⟩:=auP (lim:=lim) (wb:=wb) (wp:=wp) Jv hb hs (wrap .i64 ((b:Int)-(a:Int))) (!wb);have b1:b≤d1.size:=by rw[s1.1];exact hb
    have z1:d1.size<1152921504606846976:=by rw[s1.1];exact hs
    obtain ⟨p,h,c1,p1,p2⟩:=auH Jv b1 z1;obtain ⟨q,h2,d2,q1,q2,s2,k2⟩:=auQ (lim:=l1) (wb:=wb) (wp:=wp) Jv b1 z1 (wrap .i64 ((b:Int)-(a:Int))) h (h==2) p1 p2;have b2:b≤d2.size:=by rw[s2.1];exact b1
    have z2:d2.size<1152921504606846976:=by rw[s2.1];exact z1
    have B2:Below aE a b d2:=(hB.perm hb s1).perm b1 s2;obtain ⟨t,ht⟩: ∃t:Bool,t=(bif wb then (bif wp then (h2==1) else false) else false):=⟨_,rfl⟩
    obtain ⟨d3,s3,k3⟩:=auR (lim:=l1) (wb:=wb) (wp:=wp) Jv b2 z2 B2 (wrap .i64 ((b:Int)-(a:Int))) (q:Int) t;have b3:b≤d3.size:=by rw[s3.1];exact b2
    have z3:d3.size<1152921504606846976:=by rw[s3.1];exact z2
    have B3:Below aE a b d3:=B2.perm b2 s3;have P3:PermIn a b d d3:=permIn_trans _ _ _ a b (permIn_trans _ _ _ a b s1 s2) s3;have step: ∀(β:Type) (kn:(Int×Int×Int×Bool×Bool×(List V))→Option β) (kr:(List V)→Option β),uS (au.E α) CC a b lim wb wp (eA d) kn kr=
      qJ (au.E α) CC a b l1 wb wp (wrap .i64 ((b:Int)-(a:Int))) (q:Int) t (eA d2) (bN (un fun (Hh:Bool) (XZ:List V)=>kr XZ) (fun (ti:List V)=>yo (au.E α) CC a b wb wp l1 q ti kn)):=by
     intro β kn kr;rw[PA,aM,ag zA,rv,ag h0,k1];simp only[un];rw[c1];simp only[Option.bind_some,V.ct,V.vM,V.toInt_int,mn,jZ];rw[k2];simp only[un];rw[ht];cases wb
     ·rfl
     ·cases wp
      ·rfl
      ·rfl
    rcases k3 with k3|⟨k3s,k3⟩
    ·obtain ⟨a4,b4,wb4,wp4,d4,r1,r2,r3,r4,r5,r6,r7⟩:=auS Jv b3 z3 B3 q1 q2 (fun a2 b2 d2 bf h1 h2 h3 h4=>ih a2 b2 d2 (by omega) h1 h2 h3 h4) wb wp l1;obtain ⟨R,e,e1,e2⟩:=ih a4 b4 d4 (by omega) r2 r3 r4 r5 l1 wb4 wp4;obtain ⟨f1,f2⟩:=r6 R e1 e2;refine ⟨R,(fY ?_).trans e,permIn_trans _ _ _ a b P3 f1,f2⟩;show uS (au.E α) CC a b lim wb wp (eA d) (fun y=>some (Sum.inl y)) (fun r=>some (Sum.inr r))=_;rw[step,k3];exact r7 _ (fun y=>some (Sum.inl y))
    ·refine ⟨d3,di ?_,P3,k3s⟩;show uS (au.E α) CC a b lim wb wp (eA d) (fun y=>some (Sum.inl y)) (fun r=>some (Sum.inr r))=_;rw[step,k3];rfl
theorem auW (l:List α) (hs:l.length<1152921504606846976): ∃R:List α,CC ((au.E α).k 13) [.list (au.E α).T (l.map au.enc)]=some [.list (au.E α).T (R.map au.enc)]∧R.Perm l∧R.Pairwise (fun x y=> ¬au.cmp y x<0):=by
 obtain ⟨L,e1,_⟩:=ahN (x:=l.length) (by omega);obtain ⟨R,e2,h1,h2⟩:=(auV _ 0 l.toArray.size l.toArray (az _) (nH _) (az _) (by simpa using hs) (.inl rfl)).call (L:Int);have bw:R.size=l.length:=by rw[h1.1];simp
 refine ⟨R.toList,au.aht ?_,?_,?_⟩
 ·unfold XK;rw[cH,sY (A:=l.length) (by omega),e1];simp only[Option.bind_some,V.ct,V.toInt_int];have e3:eA l.toArray=l.map au.enc:=by simp[uQ]
  rw[e3,show ((l.toArray.size:Nat):Int)=(l.length:Int) by simp,show ((0:Nat):Int)=0 from rfl] at e2;rw[e2];rfl
 ·have h3:=h1.2.2;rw[show l.toArray.size=R.size from h1.1.symm,Array.extract_size,h1.1,Array.extract_size] at h3;exact h3
 ·rw[Bk];intro i j hi hj Rv;have h3:=h2 i j (nH _) Rv (by simpa[←bw] using hj);rw[ahL] at h3;have eT:i<R.size:=by simpa using hi
  have jM:j<R.size:=by simpa using hj
  rw[getElem!_pos R i eT,getElem!_pos R j jM] at h3;simpa using h3
end Go.AM
set_option maxRecDepth 100000
namespace Go.AM
open Go.IntKind (wrap)
open Go.Proofs
def ahO (C:ae) (wu wv wx wy wz wA:Int):Option LV:=
 (C vX [V.int .i64 wu,V.int .i64 wy]).bind fun r1=>
 (C vX [V.int .i64 wv,V.int .i64 wz]).bind fun r2=>
 (C vX [V.int .i64 wx,V.int .i64 wA]).bind fun r3=>
 (C Gr [.list aF ([V.int .i64 ((V.nth r1 0).toInt),V.int .i64 ((V.nth r2 0).toInt),V.int .i64 ((V.nth r3 0).toInt)]:LV)]).bind fun r4=>
 some [V.int .i64 ((V.nth r4 0).toInt)]
theorem auX {wu wv wx wy wz wA:Int} {r:Option LV} (h:ahO CC wu wv wx wy wz wA=r):CC cR [V.int .i64 wu,V.int .i64 wv,V.int .i64 wx,V.int .i64 wy,V.int .i64 wz,V.int .i64 wA]=r:=bj (L:=bm) an h
theorem auY (a b:Ed):CC cR [.int .i64 a.f,.int .i64 a.l,.int .i64 a.t,.int .i64 b.f,.int .i64 b.l,.int .i64 b.t]=some [.int .i64 (rM a b)]:=by
 refine auX ?_;unfold ahO;refine bs (Dj _ _) ?_;refine bs (Dj _ _) ?_;refine bs (Dj _ _) ?_;refine bs (agC _ _ _) ?_;rfl
def cI:SE:=⟨bt,cR,fun x1=>[V.int .i64 ((x1.cell 0).toInt),V.int .i64 ((x1.cell 1).toInt),V.int .i64 ((x1.cell 2).toInt)],fun k=>[SF,SP,SG,SJ,SN,SM,SK,SH,SR,SQ,SS,SI,SD,Gq].getD k 0⟩
def ahP (C:ae):cE:=bG 65 U6 [EQ,EQ,EQ,H1,H1] [[1,2,3,0,0,0]] (@Dt cI C) (bG 17 U7 [EQ,EQ,H1,H1] [[1,2,0,0,0]] (@I5 cI C) bm)
theorem auZ (C:ae):aW C (ahP C) 106 (Lp [1,0,0,1,0,0,1,0,0] 106):=bE U6 [EQ,EQ,EQ,H1,H1] [[1,2,3,0,0,0]] (@Dt cI C) (aG an)
theorem au0 (C:ae):aW C (ahP C) 106 (Lp [1,0,0] 106):=bE U7 [EQ,EQ,H1,H1] [[1,2,0,0,0]] (@I5 cI C) (aG (aU (auZ C) an))
theorem au1 {a b':Int} {ak:LV} {r:Option LV} (h:Xu cI CC a b' ak=r):CC SF [V.int .i64 a,V.int .i64 b',.list bt ak]=r:=bj (aU (au0 CC) an) h
def ahQ (C:ae):cE:=gG 655 Vz [[1,2,3,0,6]] (@AP cI C) (bG 17 VA [EQ,EQ,H1,H1] [[1,2,0,0,0,0],[1,2,0,0,0,0]] (@yh cI C) bm)
theorem au2 (C:ae):aW C (ahQ C) 125 (Cd 40 [1,0,0,0,1,1,0,1,0] [1,0,0,0,1,1,0,1,1] 125):=gF Vz [[1,2,3,0,6]] (@AP cI C) (aG an) (aG an)
theorem au3 (C:ae):aW C (ahQ C) 125 (Lp [1,0,0] 125):=bE VA [EQ,EQ,H1,H1] [[1,2,0,0,0,0],[1,2,0,0,0,0]] (@yh cI C) (aG (aU (au2 C) an))
theorem au4 {lo hi first:Int} {ak:LV} {r:Option LV} (h:Xw cI CC lo hi first ak=r):CC SP [V.int .i64 lo,V.int .i64 hi,V.int .i64 first,.list bt ak]=r:=bj (aU (au3 CC) an) h
def ahR (C:ae):cE:=bG 65 U8 [EQ,EQ,EQ,H1,H1] [[1,2,3,0,0,0]] (@I6 cI C) (bG 129 U9 [EQ,EQ,H1,H1] [[1,2,0,0,0]] (@I7 cI C) bm)
theorem au5 (C:ae):aW C (ahR C) 107 (Lp [1,1,1,0,1,0,0] 107):=bE U8 [EQ,EQ,EQ,H1,H1] [[1,2,3,0,0,0]] (@I6 cI C) (aG an)
theorem au6 (C:ae):aW C (ahR C) 107 (Lp [1,1,1,1,1,0,0] 107):=bE U9 [EQ,EQ,H1,H1] [[1,2,0,0,0]] (@I7 cI C) (aG an)
theorem au7 {a b':Int} {ak:LV} {r:Option LV} (h:Xx cI CC a b' ak=r):CC SG [V.int .i64 a,V.int .i64 b',.list bt ak]=r:=bj (aU (au5 CC) (aU (au6 CC) an)) h
def au8 (C:ae):cE:=bG 33 Ve [H1,H1,H1] [[0,0,0,0]] (@Dx cI C) bm
theorem au9 (C:ae):aW C (au8 C) 110 (Lp [1,1,0,0] 110):=bE Ve [H1,H1,H1] [[0,0,0,0]] (@Dx cI C) (aG an)
theorem ava {a b':Int} {ak:LV} {r:Option LV} (h:Xy cI CC a b' ak=r):CC SJ [V.int .i64 a,V.int .i64 b',.list bt ak]=r:=bj (aU (au9 CC) an) h
def Jw (C:ae):cE:=bG 49 Vn [EQ,H1,EQ,EQ] [[1,0,3,0,4]] (@I9 cI C) (bG 81 Vo [EQ,EQ,H1,EQ] [[1,2,0,0,4]] (@Dy cI C) (bG 209 Vp [EQ,H1,EQ,EQ] [[1,0,3,0,4]] (@Jb cI C) (bG 241 Vq [EQ,EQ,H1,EQ] [[1,2,0,0,4]] (@DA cI C) (bG 210 Vr [EQ,H1,H1,H1] [[1,0,0,0,0]] (@Jd cI C) bm))))
theorem avb (C:ae):aW C (Jw C) 113 (Lp [1,1,1,0,0,0] 113):=bE Vn [EQ,H1,EQ,EQ] [[1,0,3,0,4]] (@I9 cI C) (aG an)
theorem avc (C:ae):aW C (Jw C) 113 (Lp [1,1,1,1,0,0,0] 113):=bE Vo [EQ,EQ,H1,EQ] [[1,2,0,0,4]] (@Dy cI C) (aG an)
theorem avd (C:ae):aW C (Jw C) 113 (Lp [1,1,1,1,1,1,1,1,1,0,0,0,0,0,0,0] 113):=bE Vp [EQ,H1,EQ,EQ] [[1,0,3,0,4]] (@Jb cI C) (aG an)
theorem ave (C:ae):aW C (Jw C) 113 (Lp [1,1,1,1,1,1,1,1,1,0,0,0,0,1,0,0,0] 113):=bE Vq [EQ,EQ,H1,EQ] [[1,2,0,0,4]] (@DA cI C) (aG an)
theorem avf (C:ae):aW C (Jw C) 113 (Lp [1,1,1,1,1,1,1,1,1,0,0,0] 113):=bE Vr [EQ,H1,H1,H1] [[1,0,0,0,0]] (@Jd cI C) (aG (aU (avd C) (aU (ave C) an)))
theorem avg {a b' pivot:Int} {ak:LV} {r:Option LV} (h:Xz cI CC a b' pivot ak=r):CC SN [V.int .i64 a,V.int .i64 b',V.int .i64 pivot,.list bt ak]=r:=bj (aU (avb CC) (aU (avc CC) (aU (avf CC) an))) h
def X1 (C:ae):cE:=bG 49 Vk [EQ,H1,EQ,EQ] [[1,0,3,0,4]] (@Jf cI C) (bG 81 Vl [EQ,EQ,H1,EQ] [[1,2,0,0,4]] (@DF cI C) (bG 50 Vm [EQ,H1,H1,H1] [[1,0,0,0,0]] (@Jh cI C) bm))
theorem avh (C:ae):aW C (X1 C) 112 (Lp [1,1,1,0,0,0,0,0,0,0] 112):=bE Vk [EQ,H1,EQ,EQ] [[1,0,3,0,4]] (@Jf cI C) (aG an)
theorem avi (C:ae):aW C (X1 C) 112 (Lp [1,1,1,0,0,0,0,1,0,0,0] 112):=bE Vl [EQ,EQ,H1,EQ] [[1,2,0,0,4]] (@DF cI C) (aG an)
theorem avj (C:ae):aW C (X1 C) 112 (Lp [1,1,1,0,0,0] 112):=bE Vm [EQ,H1,H1,H1] [[1,0,0,0,0]] (@Jh cI C) (aG (aU (avh C) (aU (avi C) an)))
theorem avk {a b' pivot:Int} {ak:LV} {r:Option LV} (h:XB cI CC a b' pivot ak=r):CC SM [V.int .i64 a,V.int .i64 b',V.int .i64 pivot,.list bt ak]=r:=bj (aU (avj CC) an) h
def Jx (C:ae):cE:=bG 81 Vf [EQ,EQ,H1,EQ,EQ] [[1,2,0,4,0,5]] (@Ji cI C) (bG 225 Vg [EQ,EQ,EQ,EQ,H1,H1] [[1,2,3,4,0,0]] (@Jk cI C) (gG 1055 Vh [[1,2,3,4,0]] (@Pp cI C) (bG 321 Vi [EQ,EQ,EQ,EQ,H1,H1] [[1,2,3,4,0,0]] (@Jm cI C) (bG 49 Vj [EQ,EQ,H1,H1,H1] [[0,0],[1,2,0,0,0,0]] (@Jo cI C) bm))))
theorem avl (C:ae):aW C (Jx C) 111 (Lp [1,1,0,1,0,0,1,0,0,0,0,0] 111):=bE Vf [EQ,EQ,H1,EQ,EQ] [[1,2,0,4,0,5]] (@Ji cI C) (aG an)
theorem avm (C:ae):aW C (Jx C) 111 (Lp [1,1,0,1,0,0,1,0,0,1,1,1,1,0,1,0,1,0,0] 111):=bE Vg [EQ,EQ,EQ,EQ,H1,H1] [[1,2,3,4,0,0]] (@Jk cI C) (aG an)
theorem avn (C:ae):aW C (Jx C) 111 (Cd 65 [1,1,0,1,0,0,1,0,0,1,1,1,1,0,1,0] [1,1,0,1,0,0,1,0,0,1,1,1,1,0,1,1] 111):=gF Vh [[1,2,3,4,0]] (@Pp cI C) (aG (aU (avm C) an)) (aG an)
theorem avo (C:ae):aW C (Jx C) 111 (Lp [1,1,0,1,0,0,1,0,0,1,1,1,1,1,1,0,1,0,0] 111):=bE Vi [EQ,EQ,EQ,EQ,H1,H1] [[1,2,3,4,0,0]] (@Jm cI C) (aG an)
theorem avp (C:ae):aW C (Jx C) 111 (Lp [1,1,0,1,0,0] 111):=bE Vj [EQ,EQ,H1,H1,H1] [[0,0],[1,2,0,0,0,0]] (@Jo cI C) (aG (aU (avl C) (aU (avn C) (aU (avo C) an))))
theorem avq {a b':Int} {ak:LV} {r:Option LV} (h:XC cI CC a b' ak=r):CC SK [V.int .i64 a,V.int .i64 b',.list bt ak]=r:=bj (aU (avp CC) an) h
def ahS (C:ae):cE:=gG 735 Va [[1,2,3,4,0,7,8]] (@Pq cI C) (bG 81 Vb [EQ,EQ,EQ,H1,H1,H1] [[1,2,3,0,0,0,0]] (@Jq cI C) bm)
theorem avr (C:ae):aW C (ahS C) 108 (Cd 45 [1,1,0,1,1,1,0,0,1,0,0,1,0,1,0] [1,1,0,1,1,1,0,0,1,0,0,1,0,1,1] 108):=gF Va [[1,2,3,4,0,7,8]] (@Pq cI C) (aG an) (aG an)
theorem avs (C:ae):aW C (ahS C) 108 (Lp [1,1,0,1,1,1,0,0] 108):=bE Vb [EQ,EQ,EQ,H1,H1,H1] [[1,2,3,0,0,0,0]] (@Jq cI C) (aG (aU (avr C) an))
theorem avt {a b':Int} {ak:LV} {r:Option LV} (h:XE cI CC a b' ak=r):CC SH [V.int .i64 a,V.int .i64 b',.list bt ak]=r:=bj (aU (avs CC) an) h
theorem avu {data:LV} {a b' c gN:Int} {r:Option LV} (h:XF cI CC data a b' c gN=r):CC SR [.list bt data,V.int .i64 a,V.int .i64 b',V.int .i64 c,V.int .i64 gN]=r:=bj (L:=bm) an h
theorem avv {data:LV} {a gN:Int} {r:Option LV} (h:XG cI CC data a gN=r):CC SQ [.list bt data,V.int .i64 a,V.int .i64 gN]=r:=bj (L:=bm) an h
theorem avw {data:LV} {a b' gN:Int} {r:Option LV} (h:Ps cI CC data a b' gN=r):CC SS [.list bt data,V.int .i64 a,V.int .i64 b',V.int .i64 gN]=r:=bj (L:=bm) an h
def ahT (C:ae):cE:=gG 591 Vc [[1,0,0,0,0]] (@Jr cI C) (gG 559 Vd [[0,0]] (@Js cI C) bm)
theorem avx (C:ae):aW C (ahT C) 109 (Cd 36 [1,1,1,1,1,1,0,1,0,0,1,0] [1,1,1,1,1,1,0,1,0,0,1,1] 109):=gF Vc [[1,0,0,0,0]] (@Jr cI C) (aG an) (aG an)
theorem avy (C:ae):aW C (ahT C) 109 (Cd 34 [1,1,1,1,1,1,0,1,0] [1,1,1,1,1,1,0,1,1] 109):=gF Vd [[0,0]] (@Js cI C) (aG (aU (avx C) an)) (aG an)
theorem avz {data:LV} {a b':Int} {r:Option LV} (h:Pt cI CC data a b'=r):CC SI [.list bt data,V.int .i64 a,V.int .i64 b']=r:=bj (aU (avy CC) an) h
def PC (C:ae):cE:=gG 639 UW [[1,2,0,4,5,6,0]] (@DJ cI C) (gG 911 UX [[1,2,3,4,5,6,0,0,0]] (@DK cI C) (gG 1215 UY [[1,2,3,4,5,6,7,0,0],[1,2,3,4,5,6,7,0]] (@qJ cI C) (bG 33 UZ [H1,H1,H1,H1,H1,H1] [[0]] (@uS cI C) bm)))
theorem avA (C:ae):aW C (PC C) 95 (Cd 39 [1,1,0,0,0,1,1,1,0,1,0] [1,1,0,0,0,1,1,1,0,1,1] 95):=gF UW [[1,2,0,4,5,6,0]] (@DJ cI C) (aG an) (aG an)
theorem avB (C:ae):aW C (PC C) 95 (Cd 56 [1,1,0,0,0,1,1,1,1,1,0,1,0] [1,1,0,0,0,1,1,1,1,1,0,1,1] 95):=gF UX [[1,2,3,4,5,6,0,0,0]] (@DK cI C) (aG an) (aG an)
theorem avC (C:ae):aW C (PC C) 95 (Cd 75 [1,1,0,0,0,1,1,1,1,1,1,0,1,0] [1,1,0,0,0,1,1,1,1,1,1,0,1,1] 95):=gF UY [[1,2,3,4,5,6,7,0,0],[1,2,3,4,5,6,7,0]] (@qJ cI C) (aG an) (aG an)
theorem avD (C:ae):aW C (PC C) 95 (Lp [1,1,0,0] 95):=bE UZ [H1,H1,H1,H1,H1,H1] [[0]] (@uS cI C) (aG (aU (avA C) (aU (avB C) (aU (avC C) an))))
theorem avE {a b' kL:Int} {ak:LV} {r:Option LV} (h:XJ cI CC a b' kL ak=r):CC SD [V.int .i64 a,V.int .i64 b',V.int .i64 kL,.list bt ak]=r:=bj (aU (avD CC) an) h
theorem avF {xs:LV} {r:Option LV} (h:XK cI CC xs=r):CC Gq [.list bt xs]=r:=bj (L:=bm) an h
end Go.AM
set_option maxRecDepth 100000
namespace Go.AM.SL
open Go.Proofs Go.Sort
abbrev avG:au Ed where
 E:=cI
 enc:=Ed.enc
 cmp:=rM
 re x:=by simp only[cI,Ed.mK,Ed.mL,Ed.mM];exact Ed.re x
 cs a b:=by simp only[cI,Ed.mK,Ed.mL,Ed.mM];exact auY a b
 swo:=⟨fun x=>by simp only[decide_eq_false_iff_not,Di];unfold Ed.lt;omega,fun x y z=>by simp only[fl,Di];unfold Ed.lt;omega,fun x y z=>by simp only[decide_eq_false_iff_not,Di];unfold Ed.lt;omega⟩
 ahi:=au1
 ahj:=au4
 ahk:=au7
 ahl:=ava
 ahm:=avg
 ahn:=avk
 aho:=avq
 ahp:=avt
 ahq:=avu
 ahr:=avv
 XL:=avw
 XM:=avz
 ahs:=avE
 aht:=avF
theorem avH (l:List Ed) (hs:l.length<1152921504606846976): ∃R:List Ed,CC Gq [.list bt (l.map Ed.enc)]=some [.list bt (R.map Ed.enc)]∧R.Perm l∧R.Pairwise (fun x y=> ¬y.lt x):=by
 obtain ⟨R,h1,h2,h3⟩:= @auW Ed avG _ l hs;exact ⟨R,h1,h2,h3.imp fun h g=>h ((Di _ _).2 g)⟩
end Go.AM.SL
set_option maxRecDepth 100000
namespace Go.AM
open Go.IntKind (wrap)
open Go.Proofs
def Jy (C:ae) (i x s at':Int) (t57:Bool) (bn aY bh aS:Int) (jC:LV) (cy cz:Int) (mb places:LV) (fV fW:Int) (rows bJ cd bS cM:LV) {β:Type} (kr:((Int×Int×Int×LV×LV×LV) ⊕ (Int×LV×LV))→Option β):Option β:=
 bif t57 then
  bif (mb.length:Int)==512 then
  kr (.inl (3,0,0,([]:LV),([]:LV),([]:LV)))
  else
  bif cw .u64 s&&true then
   bif Nat.ble ((mb.length+([.int .u64 s]:LV).length)*8) aX then
   kr (.inr ((mb.length:Int),mb++([.int .u64 s]:LV),eB (.int .u64 s) (V.int .i64 (mb.length:Int)) places))
   else none
  else none
 else
  kr (.inr (at',mb,places))
def DP (C:ae) (i bn aY bh aS:Int) (jC:LV) (cy cz fV fW:Int) (bJ cd bS cM:LV) (x:Int) (mb places rows:LV) {β:Type} (kn:(Int×LV×LV×LV)→Option β) (kr:((Int×Int×Int×LV×LV×LV) ⊕ (Int×Bool×LV×LV×LV))→Option β):Option β:=
 bif decide (x<bn) then
  aq mb i fun x2=>
  (C xE [V.int .i64 bn,V.int .i64 aY,.int .u64 bh,.int .u64 aS,.list bt jC,.int .u64 x2.toInt,V.int .i64 x]).bind fun r3=>
  bif cw .u64 ((V.nth r3 0).toInt)&&true then
  Jy C i x ((V.nth r3 0).toInt) ((fO (.int .u64 ((V.nth r3 0).toInt)) places (V.int .i64 0)).toInt) (!(ez (.int .u64 ((V.nth r3 0).toInt)) places)) bn aY bh aS jC cy cz mb places fV fW rows bJ cd bS cM (bN (un fun kI=>un fun avI=>un fun avJ=>un fun (X2:LV)=>un fun (b_8:LV) (avK:LV)=>
   kr (.inl (kI,avI,avJ,X2,b_8,avK))) (un fun ahU=>un fun (avL:LV) (avM:LV)=>
   bif Nat.ble ((rows.length+([V.int .i64 ahU]:LV).length)*8) aX then
    kn (wrap .i64 (x+1),avL,avM,rows++([V.int .i64 ahU]:LV))
   else none))
  else none
 else
  kr (.inr (x,decide (x<bn),mb,places,rows))
def AZ (C:ae) (i bn aY bh aS:Int) (jC:LV) (cy cz fV fW:Int) (bJ cd bS cM:LV):=un fun x=>un fun mb=>un fun places rows=>DP C i bn aY bh aS jC cy cz fV fW bJ cd bS cM x mb places rows (fun y=>some (Sum.inl y)) (fun r=>some (Sum.inr r))
def Jz (C:ae) (bn aY bh aS:Int) (jC:LV) (cy cz fV fW:Int) (cx bJ:LV) (i:Int) (mb places cd bS:LV) {β:Type} (kn:(Int×LV×LV×LV×LV)→Option β) (kr:((Int×Int×Int×LV×LV×LV) ⊕ (Int×Bool×LV×LV×LV×LV))→Option β):Option β:=
 bif decide (i<(mb.length:Int)) then
  (Loop (AZ C i bn aY bh aS jC cy cz fV fW cx bJ cd bS) (0,mb,places,([]:LV))).bind (bN (un fun oU=>un fun avN=>un fun avO=>un fun (Xg:LV)=>un fun (qC:LV) (avP:LV)=>
   kr (.inl (oU,avN,avO,Xg,qC,avP))) (un fun azI=>un fun (Hg:Bool)=>un fun (ahV:LV)=>un fun (avQ:LV) (ahW:LV)=>
   bif Nat.ble ((bS.length+([.list aF ahW]:LV).length)*24) aX then
   aq ahV i fun AR=>
   bif Nat.ble ((cd.length+([.bool (((wrap .u64 ((BitVec.ofInt (IntKind.bits .u64) AR.toInt&&&BitVec.ofInt (IntKind.bits .u64) aS).toNat)):Int) != 0)]:LV).length)*1) aX then
    kn (wrap .i64 (i+1),ahV,avQ,cd++([.bool (((wrap .u64 ((BitVec.ofInt (IntKind.bits .u64) AR.toInt&&&BitVec.ofInt (IntKind.bits .u64) aS).toNat)):Int) != 0)]:LV),bS++([.list aF ahW]:LV))
   else none
   else none))
 else
  kr (.inr (i,decide (i<(mb.length:Int)),mb,places,cd,bS))
def DQ (C:ae) (bn aY bh aS:Int) (jC:LV) (cy cz fV fW:Int) (cx bJ:LV):=un fun i=>un fun mb=>un fun places=>un fun cd bS=>Jz C bn aY bh aS jC cy cz fV fW cx bJ i mb places cd bS (fun y=>some (Sum.inl y)) (fun r=>some (Sum.inr r))
def X3 (C:ae):cE:=gG 927 Ul [[0,0,0,0,0,0],[1,2,0,6,7,8,9,10,11,12,0,0,15,16,17,18,19,20,21]] (@Jy C) (bG 193 Um [EQ,H1,EQ,EQ,EQ,EQ,EQ,EQ,EQ,H1,H1,EQ,EQ,H1,EQ,EQ,EQ,EQ] [[0,0,0,0,0,0],[1,0,0,3,4,5,6,7,8,9,0,0,12,13,0,15,16,17,18]] (@DP C) (bG 129 Un [H1,EQ,EQ,EQ,EQ,EQ,EQ,EQ,H1,H1,EQ,EQ,EQ,EQ,H1,H1] [[0,0,0,0,0,0],[0,0,2,3,4,5,6,7,8,0,0,11,12,13,14,0,0]] (@Jz C) bm))
theorem avR (C:ae):aW C (X3 C) 41 (Cd 57 [1,1,1,1,1,0,1,0,0,1,0,0,1,0,1,0,0,1,0,0,1,1,0,1,0] [1,1,1,1,1,0,1,0,0,1,0,0,1,0,1,0,0,1,0,0,1,1,0,1,1] 41):=gF Ul [[0,0,0,0,0,0],[1,2,0,6,7,8,9,10,11,12,0,0,15,16,17,18,19,20,21]] (@Jy C) (aG an) (aG an)
theorem avS (C:ae):aW C (X3 C) 41 (Lp [1,1,1,1,1,0,1,0,0,1,0,0,1,0,1,0,0] 41):=bE Um [EQ,H1,EQ,EQ,EQ,EQ,EQ,EQ,EQ,H1,H1,EQ,EQ,H1,EQ,EQ,EQ,EQ] [[0,0,0,0,0,0],[1,0,0,3,4,5,6,7,8,9,0,0,12,13,0,15,16,17,18]] (@DP C) (aG (aU (avR C) an))
theorem avT (C:ae):aW C (X3 C) 41 (Lp [1,1,1,1,1,0,1,0,0] 41):=bE Un [H1,EQ,EQ,EQ,EQ,EQ,EQ,EQ,H1,H1,EQ,EQ,EQ,EQ,H1,H1] [[0,0,0,0,0,0],[0,0,2,3,4,5,6,7,8,0,0,11,12,13,14,0,0]] (@Jz C) (aG (aU (avS C) an))
def X4 (C:ae) (cj cQ cv cW:Int) (dL:LV):Option LV:=
 (C MN [V.int .i64 cj,V.int .i64 cQ,.int .u64 cv,.int .u64 cW,.list bt dL]).bind fun r1=>
 bif (((V.nth r1 0).toInt):Int) != 0 then
  some [V.int .i64 0,V.int .i64 0,V.int .i64 ((V.nth r1 0).toInt),.list ao ([]:LV),.list ar ([]:LV),.list dp ([]:LV)]
 else
  bif cw .u64 cv&&true then
  (Loop (DQ C cj cQ cv cW dL 0 0 cj 0 ([]:LV) ([]:LV)) (0,([.int .u64 cv]:LV),eB (.int .u64 cv) (V.int .i64 0) ([]:LV),([]:LV),([]:LV))).bind (bN (un fun Hi=>un fun avU=>un fun avV=>un fun (Wu:LV)=>un fun (Wv:LV) (avW:LV)=>
   some [V.int .i64 avU,V.int .i64 avV,V.int .i64 Hi,.list ao Wu,.list ar Wv,.list dp avW]) (un fun at7=>un fun (V5:Bool)=>un fun (avX:LV)=>un fun (azJ:LV)=>un fun (Ht:LV) (Xh:LV)=>
   some [V.int .i64 cj,V.int .i64 0,V.int .i64 0,.list ao Ht,.list ar Xh,.list dp avX]))
  else none
theorem ahX {cj cQ cv cW:Int} {dL:LV} {r:Option LV} (h:X4 CC cj cQ cv cW dL=r):CC F6 [V.int .i64 cj,V.int .i64 cQ,.int .u64 cv,.int .u64 cW,.list bt dL]=r:=bj (aU (avT CC) an) h
def ahY (C:ae) (cj cQ cv cW:Int) (dL:LV):Option LV:=
 bif decide (cQ>64) then
  some [V.int .i64 0,V.int .i64 0,V.int .i64 3,.list ao ([]:LV),.list ar ([]:LV)]
 else
  (C MG [.list bt dL]).bind fun r1=>
  (C F6 [V.int .i64 cj,V.int .i64 cQ,.int .u64 cv,.int .u64 cW,.list bt ((V.nth r1 0).toList)]).bind fun r2=>
  bif (((V.nth (r2.drop 2) 0).toInt):Int) != 0 then
  some [V.int .i64 0,V.int .i64 0,V.int .i64 ((V.nth (r2.drop 2) 0).toInt),.list ao ([]:LV),.list ar ([]:LV)]
  else
  (C pB [V.int .i64 ((V.nth r2 0).toInt),V.int .i64 ((V.nth (r2.drop 1) 0).toInt),.list ao ((V.nth (r2.drop 3) 0).toList),.list ar ((V.nth ((r2.drop 3).drop 1) 0).toList)]).bind fun r3=>
  some [V.int .i64 ((V.nth r3 0).toInt),V.int .i64 ((V.nth (r3.drop 1) 0).toInt),V.int .i64 0,.list ao ((V.nth (r3.drop 2) 0).toList),.list ar ((V.nth ((r3.drop 2).drop 1) 0).toList)]
theorem avY {cj cQ cv cW:Int} {dL:LV} {r:Option LV} (h:ahY CC cj cQ cv cW dL=r):CC Mz [V.int .i64 cj,V.int .i64 cQ,.int .u64 cv,.int .u64 cW,.list bt dL]=r:=bj (L:=bm) an h
def ahZ (C:ae) (cj cQ cv cW:Int) (dL:LV):Option LV:=
 (C Gx [V.int .i64 cj,V.int .i64 cQ,.int .u64 cv,.int .u64 cW,.list bt dL]).bind fun r1=>
 bif (((V.nth (r1.drop 2) 0).toInt):Int) != 0 then
  some [V.int .i64 0,V.int .i64 0,V.int .i64 ((V.nth (r1.drop 2) 0).toInt),.list ao ([]:LV),.list ar ([]:LV)]
 else
  (C vU [V.int .i64 ((V.nth r1 0).toInt),V.int .i64 ((V.nth (r1.drop 1) 0).toInt),.list ao ((V.nth (r1.drop 3) 0).toList),.list ar ((V.nth ((r1.drop 3).drop 1) 0).toList)]).bind fun r2=>
  some [V.int .i64 ((V.nth r2 0).toInt),V.int .i64 ((V.nth (r2.drop 1) 0).toInt),V.int .i64 0,.list ao ((V.nth (r2.drop 2) 0).toList),.list ar ((V.nth ((r2.drop 2).drop 1) 0).toList)]
theorem avZ {cj cQ cv cW:Int} {dL:LV} {r:Option LV} (h:ahZ CC cj cQ cv cW dL=r):CC Gs [V.int .i64 cj,V.int .i64 cQ,.int .u64 cv,.int .u64 cW,.list bt dL]=r:=bj (L:=bm) an h
def ah0 (C:ae) (bn aY bh aS:Int) (aR:LV):Option LV:=
 (C Gq [.list bt aR]).bind fun r1=>
 (C MT [.list bt ((V.nth r1 0).toList)]).bind fun r2=>
 bif (V.nth r2 0).toBool then
  (C Gs [V.int .i64 bn,V.int .i64 aY,.int .u64 bh,.int .u64 aS,.list bt ((V.nth (r2.drop 1) 0).toList)]).bind fun r3=>
  some [V.int .i64 ((V.nth r3 0).toInt),V.int .i64 ((V.nth (r3.drop 1) 0).toInt),V.int .i64 ((V.nth (r3.drop 2) 0).toInt),V.int .i64 bn,V.int .i64 aY,.int .u64 bh,.int .u64 aS,.list bt ((V.nth (r2.drop 1) 0).toList),.list ao ((V.nth (r3.drop 3) 0).toList),.list ar ((V.nth ((r3.drop 3).drop 1) 0).toList)]
 else
  (C Gs [V.int .i64 bn,V.int .i64 aY,.int .u64 bh,.int .u64 aS,.list bt ((V.nth (r2.drop 1) 0).toList)]).bind fun r4=>
  some [V.int .i64 ((V.nth r4 0).toInt),V.int .i64 ((V.nth (r4.drop 1) 0).toInt),V.int .i64 ((V.nth (r4.drop 2) 0).toInt),V.int .i64 bn,V.int .i64 aY,.int .u64 bh,.int .u64 aS,.list bt ((V.nth (r2.drop 1) 0).toList),.list ao ((V.nth (r4.drop 3) 0).toList),.list ar ((V.nth ((r4.drop 3).drop 1) 0).toList)]
theorem av0 {bn aY bh aS:Int} {aR:LV} {r:Option LV} (h:ah0 CC bn aY bh aS aR=r):CC Gl [V.int .i64 bn,V.int .i64 aY,.int .u64 bh,.int .u64 aS,.list bt aR]=r:=bj (L:=bm) an h
section
variable {n:Nf} {L S:Nat} (h:Nat6 n L S)
include h
theorem ah1 {T U:List Nat} {s:Nat} {i:Nat} (hi:i<T.length) (hs:T[i]=s) (kF:s<2^S) {x:Nat} (hx:x<L) (Dg:aJ (sn n.E) T s (x+1) <+: U) (hU:(aJ (sn n.E) T s (x+1)).length≤512) {c1 c2 c3 c4:Int} {l1 l2 l3 l4:List V}:
  AZ CC (i:Int) (L:Int) n.S (n.st:Int) (n.fin:Int) (n.E.map Ed.enc) c1 c2 c3 c4 l1 l2 l3 l4 ((x:Int),U1 (aJ (sn n.E) T s x),uM (aJ (sn n.E) T s x),(tab x fun j=>nV (U.idxOf (sn n.E s j))))=
   some (.inl (((x+1:Nat):Int),U1 (aJ (sn n.E) T s (x+1)),uM (aJ (sn n.E) T s (x+1)),(tab (x+1) fun j=>nV (U.idxOf (sn n.E s j))))):=by
 have h6:=h.l6;have Dn:=h.pow;have jt:=G0 (next:=sn n.E) T s x;have lh:i<(aJ (sn n.E) T s x).length:=gB hi jt.length_le;have Dd:(aJ (sn n.E) T s x)[i]=s:=by rw[←jt.getElem hi,hs]
 have hn:=h.next s x;have fS:=hU;have k1:cw .u64 ((sn n.E s x:Nat):Int)=true:=CR (by omega);have st:=agN n h.ok h.good (set:=s) (by omega) (x:Int);simp only[AZ,DP,un];refine bT (cN hx) ?_;refine (eo (Pf lh)).trans ?_;rw[Dd];have st':CC xE [.int .i64 (L:Int),.int .i64 n.S,.int .u64 (n.st:Int),.int .u64 (n.fin:Int),.list bt (n.E.map Ed.enc),.int .u64 (s:Int),.int .i64 (x:Int)]=some [uV (sn n.E s x)]:=(congrArg (fun z=>CC xE [.int .i64 z,.int .i64 n.S,.int .u64 (n.st:Int),.int .u64 (n.fin:Int),.list bt (n.E.map Ed.enc),.int .u64 (s:Int),.int .i64 (x:Int)]) h.hL.symm).trans st;refine bs st' ?_;refine bT (by simp only[uV,V.ct,V.toInt_int];rw[k1];rfl) ?_;simp only[uV,V.ct,V.toInt_int];rw[show (V.int .u64 ((sn n.E s x:Nat):Int))=uV (sn n.E s x) from rfl];have e1:=qB AI (sn n.E s x) (aJ (sn n.E) T s x) 0;unfold Jy;rw[show (V.int .u64 ((sn n.E s x:Nat):Int))=uV (sn n.E s x) from rfl,show ez (uV (sn n.E s x)) (uM (aJ (sn n.E) T s x))=_ from e1];have ei:U.idxOf (sn n.E s x)=(dj (aJ (sn n.E) T s x) (sn n.E s x)).idxOf (sn n.E s x):=uz Dg uy;rw[CS] at ei;rw[aJ,qv] at fS;by_cases hm:sn n.E s x∈aJ (sn n.E) T s x
 ·have e2:=uF AI (sn n.E s x) (.int .i64 0) (aJ (sn n.E) T s x) 0 hm;rw[ed] at e2;rw[ah hm] at ei;refine bF (by simpa using hm) ?_;rw[show fO (uV (sn n.E s x)) (uM (aJ (sn n.E) T s x)) (.int .i64 0)=_ from e2,V.toInt_int,←ei];simp only[bN,un];refine bT (cap (by rw[db];simp;omega) (by omega)) ?_;rw[cG (by omega),gg,aJ];unfold dj;rw[ah hm];rfl
 ·rw[ag hm] at ei fS;refine bT (by simpa using hm) ?_;refine bF (by rw[ot];simp;omega) ?_;refine bT (by rw[k1];rfl) ?_;refine bT (cap (by rw[ot];simp;omega) (by omega)) ?_;simp only[bN,un];refine bT (cap (by rw[db];simp;omega) (by omega)) ?_;have e2:=uG AI (sn n.E s x) (aJ (sn n.E) T s x) 0 hm;rw[ed] at e2;rw[ot,show eB (uV (sn n.E s x)) _ (uM (aJ (sn n.E) T s x))=_ from e2,←ei,cG (by omega),gg,aJ];unfold dj;rw[ag hm];simp[U1,uM,nV,uV]
theorem av1 {T U:List Nat} {s:Nat} {i:Nat} (hi:i<T.length) (hs:T[i]=s) (kF:s<2^S) (hp:aJ (sn n.E) T s L <+: U) (hU:(aJ (sn n.E) T s L).length≤512) {c1 c2 c3 c4:Int} {l1 l2 l3 l4:List V}:
  Loop (AZ CC (i:Int) (L:Int) n.S (n.st:Int) (n.fin:Int) (n.E.map Ed.enc) c1 c2 c3 c4 l1 l2 l3 l4) (0,U1 T,uM T,([]:List V))=
   some (.inr ((L:Int),false,U1 (aJ (sn n.E) T s L),uM (aJ (sn n.E) T s L),(tab L fun x=>nV (U.idxOf (sn n.E s x))))):=by
 refine (eh L (fun x=>((x:Int),U1 (aJ (sn n.E) T s x),uM (aJ (sn n.E) T s x),(tab x fun j=>nV (U.idxOf (sn n.E s j))))) _ (fun x hx=> ?_) ?_)
 ·have:=(rG (next:=sn n.E) T s (show x+1≤L by omega)).length_le;exact ah1 h hi hs kF hx ((rG T s (show x+1≤L by omega)).trans hp) (by omega)
 ·simp only[AZ,DP,un];refine bF (bp (az _)) ?_;rw[bp (az _)]
theorem av2 {T:List Nat} {s:Nat} {i:Nat} (hi:i<T.length) (hs:T[i]=s) (kF:s<2^S) (hT:T.length≤512) (hU:512<(aJ (sn n.E) T s L).length) {c1 c2 c3 c4:Int} {l1 l2 l3 l4:List V}:
  Loop (AZ CC (i:Int) (L:Int) n.S (n.st:Int) (n.fin:Int) (n.E.map Ed.enc) c1 c2 c3 c4 l1 l2 l3 l4) (0,U1 T,uM T,([]:List V))=
   some (.inl (3,0,0,[],[],[])):=by
 obtain ⟨y,hy,L4,X5,X6⟩:=afs hT hU;have h6:=h.l6;have Dn:=h.pow;refine (ab6 (fun x=>((x:Int),U1 (aJ (sn n.E) T s x),uM (aJ (sn n.E) T s x),(tab x fun j=>nV ((aJ (sn n.E) T s y).idxOf (sn n.E s j))))) y (fun x hx=> ?_) ?_)
 ·exact ah1 h hi hs kF (by omega) (rG T s (by omega)) (X6 (x+1) (by omega))
 ·have jt:=G0 (next:=sn n.E) T s y;have lh:i<(aJ (sn n.E) T s y).length:=gB hi jt.length_le;have Dd:(aJ (sn n.E) T s y)[i]=s:=by rw[←jt.getElem hi,hs]
  have hn:=h.next s y;have k1:cw .u64 ((sn n.E s y:Nat):Int)=true:=CR (by omega);have st:=agN n h.ok h.good (set:=s) (by omega) (y:Int);simp only[AZ,DP,un];refine bT (cN hy) ?_;refine (eo (Pf lh)).trans ?_;rw[Dd];have st':CC xE [.int .i64 (L:Int),.int .i64 n.S,.int .u64 (n.st:Int),.int .u64 (n.fin:Int),.list bt (n.E.map Ed.enc),.int .u64 (s:Int),.int .i64 (y:Int)]=some [uV (sn n.E s y)]:=(congrArg (fun z=>CC xE [.int .i64 z,.int .i64 n.S,.int .u64 (n.st:Int),.int .u64 (n.fin:Int),.list bt (n.E.map Ed.enc),.int .u64 (s:Int),.int .i64 (y:Int)]) h.hL.symm).trans st;refine bs st' ?_;refine bT (by simp only[uV,V.ct,V.toInt_int];rw[k1];rfl) ?_;simp only[uV,V.ct,V.toInt_int];rw[show (V.int .u64 ((sn n.E s y:Nat):Int))=uV (sn n.E s y) from rfl];have e1:=qB AI (sn n.E s y) (aJ (sn n.E) T s y) 0;unfold Jy;rw[show ez (uV (sn n.E s y)) (uM (aJ (sn n.E) T s y))=_ from e1];refine bT (by simpa using X5) ?_;refine bT (by rw[ot];simp;omega) ?_;rfl
theorem av3 {s:Nat} (hs:s<2^S):(((wrap .u64 ((BitVec.ofInt (IntKind.bits .u64) (s:Int)&&&BitVec.ofInt (IntKind.bits .u64) (n.fin:Int)).toNat)):Int) != 0)=sf n.fin s:=by
 have hp:=h.pow;have hf:=h.fin;rw[u64_and (by omega) (by omega)];unfold sf;rw[nJ];simp
theorem X7 {i:Nat} (eP:i<(aj L (sn n.E) n.st i).length) (hlen:(aj L (sn n.E) n.st i).length≤512) {U:List Nat} (hp:aj L (sn n.E) n.st (i+1) <+: U) {l1 l2 l3 l4:List V} (Db:l3.length≤1000) (WB:l4.length≤1000):
  DQ CC (L:Int) n.S (n.st:Int) (n.fin:Int) (n.E.map Ed.enc) 0 0 (L:Int) 0 l1 l2 ((i:Int),U1 (aj L (sn n.E) n.st i),uM (aj L (sn n.E) n.st i),l3,l4)=
   if 512<(aj L (sn n.E) n.st (i+1)).length then some (.inr (.inl (3,0,0,[],[],[])))
   else some (.inl (((i+1:Nat):Int),U1 (aj L (sn n.E) n.st (i+1)),uM (aj L (sn n.E) n.st (i+1)),l3++[V.bool (sf n.fin (aj L (sn n.E) n.st i)[i])],l4++[V.list aF (tab L fun x=>nV (U.idxOf (sn n.E (aj L (sn n.E) n.st i)[i] x)))])):=by
 have h6:=h.l6;have hq:=sub_lt h i _ (ff eP);have gS:aj L (sn n.E) n.st (i+1)=aJ (sn n.E) (aj L (sn n.E) n.st i) (aj L (sn n.E) n.st i)[i] L:=G1 (cp eP);simp only[DQ,Jz,un];refine bT (bU (by rw[ot];omega)) ?_;by_cases pr:512<(aj L (sn n.E) n.st (i+1)).length
 ·rw[ah pr];refine bs (av2 h eP rfl hq hlen (by rw[←gS];exact pr)) ?_;rfl
 ·rw[ag pr];refine bs (av1 h eP rfl hq (U:=U) (by rw[←gS];exact hp) (by rw[←gS];omega)) ?_;rw[←gS];simp only[bN,un];have jt:=aen (L:=L) (next:=sn n.E) (a0:=n.st) i;have lh:i<(aj L (sn n.E) n.st (i+1)).length:=gB eP jt.length_le;refine bT (cap (by simp;omega) (by omega)) ?_;refine (eo (Pf lh)).trans ?_;rw[←jt.getElem eP];simp only[uV,V.toInt_int];rw[av3 h hq];refine bT (cap (by simp;omega) (by omega)) ?_;rw[cG (by omega)]
theorem av4 (hn: ¬jV n L S): ∃X,CC F6 (nv n [])=some (Pg (ia n L S) 0 (.list dp X)):=by
 have h6:=h.l6;have b9:=h.st;have Dn:=h.pow;have hd:(aj L (sn n.E) n.st (2^S)).length≤2^S:=Dm h _;have hle: ∀i,(aj L (sn n.E) n.st i).length≤(fM n L S).length:=Oq hd;have OJ:(fM n L S).length≤512:=by unfold jV at hn;omega
 refine ⟨U1 (fM n L S),ahX ?_⟩;unfold X4;have hv:=agI n h.ok;rw[h.code] at hv;refine bs hv (bF rfl ?_);refine bT (by rw[CR (show n.st<2^64 by omega)];rfl) ?_;rw[h.hL];have key:Loop (DQ CC (L:Int) n.S (n.st:Int) (n.fin:Int) (n.E.map Ed.enc) 0 0 (L:Int) 0 ([]:List V) ([]:List V)) (0,U1 [n.st],uM [n.st],([]:List V),([]:List V))=
   some (.inr (((fM n L S).length:Int),false,U1 (fM n L S),uM (fM n L S),(ia n L S).bI,(ia n L S).bz)):=by
  refine (eh (fM n L S).length (fun i=>((i:Int),U1 (aj L (sn n.E) n.st i),uM (aj L (sn n.E) n.st i),(tab i fun j=>V.bool ((ia n L S).fin j)),(tab i fun j=>ep L ((ia n L S).nx j)))) _ (fun i hi=> ?_) ?_)
  ·have eP:=xR hd hi;have WD:i<2^S:=gB hi hd;have s8:(aj L (sn n.E) n.st i)[i]=(fM n L S)[i]:=(lp (show i≤2^S by omega)).getElem eP;have WE:=hle (i+1);have afI:=hle i;have:=X7 h eP (by omega) (U:=fM n L S) (lp (by omega)) (l1:=[]) (l2:=[]) (l3:=(tab i fun j=>V.bool ((ia n L S).fin j))) (l4:=(tab i fun j=>ep L ((ia n L S).nx j))) (by rw[db];omega) (by rw[db];omega);rw[cl,s8] at this;rw[this,gg,gg];have e1:(ia n L S).fin i=sf n.fin (fM n L S)[i]:=Ag hi;have e2:ep L ((ia n L S).nx i)= .list aF (tab L fun x=>nV ((fM n L S).idxOf (sn n.E (fM n L S)[i] x))):=by
    unfold ep;refine congrArg _ (dR fun x hx=> ?_);rw[show (ia n L S).nx i x=_ from v9 hi hx];rfl
   rw[e1,e2]
  ·simp only[DQ,Jz,un];rw[show aj L (sn n.E) n.st (fM n L S).length=fM n L S from Ah hd,ot];refine bF (bp (az _)) ?_;rw[bp (az _)];have e3:(ia n L S).n=(fM n L S).length:=nk;unfold Da.bI Da.bz;rw[e3];rfl
 refine bs key ?_;rfl
theorem av5 (hn:jV n L S): ∃X,CC F6 (nv n [])=some (Pg zD 3 (.list dp X)):=by
 have h6:=h.l6;have b9:=h.st;have Dn:=h.pow;obtain ⟨m,WG,lb,OK⟩:=Ou (Ot (show 512<(aj L (sn n.E) n.st (2^S)).length from hn)) (by omega);refine ⟨[],ahX ?_⟩;unfold X4;have hv:=agI n h.ok;rw[h.code] at hv;refine bs hv (bF rfl ?_);refine bT (by rw[CR (show n.st<2^64 by omega)];rfl) ?_;rw[h.hL];have key: ∃r,Loop (DQ CC (L:Int) n.S (n.st:Int) (n.fin:Int) (n.E.map Ed.enc) 0 0 (L:Int) 0 ([]:List V) ([]:List V)) (0,U1 [n.st],uM [n.st],([]:List V),([]:List V))=some r∧r=(.inl (3,0,0,[],[],[])):=by
  refine uC (fun i st=> ∃l3 l4:List V,l3.length=i∧l4.length=i∧st=((i:Int),U1 (aj L (sn n.E) n.st i),uM (aj L (sn n.E) n.st i),l3,l4)) _ m 0 _ (fun i _ hi st b9=> ?_) (fun st b9=> ?_) ⟨[],[],rfl,rfl,rfl⟩
  ·obtain ⟨l3,l4,e3,e4,rfl⟩:=b9;obtain ⟨h1,h2⟩:=lb i (by omega);have h3:=(lb (i+1) (by omega)).2;have:=X7 h h1 h2 (lG _) (l1:=[]) (l2:=[]) (l3:=l3) (l4:=l4) (by omega) (by omega);rw[cl] at this;exact ⟨_,this,_,_,by simp[e3],by simp[e4],rfl⟩
  ·obtain ⟨l3,l4,e3,e4,rfl⟩:=b9;rw[ed] at*
   obtain ⟨h1,h2⟩:=lb m (by omega);have:=X7 h h1 h2 (lG _) (l1:=[]) (l2:=[]) (l3:=l3) (l4:=l4) (by omega) (by omega);rw[br] at this;exact ⟨_,this,rfl⟩
 obtain ⟨r,h1,rfl⟩:=key;refine bs h1 ?_;rfl
end
instance (n:Nf) (L S:Nat):Decidable (jV n L S):=by unfold jV;infer_instance
def iz (n:Nf) (L S:Nat):Da:=if jV n L S then zD else minD (ia n L S)
def mO (n:Nf) (L S:Nat):Int:=if jV n L S then 3 else 0
section
variable {n:Nf} {L S:Nat} (h:Nat6 n L S)
include h
theorem av6:CC Gs (nv n [])=some (lW (iz n L S) (mO n L S)):=by
 refine avZ ?_;unfold ahZ iz mO;by_cases ho:jV n L S
 ·obtain ⟨X,hX⟩:=atD h ho;rw[ah ho,ah ho];refine bs hX (bT rfl ?_);rfl
 ·obtain ⟨X,hX⟩:=atC h ho;rw[ag ho,ag ho];refine bs hX (bF rfl ?_);refine bs (HS (AJ h ho)) ?_;rfl
end
def dZ (L S st fin:Nat) (l:List Ed):Nf:=⟨L,S,st,fin,rQ l⟩
structure A0 (L S st fin:Nat) (l:List Ed):Prop where
 l1:1≤L
 l6:L≤6
 uP:S≤64
 st:st<2^S
 fin:fin<2^S
 E: ∀e∈l,e.In L S
 len:l.length≤1000000
theorem uT {L S st fin:Nat} {l:List Ed} (h:A0 L S st fin l):Nat6 (dZ L S st fin l) L S where
 hL:=rfl
 hS:=rfl
 ok:=by
  have EK:=h.l1;have hl6:=h.l6;have hs:=h.uP;have b9:=h.st;have rK:=h.fin;have hp:2^S≤2^64:=sa (by omega) hs;have ft: ∀e∈rQ l,e.In L S:=fun e he=>h.E e (yg.1 he);have hlen:=atK (L:=L) (S:=S) (by omega) (by omega) (IX l) ft;refine ⟨by simp only[dZ];omega,by simp only[dZ];omega,by simp only[dZ];omega,by simp only[dZ];omega,by simp only[dZ];omega,by simp only[dZ];omega,by simp only[dZ];unfold maxLen;omega,fun e he=> ?_⟩;have:=ft e he;unfold Ed.In at this;unfold Ed.Ok;omega
 code:=by
  have EK:=h.l1;have hl6:=h.l6;have hs:=h.uP;unfold Nf.code;rw[ag (by simp only[dZ];omega),ag (by simp only[dZ,Int.toNat_natCast];have:=h.st;have:=h.fin;omega),ah];intro i hi;have ft: ∀e∈rQ l,e.In L S:=fun e he=>h.E e (yg.1 he);unfold Nf.oq;simp only[dZ] at*
  refine ⟨by rw[fG hi];exact ft _ (ff hi),fun h0=> ?_⟩;rw[fG hi,fG (show i-1<_ by omega)];exact Bk.1 (IX l) (i-1) i (by omega) hi (by omega)
theorem av7 {A B:List Ed} (h: ∀x,x∈A↔x∈B):rQ A=rQ B:=
 Xq (IX A) (IX B) fun x=>by rw[yg,yg,h x]
def av8 (m:Da) (e:Int) (n:Nf):List V:=[.int .i64 (m.L:Int),.int .i64 (m.st:Int),.int .i64 e,.int .i64 n.L,.int .i64 n.S,.int .u64 (n.st:Int),.int .u64 (n.fin:Int),.list bt (n.E.map Ed.enc),.list ao m.bI,.list ar m.bz]
section
variable {L S st fin:Nat} {l:List Ed} (h:A0 L S st fin l)
include h
theorem av9:CC Gl [.int .i64 (L:Int),.int .i64 (S:Int),.int .u64 (st:Int),.int .u64 (fin:Int),.list bt (l.map Ed.enc)]=some (av8 (iz (dZ L S st fin l) L S) (mO (dZ L S st fin l) L S) (dZ L S st fin l)):=by
 have hl:=h.len;obtain ⟨R,e1,p1,s1⟩:=SL.avH l (by omega);obtain ⟨b,e2⟩:=atY (l:=R) (by rw[p1.length_eq];exact hl);obtain ⟨c1,c2⟩:=atV s1;have hc:lZ R=rQ l:=Xq c1 (IX l) fun x=>by rw[c2,yg,p1.mem_iff]
 rw[hc] at e2;have e3:=av6 (uT h);refine av0 ?_;unfold ah0;refine bs e1 ?_;refine bs e2 ?_;cases b
 ·refine bF rfl ?_;refine bs e3 ?_;rfl
 ·refine bT rfl ?_;refine bs e3 ?_;rfl
theorem awa:CC Mz [.int .i64 (L:Int),.int .i64 (S:Int),.int .u64 (st:Int),.int .u64 (fin:Int),.list bt (l.map Ed.enc)]=some (lW (iz (dZ L S st fin l) L S) (mO (dZ L S st fin l) L S)):=by
 have hl:=h.len;have hs:=h.uP;have h6:=uT h;refine avY ?_;unfold ahY iz mO;refine bF (cJ (by omega)) ?_;refine bs (atP (by omega)) ?_;by_cases ho:jV (dZ L S st fin l) L S
 ·obtain ⟨X,hX⟩:=av5 h6 ho;rw[ah ho,ah ho];refine bs hX (bT rfl ?_);rfl
 ·obtain ⟨X,hX⟩:=av4 h6 ho;rw[ag ho,ag ho];refine bs hX (bF rfl ?_);refine bs (mJ (AJ h6 ho)) ?_;rfl
end
def X8 (C:ae) (ay qx:Int):Option LV:=
 bif decide (qx>64) then
  some [V.bool true]
 else
  some [V.bool false,V.int .i64 ay,V.int .i64 qx,.int .u64 0,.int .u64 0,.list bt ([]:LV)]
theorem ah2 {ay qx:Int} {r:Option LV} (h:X8 CC ay qx=r):CC Gh [V.int .i64 ay,V.int .i64 qx]=r:=bj (L:=bm) an h
def ah3 (C:ae) (JA letter to bn aY bh aS:Int) (aR:LV):Option LV:=
 bif Nat.ble ((aR.length+([.agg [V.int .i64 JA,V.int .i64 letter,V.int .i64 to]]:LV).length)*24) aX then
  some [V.int .i64 bn,V.int .i64 aY,.int .u64 bh,.int .u64 aS,.list bt (aR++([.agg [V.int .i64 JA,V.int .i64 letter,V.int .i64 to]]:LV))]
 else none
theorem awb {JA letter to bn aY bh aS:Int} {aR:LV} {r:Option LV} (h:ah3 CC JA letter to bn aY bh aS aR=r):CC Gp [V.int .i64 JA,V.int .i64 letter,V.int .i64 to,V.int .i64 bn,V.int .i64 aY,.int .u64 bh,.int .u64 aS,.list bt aR]=r:=bj (L:=bm) an h
def ah4 (C:ae) (q bn aY bh aS:Int) (aR:LV):Option LV:=
 bif decide (0≤q) then
  some [V.int .i64 bn,V.int .i64 aY,.int .u64 (wrap .u64 ((BitVec.ofInt (IntKind.bits .u64) bh|||BitVec.ofInt (IntKind.bits .u64) (wrap .u64 (1*2^(min q.toNat (IntKind.bits .u64))))).toNat)),.int .u64 aS,.list bt aR]
 else none
theorem awc {q bn aY bh aS:Int} {aR:LV} {r:Option LV} (h:ah4 CC q bn aY bh aS aR=r):CC Gj [V.int .i64 q,V.int .i64 bn,V.int .i64 aY,.int .u64 bh,.int .u64 aS,.list bt aR]=r:=bj (L:=bm) an h
def ah5 (C:ae) (q bn aY bh aS:Int) (aR:LV):Option LV:=
 bif decide (0≤q) then
  some [V.int .i64 bn,V.int .i64 aY,.int .u64 bh,.int .u64 (wrap .u64 ((BitVec.ofInt (IntKind.bits .u64) aS|||BitVec.ofInt (IntKind.bits .u64) (wrap .u64 (1*2^(min q.toNat (IntKind.bits .u64))))).toNat)),.list bt aR]
 else none
theorem awd {q bn aY bh aS:Int} {aR:LV} {r:Option LV} (h:ah5 CC q bn aY bh aS aR=r):CC MS [V.int .i64 q,V.int .i64 bn,V.int .i64 aY,.int .u64 bh,.int .u64 aS,.list bt aR]=r:=bj (L:=bm) an h
def JB (C:ae) (offset:Int) (t8:LV) (t9 t10 bn aY bh aS:Int) (ca:LV) {β:Type} (kn:(Int×Int×Int×Int×Int×LV)→Option β) (kr:(Int×Bool×Int×Int×Int×Int×LV)→Option β):Option β:=
 bif decide (t10<t9) then
  (idx t8 t10).bind fun x1=>
  bif x1.toBool then
  (C MS [V.int .i64 (wrap .i64 (t10+offset)),V.int .i64 bn,V.int .i64 aY,.int .u64 bh,.int .u64 aS,.list bt ca]).bind fun r2=>
  kn (wrap .i64 (t10+1),(V.nth r2 0).toInt,(V.nth (r2.drop 1) 0).toInt,(V.nth ((r2.drop 1).drop 1) 0).toInt,(V.nth (((r2.drop 1).drop 1).drop 1) 0).toInt,(V.nth (r2.drop 4) 0).toList)
  else
  kn (wrap .i64 (t10+1),bn,aY,bh,aS,ca)
 else
  kr (t10,decide (t10<t9),bn,aY,bh,aS,ca)
def X9 (C:ae) (offset:Int) (t8:LV) (t9:Int):=un fun t10=>un fun bn=>un fun aY=>un fun bh=>un fun aS ca=>JB C offset t8 t9 t10 bn aY bh aS ca (fun y=>some (Sum.inl y)) (fun r=>some (Sum.inr r))
def awe (C:ae):cE:=bG 17 UD [EQ,EQ,EQ,H1,H1,H1,H1,H1,H1] [[1,2,3,0,0,0,0,0,0,0]] (@JB C) bm
theorem awf (C:ae):aW C (awe C) 71 (Lp [1,0,0] 71):=bE UD [EQ,EQ,EQ,H1,H1,H1,H1,H1,H1] [[1,2,3,0,0,0,0,0,0,0]] (@JB C) (aG an)
def ah6 (C:ae) (final:LV) (offset bn aY bh aS:Int) (aR:LV):Option LV:=
 (Loop (X9 C offset final (final.length:Int)) (0,bn,aY,bh,aS,aR)).bind (un fun lq=>un fun (kI:Bool)=>un fun PD=>un fun JC=>un fun JD=>un fun (A1:Int) (A3:LV)=>
  some [V.int .i64 PD,V.int .i64 JC,.int .u64 JD,.int .u64 A1,.list bt A3])
theorem awg {final:LV} {offset bn aY bh aS:Int} {aR:LV} {r:Option LV} (h:ah6 CC final offset bn aY bh aS aR=r):CC Gk [.list ao final,V.int .i64 offset,V.int .i64 bn,V.int .i64 aY,.int .u64 bh,.int .u64 aS,.list bt aR]=r:=bj (aU (awf CC) an) h
def JE (C:ae) (offset p:Int) (t11:LV) (t12 t13:Int) (t18:LV) (t19 t20 bn aY bh aS:Int) (ca:LV) {β:Type} (kn:(Int×Int×Int×Int×Int×LV)→Option β) (kr:(Int×Bool×Int×Int×Int×Int×LV)→Option β):Option β:=
 bif decide (t20<t19) then
  (idx t18 t20).bind fun x2=>
  (C Gp [V.int .i64 (wrap .i64 (p+offset)),V.int .i64 t20,V.int .i64 (wrap .i64 (x2.toInt+offset)),V.int .i64 bn,V.int .i64 aY,.int .u64 bh,.int .u64 aS,.list bt ca]).bind fun r3=>
  kn (wrap .i64 (t20+1),(V.nth r3 0).toInt,(V.nth (r3.drop 1) 0).toInt,(V.nth ((r3.drop 1).drop 1) 0).toInt,(V.nth (((r3.drop 1).drop 1).drop 1) 0).toInt,(V.nth (r3.drop 4) 0).toList)
 else
  kr (t20,decide (t20<t19),bn,aY,bh,aS,ca)
def Ya (C:ae) (offset p:Int) (t11:LV) (t12 t13:Int) (t18:LV) (t19:Int):=un fun t20=>un fun bn=>un fun aY=>un fun bh=>un fun aS ca=>JE C offset p t11 t12 t13 t18 t19 t20 bn aY bh aS ca (fun y=>some (Sum.inl y)) (fun r=>some (Sum.inr r))
def JF (C:ae) (offset:Int) (t11:LV) (t12 t13 bn aY bh aS:Int) (ca:LV) {β:Type} (kn:(Int×Int×Int×Int×Int×LV)→Option β) (kr:(Int×Bool×Int×Int×Int×Int×LV)→Option β):Option β:=
 bif decide (t13<t12) then
  (idx t11 t13).bind fun x1=>
  (Loop (Ya C offset t13 t11 t12 t13 x1.toList (x1.toList.length:Int)) (0,bn,aY,bh,aS,ca)).bind (un fun kI=>un fun (od:Bool)=>un fun JC=>un fun JD=>un fun A1=>un fun (JG:Int) (uO:LV)=>
   kn (wrap .i64 (t13+1),JC,JD,A1,JG,uO))
 else
  kr (t13,decide (t13<t12),bn,aY,bh,aS,ca)
def Yb (C:ae) (offset:Int) (t11:LV) (t12:Int):=un fun t13=>un fun bn=>un fun aY=>un fun bh=>un fun aS ca=>JF C offset t11 t12 t13 bn aY bh aS ca (fun y=>some (Sum.inl y)) (fun r=>some (Sum.inr r))
def ah7 (C:ae):cE:=bG 81 UA [EQ,EQ,EQ,EQ,EQ,EQ,EQ,H1,H1,H1,H1,H1,H1] [[1,2,3,4,5,6,7,0,0,0,0,0,0,0]] (@JE C) (bG 33 UB [EQ,EQ,EQ,H1,H1,H1,H1,H1,H1] [[1,2,3,0,0,0,0,0,0,0]] (@JF C) bm)
theorem awh (C:ae):aW C (ah7 C) 68 (Lp [1,1,0,0,1,1,0,0,1,1,0,0] 68):=bE UA [EQ,EQ,EQ,EQ,EQ,EQ,EQ,H1,H1,H1,H1,H1,H1] [[1,2,3,4,5,6,7,0,0,0,0,0,0,0]] (@JE C) (aG an)
theorem awi (C:ae):aW C (ah7 C) 68 (Lp [1,1,0,0] 68):=bE UB [EQ,EQ,EQ,H1,H1,H1,H1,H1,H1] [[1,2,3,0,0,0,0,0,0,0]] (@JF C) (aG (aU (awh C) an))
def ah8 (C:ae) (bO bP:Int) (bu bY:LV) (offset bn aY bh aS:Int) (aR:LV):Option LV:=
 (Loop (Yb C offset bY (bY.length:Int)) (0,bn,aY,bh,aS,aR)).bind (un fun xV=>un fun (xW:Bool)=>un fun awj=>un fun awk=>un fun awl=>un fun (awm:Int) (qC:LV)=>
  some [V.int .i64 awj,V.int .i64 awk,.int .u64 awl,.int .u64 awm,.list bt qC])
theorem awn {bO bP:Int} {bu bY:LV} {offset bn aY bh aS:Int} {aR:LV} {r:Option LV} (h:ah8 CC bO bP bu bY offset bn aY bh aS aR=r):CC Gi [V.int .i64 bO,V.int .i64 bP,.list ao bu,.list ar bY,V.int .i64 offset,V.int .i64 bn,V.int .i64 aY,.int .u64 bh,.int .u64 aS,.list bt aR]=r:=bj (aU (awi CC) an) h
def JH (C:ae) (final:LV) (to t14:Int) (Yc:LV) (t15 bn aY bh aS:Int) (bC:LV) {β:Type} (kn:(Int×Int×Int×Int×Int×LV)→Option β) (kr:(Int×Bool×Int×Int×Int×Int×LV)→Option β):Option β:=
 bif decide (t15<t14) then
  aq Yc t15 fun x1=>
  bif decide ((((x1.cell 2).toInt):Int)<(final.length:Int)) then
  (idx final ((x1.cell 2).toInt)).bind fun x2=>
  bif x2.toBool then
   (C Gp [V.int .i64 ((x1.cell 0).toInt),V.int .i64 ((x1.cell 1).toInt),V.int .i64 to,V.int .i64 bn,V.int .i64 aY,.int .u64 bh,.int .u64 aS,.list bt bC]).bind fun r3=>
   kn (wrap .i64 (t15+1),(V.nth r3 0).toInt,(V.nth (r3.drop 1) 0).toInt,(V.nth ((r3.drop 1).drop 1) 0).toInt,(V.nth (((r3.drop 1).drop 1).drop 1) 0).toInt,(V.nth (r3.drop 4) 0).toList)
  else
   kn (wrap .i64 (t15+1),bn,aY,bh,aS,bC)
  else
  kn (wrap .i64 (t15+1),bn,aY,bh,aS,bC)
 else
  kr (t15,decide (t15<t14),bn,aY,bh,aS,bC)
def Yd (C:ae) (final:LV) (to t14:Int) (Yc:LV):=un fun t15=>un fun bn=>un fun aY=>un fun bh=>un fun aS bC=>JH C final to t14 Yc t15 bn aY bh aS bC (fun y=>some (Sum.inl y)) (fun r=>some (Sum.inr r))
def awo (C:ae):cE:=bG 17 UC [EQ,EQ,EQ,H1,H1,H1,H1,H1,EQ,H1] [[1,2,3,0,0,0,0,0,0,9,0]] (@JH C) bm
theorem awp (C:ae):aW C (awo C) 69 (Lp [1,0,0] 69):=bE UC [EQ,EQ,EQ,H1,H1,H1,H1,H1,EQ,H1] [[1,2,3,0,0,0,0,0,0,9,0]] (@JH C) (aG an)
def ah9 (C:ae) (final:LV) (to bn aY bh aS:Int) (aR:LV):Option LV:=
 bif Nat.ble (aR.length*24) aX then
  (Loop (Yd C final to (aR.length:Int) aR) (0,bn,aY,bh,aS,aR)).bind (un fun kI=>un fun (od:Bool)=>un fun JC=>un fun JD=>un fun A1=>un fun (JG:Int) (uO:LV)=>
   some [V.int .i64 JC,V.int .i64 JD,.int .u64 A1,.int .u64 JG,.list bt uO])
 else none
theorem awq {final:LV} {to bn aY bh aS:Int} {aR:LV} {r:Option LV} (h:ah9 CC final to bn aY bh aS aR=r):CC MO [.list ao final,V.int .i64 to,V.int .i64 bn,V.int .i64 aY,.int .u64 bh,.int .u64 aS,.list bt aR]=r:=bj (aU (awp CC) an) h
def DR (C:ae) (q t18 t19:Int) (t26:Bool) (e9 fA:Int) (gM gy:LV) (cy cz iD iw bn aY bh aS:Int) (bC bQ:LV) {β:Type} (kr:(Int)→Option β):Option β:=
 bif t26 then
  (C xD [V.int .i64 q]).bind fun r3=>
  kr (wrap .u64 ((BitVec.ofInt (IntKind.bits .u64) aS|||BitVec.ofInt (IntKind.bits .u64) ((V.nth r3 0).toInt)).toNat))
 else
  kr aS
def A4 (C:ae) (q t18 t19:Int) (t37:LV) (t38 e9 fA:Int) (gM gy:LV) (cy cz iD iw bn aY bh aS:Int) (bC:LV) (t39:Int) (bQ:LV) {β:Type} (kn:(Int×LV)→Option β) (kr:(Int×Bool×LV)→Option β):Option β:=
 bif decide (t39<t38) then
  (idx t37 t39).bind fun x6=>
  bif Nat.ble ((bQ.length+([.agg [V.int .i64 q,V.int .i64 t39,V.int .i64 x6.toInt]]:LV).length)*24) aX then
  kn (wrap .i64 (t39+1),bQ++([.agg [V.int .i64 q,V.int .i64 t39,V.int .i64 x6.toInt]]:LV))
  else none
 else
  kr (t39,decide (t39<t38),bQ)
def A5 (C:ae) (q t18 t19:Int) (t37:LV) (t38 e9 fA:Int) (gM gy:LV) (cy cz iD iw bn aY bh aS:Int) (bC:LV):=un fun t39 bQ=>A4 C q t18 t19 t37 t38 e9 fA gM gy cy cz iD iw bn aY bh aS bC t39 bQ (fun y=>some (Sum.inl y)) (fun r=>some (Sum.inr r))
def yp (C:ae) (t18 e9 fA:Int) (gM gy:LV) (cy cz iD iw bn aY bh:Int) (bC:LV) (t19 aS:Int) (bQ:LV) {β:Type} (kn:(Int×Int×LV)→Option β) (kr:(Int×Bool×Int×LV)→Option β):Option β:=
 bif decide (t19<t18) then
  (idx gM t19).bind fun x2=>
  DR C t19 t18 t19 x2.toBool e9 fA gM gy cy cz iD iw bn aY bh aS bC bQ (fun jC=>
   (idx gy t19).bind fun x5=>
   (Loop (A5 C t19 t18 t19 x5.toList (x5.toList.length:Int) e9 fA gM gy cy cz iD iw bn aY bh jC bC) (0,bQ)).bind (un fun kJ=>un fun (oe:Bool) (A3:LV)=>
    kn (wrap .i64 (t19+1),jC,A3)))
 else
  kr (t19,decide (t19<t18),aS,bQ)
def A6 (C:ae) (t18 e9 fA:Int) (gM gy:LV) (cy cz iD iw bn aY bh:Int) (bC:LV):=un fun t19=>un fun aS bQ=>yp C t18 e9 fA gM gy cy cz iD iw bn aY bh bC t19 aS bQ (fun y=>some (Sum.inl y)) (fun r=>some (Sum.inr r))
def Ye (C:ae):cE:=gG 431 TY [[1,2,3,5,6,7,8,9,10,11,12,13,14,15,0,17,18]] (@DR C) (bG 129 TZ [EQ,EQ,EQ,EQ,EQ,H1,EQ,EQ,EQ,EQ,EQ,EQ,EQ,EQ,EQ,EQ,EQ,EQ,EQ,H1] [[1,2,3,4,5,0,0,7,8,9,10,11,12,13,14,15,16,17,18,19,0]] (@A4 C) (bG 49 T4 [EQ,H1,EQ,EQ,EQ,EQ,EQ,EQ,EQ,EQ,EQ,EQ,EQ,H1,EQ,H1] [[1,0,0,3,4,5,6,7,8,9,10,11,12,13,0,15,0]] (@yp C) bm))
theorem awr (C:ae):aW C (Ye C) 26 (Cd 26 [1,1,0,1,0,0,1,1,0,0,1,0,1,0] [1,1,0,1,0,0,1,1,0,0,1,0,1,1] 26):=gF TY [[1,2,3,5,6,7,8,9,10,11,12,13,14,15,0,17,18]] (@DR C) (aG an) (aG an)
theorem aws (C:ae):aW C (Ye C) 26 (Lp [1,1,0,1,0,0,1,1,0,0,1,1,1,0,0] 26):=bE TZ [EQ,EQ,EQ,EQ,EQ,H1,EQ,EQ,EQ,EQ,EQ,EQ,EQ,EQ,EQ,EQ,EQ,EQ,EQ,H1] [[1,2,3,4,5,0,0,7,8,9,10,11,12,13,14,15,16,17,18,19,0]] (@A4 C) (aG an)
theorem awt (C:ae):aW C (Ye C) 26 (Lp [1,1,0,1,0,0] 26):=bE T4 [EQ,H1,EQ,EQ,EQ,EQ,EQ,EQ,EQ,EQ,EQ,EQ,EQ,H1,EQ,H1] [[1,0,0,3,4,5,6,7,8,9,10,11,12,13,0,15,0]] (@yp C) (aG (aU (awr C) (aU (aws C) an)))
def Yf (C:ae) (aO bR:Int) (dc dB:LV):Option LV:=
 (C xD [V.int .i64 bR]).bind fun r1=>
 (Loop (A6 C (dc.length:Int) aO bR dc dB 0 0 0 0 aO (dc.length:Int) ((V.nth r1 0).toInt) ([]:LV)) (0,0,([]:LV))).bind (un fun xU=>un fun (xV:Bool)=>un fun (Yg:Int) (xY:LV)=>
  some [V.int .i64 aO,V.int .i64 (dc.length:Int),.int .u64 ((V.nth r1 0).toInt),.int .u64 Yg,.list bt xY])
theorem aia {aO bR:Int} {dc dB:LV} {r:Option LV} (h:Yf CC aO bR dc dB=r):CC Ct [V.int .i64 aO,V.int .i64 bR,.list ao dc,.list ar dB]=r:=bj (aU (awt CC) an) h
def gH (p x q:Nat):Ed:=⟨(p:Int),(x:Int),(q:Int)⟩
def aN (L S:Nat) (st fin:Nat) (l:List Ed):List V:=[.int .i64 (L:Int),.int .i64 (S:Int),.int .u64 (st:Int),.int .u64 (fin:Int),.list bt (l.map Ed.enc)]
def fm (n:Nat) (g:Nat→List Ed):List Ed:=(List.range n).flatMap g
theorem aib {g:Nat→List Ed}:fm 0 g=[]:=rfl
theorem PE {n:Nat} {g:Nat→List Ed}:fm (n+1) g=fm n g++g n:=by simp[fm,yO]
theorem aic {n:Nat} {g:Nat→List Ed} {e:Ed}:e∈fm n g↔∃i,i<n∧e∈g i:=by simp[fm]
theorem Yh {n k:Nat} {g:Nat→List Ed} (h: ∀i,i<n→(g i).length≤k):(fm n g).length≤n*k:=by
 induction n with
 | zero=>simp[fm]
 | succ n ih=>
  rw[PE,dd,yC];have:=ih fun i hi=>h i (by omega);have:=h n (by omega);omega
theorem yq {X R:Type} {step:X→Option (X ⊕ R)} (n:Nat) (s:Nat→X) (r:R) {x:X} (hx:x=s 0) (h: ∀i,i<n→step (s i)=some (.inl (s (i+1)))) (he:step (s n)=some (.inr r)):Loop step x=some r:=by rw[hx];exact eh n s r h he
theorem qK {a b:Nat} (h:a+b≤1000000000):wrap .i64 ((a:Int)+(b:Int))=((a+b:Nat):Int):=by rw[dM];omega
theorem JI {l:List Ed} {p x q:Nat}:l.map Ed.enc++[V.agg [.int .i64 (p:Int),.int .i64 (x:Int),.int .i64 (q:Int)]]=(l++[gH p x q]).map Ed.enc:=by simp[gH,Ed.enc]
section
variable {L S st fin:Nat} {l:List Ed}
theorem aid {p x q:Nat} (h:l.length≤1000000):CC Gp [.int .i64 (p:Int),.int .i64 (x:Int),.int .i64 (q:Int),.int .i64 (L:Int),.int .i64 (S:Int),.int .u64 (st:Int),.int .u64 (fin:Int),.list bt (l.map Ed.enc)]=some (aN L S st fin (l++[gH p x q])):=by
 refine awb ?_;unfold ah3;refine bT (cap (by simp;omega) (by omega)) ?_;rw[JI];rfl
theorem aie {q:Nat} (hq:q<64) (hs:st<2^64):CC Gj [.int .i64 (q:Int),.int .i64 (L:Int),.int .i64 (S:Int),.int .u64 (st:Int),.int .u64 (fin:Int),.list bt (l.map Ed.enc)]=some (aN L S (st|||2^q) fin l):=by
 refine awc ?_;unfold ah4;refine bT (bU (by omega)) ?_;rw[Int.toNat_natCast,GX hq,u64_or hs (mU (by omega) hq)];rfl
theorem awu {q:Nat} (hq:q<64) (hs:fin<2^64):CC MS [.int .i64 (q:Int),.int .i64 (L:Int),.int .i64 (S:Int),.int .u64 (st:Int),.int .u64 (fin:Int),.list bt (l.map Ed.enc)]=some (aN L S st (fin|||2^q) l):=by
 refine awd ?_;unfold ah5;refine bT (bU (by omega)) ?_;rw[Int.toNat_natCast,GX hq,u64_or hs (mU (by omega) hq)];rfl
theorem awv (h:S≤64):CC Gh [.int .i64 (L:Int),.int .i64 (S:Int)]=some (.bool false::aN L S 0 0 []):=by
 refine ah2 ?_;unfold X8;exact bF (cJ (by omega)) rfl
theorem aww (h:64<S):CC Gh [.int .i64 (L:Int),.int .i64 (S:Int)]=some [.bool true]:=by
 refine ah2 ?_;unfold X8;exact bT (bU (by omega)) rfl
def ic (fin:Nat) (f:Nat→Bool) (off:Nat):Nat→Nat
 | 0=>fin
 | i+1=>if f i=true then ic fin f off i|||2^(i+off) else ic fin f off i
theorem Yi {f:Nat→Bool} {off:Nat}: ∀{n j:Nat},(ic fin f off n).testBit j=(fin.testBit j||(decide (off≤j∧j<n+off)&&f (j-off)))
 | 0,j=>by
  rw[yP];simp[ic]
 | n+1,j=>by
  unfold ic;by_cases hf:f n=true
  ·rw[ah hf,Ec,Yi,yI];by_cases hj:j=n+off
   ·subst hj;rw[bU (p:=n+off=n+off) rfl,bU (p:=off≤n+off∧n+off<n+1+off) (by omega),show n+off-off=n by omega,hf];simp
   ·rw[cJ (p:=n+off=j) (by omega)];have:(off≤j∧j<n+off)↔(off≤j∧j<n+1+off):=by omega
    simp only[this,Bool.or_false]
  ·rw[ag hf,Yi];by_cases hj:j=n+off
   ·subst hj;rw[show n+off-off=n by omega,Bool.eq_false_iff.2 hf];simp
   ·have:(off≤j∧j<n+off)↔(off≤j∧j<n+1+off):=by omega
    simp only[this]
theorem JJ {f:Nat→Bool} {off k:Nat} (hf:fin<2^k): ∀{n:Nat},n+off≤k→ic fin f off n<2^k
 | 0,_=>hf
 | n+1,h=>by
  unfold ic;have ih:=JJ (f:=f) (off:=off) hf (n:=n) (by omega);split
  ·exact yL ih (mU (by omega) (by omega))
  ·exact ih
theorem awx {n off:Nat} {f:Nat→Bool} (ho:n+off≤64) (hs:fin<2^64):CC Gk [.list ao (bV n f),.int .i64 (off:Int),.int .i64 (L:Int),.int .i64 (S:Int),.int .u64 (st:Int),.int .u64 (fin:Int),.list bt (l.map Ed.enc)]=some (aN L S st (ic fin f off n) l):=by
 refine awg ?_;unfold ah6;rw[show (bV n f).length=n from db];refine bs (eh n (fun i=>((i:Int),(L:Int),(S:Int),(st:Int),(ic fin f off i:Int),l.map Ed.enc)) ((n:Int),false,(L:Int),(S:Int),(st:Int),(ic fin f off n:Int),l.map Ed.enc) (fun i hi=> ?_) ?_) ?_
 ·simp only[X9,JB,un];refine bT (cN hi) ?_;refine bs (np hi) ?_;have bf:=JJ (f:=f) (off:=off) hs (n:=i) (by omega);cases hf:f i with
  | true=>
   refine bT rfl ?_;rw[qK (by omega)];refine bs (awu (by omega) bf) ?_;rw[cG (by omega),show ic fin f off (i+1)=ic fin f off i|||2^(i+off) from ah hf];rfl
  | false=>
   refine bF rfl ?_;rw[cG (by omega),show ic fin f off (i+1)=ic fin f off i from ag (by rw[hf];simp)]
 ·simp only[X9,JB,un];refine bF (bp (az _)) ?_;rw[bp (az _)]
 ·rfl
def p8 (a:Da) (off p:Nat):List Ed:=tab a.L fun x=>gH (p+off) x (a.nx p x+off)
def eH (a:Da) (off:Nat):List Ed:=fm a.n (p8 a off)
theorem yr {a:Da} {off:Nat} {e:Ed}:e∈eH a off↔∃p x,p<a.n∧x<a.L∧e=gH (p+off) x (a.nx p x+off):=by
 unfold eH p8;rw[aic];constructor
 ·rintro ⟨p,hp,he⟩;obtain ⟨x,hx,rfl⟩:=uB.1 he;exact ⟨p,x,hp,hx,rfl⟩
 ·rintro ⟨p,x,hp,hx,rfl⟩;exact ⟨p,hp,uB.2 ⟨x,hx,rfl⟩⟩
theorem uU {a:Da} (h:a.Ok) {off:Nat} {n:Nat}:(fm n (p8 a off)).length≤n*6:=Yh fun p _=>by unfold p8;rw[db];exact h.l6
theorem aif {a:Da} (h:a.Ok) {off:Nat} (ho:off≤1000) (hl:l.length≤100000):CC Gi (dN a [.int .i64 (off:Int),.int .i64 (L:Int),.int .i64 (S:Int),.int .u64 (st:Int),.int .u64 (fin:Int),.list bt (l.map Ed.enc)])=some (aN L S st fin (l++eH a off)):=by
 have hn:=h.cU;have h6:=h.l6;refine awn ?_;unfold ah8;rw[show a.bz.length=a.n from db];refine bs (yq a.n (fun i=>((i:Int),(L:Int),(S:Int),(st:Int),(fin:Int),(l++fm i (p8 a off)).map Ed.enc)) ((a.n:Int),false,(L:Int),(S:Int),(st:Int),(fin:Int),(l++eH a off).map Ed.enc) (by rw[aib,j4];rfl) (fun p hp=> ?_) ?_) ?_
 ·have hlen:=uU h (off:=off) (n:=p);simp only[Yb,JF,un];refine bT (cN hp) ?_;refine bs (np hp) ?_;rw[show (ep a.L (a.nx p)).toList=tab a.L fun x=>nV (a.nx p x) from rfl,db];refine bs (yq a.L (fun i=>((i:Int),(L:Int),(S:Int),(st:Int),(fin:Int),((l++fm p (p8 a off))++tab i fun x=>gH (p+off) x (a.nx p x+off)).map Ed.enc)) ((a.L:Int),false,(L:Int),(S:Int),(st:Int),(fin:Int),((l++fm p (p8 a off))++p8 a off p).map Ed.enc) (by rw[Ha,j4];rfl) (fun x hx=> ?_) ?_) ?_
  ·have hq:=h.fL hp hx;simp only[Ya,JE,un];refine bT (cN hx) ?_;refine bs (np hx) ?_;rw[show (nV (a.nx p x)).toInt=((a.nx p x:Nat):Int) from rfl,qK (by omega),qK (by omega)];refine bs (aid (by rw[dd,dd,db];omega)) ?_;rw[cG (by omega),gg,←fN];rfl
  ·simp only[Ya,JE,un];refine bF (bp (az _)) ?_;rw[bp (az _)];rfl
  ·simp only[un];rw[cG (by omega),PE,←fN]
 ·simp only[Yb,JF,un];refine bF (bp (az _)) ?_;rw[bp (az _)];rfl
 ·rfl
def oY (n:Nat) (f:Nat→Bool) (to:Nat) (l:List Ed):List Ed:=l.flatMap fun e=>if e.t.toNat<n∧f e.t.toNat=true then [⟨e.f,e.l,(to:Int)⟩] else []
theorem aih {n to:Nat} {f:Nat→Bool} {e:Ed}:e∈oY n f to l↔∃e'∈l,e'.t.toNat<n∧f e'.t.toNat=true∧e=⟨e'.f,e'.l,(to:Int)⟩:=by
 unfold oY;rw[List.mem_flatMap];constructor
 ·rintro ⟨a,ha,h⟩;split at h
  ·next c=>exact ⟨a,ha,c.1,c.2,by simpa using h⟩
  ·cases h
 ·rintro ⟨a,ha,h1,h2,h3⟩;exact ⟨a,ha,by rw[ah ⟨h1,h2⟩];simpa using h3⟩
theorem Yj {n to:Nat} {f:Nat→Bool}: ∀{l:List Ed},(oY n f to l).length≤l.length
 | []=>by simp[oY]
 | e::l=>by
  have ih:=Yj (n:=n) (to:=to) (f:=f) (l:=l);unfold oY at*
  rw[yH,dd,List.length_cons];split
  ·rw[List.length_singleton];omega
  ·rw[List.length_nil];omega
theorem awy {n to i:Nat} {f:Nat→Bool} (hi:i<l.length):oY n f to (l.take (i+1))=oY n f to (l.take i)++(if l[i].t.toNat<n∧f l[i].t.toNat=true then [⟨l[i].f,l[i].l,(to:Int)⟩] else []):=by
 unfold oY;rw[Kt hi,List.flatMap_append];simp
theorem awz {n to:Nat} {f:Nat→Bool} (hE: ∀e∈l,0≤e.f∧0≤e.l∧0≤e.t) (hl:l.length≤100000) (hn:n≤1000):CC MO [.list ao (bV n f),.int .i64 (to:Int),.int .i64 (L:Int),.int .i64 (S:Int),.int .u64 (st:Int),.int .u64 (fin:Int),.list bt (l.map Ed.enc)]=some (aN L S st fin (l++oY n f to l)):=by
 refine awq ?_;unfold ah9;refine bT (by rw[fo,v8,cH];omega) ?_;rw[cH];refine bs (yq l.length (fun i=>((i:Int),(L:Int),(S:Int),(st:Int),(fin:Int),(l++oY n f to (l.take i)).map Ed.enc)) ((l.length:Int),false,(L:Int),(S:Int),(st:Int),(fin:Int),(l++oY n f to l).map Ed.enc) (by rw[List.take_zero,show oY n f to []=[] from rfl,j4];rfl) (fun i hi=> ?_) ?_) ?_
 ·simp only[Yd,JH,un];refine bT (cN hi) ?_;refine (eo (i:=i) (v:=l[i].enc) (by simp[hi])).trans ?_;obtain ⟨e1,e2,e3⟩:=hE l[i] (ff hi);have hlen:=Yj (n:=n) (to:=to) (f:=f) (l:=l.take i);have akO:=List.length_take_le i l;rw[Ed.mK,Ed.mL,Ed.mM,awy hi,show (bV n f).length=n from db];obtain ⟨t,ht⟩:=Int.eq_ofNat_of_zero_le e3;obtain ⟨p,hp⟩:=Int.eq_ofNat_of_zero_le e1;obtain ⟨x,hx⟩:=Int.eq_ofNat_of_zero_le e2;rw[ht,hp,hx,Int.toNat_natCast];by_cases c:t<n
  ·refine bT (cN c) ?_;refine bs (np c) ?_;cases hf:f t with
   | true=>
    refine bT rfl ?_;refine bs (aid (by rw[dd];omega)) ?_;rw[cG (by omega),ah ⟨c,rfl⟩,←fN];rfl
   | false=>
    refine bF rfl ?_;rw[cG (by omega),ag (by simp),j4]
  ·refine bF (bp (by omega)) ?_;rw[cG (by omega),ag (fun h=>c h.1),j4]
 ·simp only[Yd,JH,un];refine bF (bp (az _)) ?_;rw[bp (az _),u0]
 ·rfl
end
theorem aii {a:Da} (h:a.Ok) (hs:a.n≤64):CC Ct (dh a)=some (aN a.L a.n (2^a.st) (ic 0 a.fin 0 a.n) (eH a 0)):=by
 have h6:=h.l6;have b9:=h.s;refine aia ?_;unfold Yf;refine bs (Pb (by omega)) ?_;rw[show a.bI.length=a.n from db];refine bs (eh a.n (fun i=>((i:Int),(ic 0 a.fin 0 i:Int),(fm i (p8 a 0)).map Ed.enc)) ((a.n:Int),false,(ic 0 a.fin 0 a.n:Int),(eH a 0).map Ed.enc) (fun p hp=> ?_) ?_) ?_
 ·have hlen:=uU h (off:=0) (n:=p);simp only[A6,yp,un];refine bT (cN hp) ?_;refine bs (np hp) ?_;have bf:=JJ (f:=a.fin) (off:=0) (fin:=0) (k:=64) (by omega) (n:=p) (by omega);have key: ∀(F:Nat),((idx a.bz (p:Int)).bind fun x5=>
   (Loop (A5 CC (p:Int) (a.n:Int) (p:Int) x5.toList (x5.toList.length:Int) (a.L:Int) (a.st:Int) a.bI a.bz 0 0 0 0 (a.L:Int) (a.n:Int) ((2^a.st:Nat):Int) (F:Int) ([]:List V)) (0,(fm p (p8 a 0)).map Ed.enc)).bind (un fun (kJ:Int)=>un fun (oe:Bool) (A3:List V)=>
    some (Sum.inl (wrap .i64 ((p:Int)+1),(F:Int),A3):(Int×Int×List V) ⊕ (Int×Bool×Int×List V))))=some (Sum.inl (((p+1:Nat):Int),(F:Int),(fm (p+1) (p8 a 0)).map Ed.enc)):=by
   intro F;refine bs (np hp) ?_;rw[show (ep a.L (a.nx p)).toList=tab a.L fun x=>nV (a.nx p x) from rfl,db];refine bs (yq a.L (fun i=>((i:Int),(fm p (p8 a 0)++tab i fun x=>gH (p+0) x (a.nx p x+0)).map Ed.enc)) ((a.L:Int),false,(fm p (p8 a 0)++p8 a 0 p).map Ed.enc) (by rw[Ha,j4];rfl) (fun x hx=> ?_) ?_) ?_
   ·simp only[A5,A4,un];refine bT (cN hx) ?_;refine bs (np hx) ?_;refine bT (cap (by rw[cH,dd,db];simp;omega) (by omega)) ?_;rw[show (nV (a.nx p x)).toInt=((a.nx p x:Nat):Int) from rfl,JI,cG (by omega),gg,←fN];rfl
   ·simp only[A5,A4,un];refine bF (bp (az _)) ?_;rw[bp (az _)];rfl
   ·simp only[un];rw[cG (by omega),PE]
  unfold DR;cases hf:a.fin p with
  | true=>
   refine bT rfl ?_;refine bs (Pb (by omega)) ?_;rw[show (V.nth [V.int .u64 ((2^p:Nat):Int)] 0).toInt=((2^p:Nat):Int) from rfl,u64_or bf (mU (by omega) (by omega)),show ic 0 a.fin 0 (p+1)=ic 0 a.fin 0 p|||2^p from ah hf];exact key _
  | false=>
   refine bF rfl ?_;rw[show ic 0 a.fin 0 (p+1)=ic 0 a.fin 0 p from ag (by rw[hf];simp)];exact key _
 ·simp only[A6,yp,un];refine bF (bp (az _)) ?_;rw[bp (az _)];rfl
 ·rfl
def ox (E:List Ed):Nat→List Nat→Nat→Prop
 | i,[],k=>i=k
 | i,x::w,k=> ∃j,gH i x j∈E∧ox E j w k
theorem ox.ext {A B:List Ed} (h: ∀e,e∈A→e∈B): ∀{w:List Nat} {i k:Nat},ox A i w k→ox B i w k
 | [],_,_,p=>p
 | _::_,_,_,⟨j,h1,h2⟩=>⟨j,h _ h1,ox.ext h h2⟩
theorem ox.app {E:List Ed}: ∀{v w:List Nat} {i k:Nat},ox E i (v++w) k↔∃j,ox E i v j∧ox E j w k
 | [],w,i,k=>by simp[ox]
 | x::v,w,i,k=>by
  simp only[List.cons_append,ox];constructor
  ·rintro ⟨j,h1,h2⟩;obtain ⟨m,h3,h4⟩:=ox.app.1 h2;exact ⟨m,⟨j,h1,h3⟩,h4⟩
  ·rintro ⟨m,⟨j,h1,h3⟩,h4⟩;exact ⟨j,h1,ox.app.2 ⟨m,h3,h4⟩⟩
theorem awA {p x q p' x' q':Nat}:gH p x q=gH p' x' q'↔p=p'∧x=x'∧q=q':=by
 unfold gH;simp only[Ed.mk.injEq];omega
theorem awB {e:Ed} (h1:0≤e.f) (h2:0≤e.l) (h3:0≤e.t):e=gH e.f.toNat e.l.toNat e.t.toNat:=by
 unfold gH;cases e;simp only[Ed.mk.injEq] at*
 omega
theorem Yk {E:List Ed} (hE: ∀e∈E,0≤e.f∧0≤e.l∧0≤e.t): ∀(w:List Nat) (s k:Nat),(w.foldl (sn E) s).testBit k=true↔∃i,s.testBit i=true∧ox E i w k
 | [],s,k=>by simp[ox]
 | x::w,s,k=>by
  rw[List.foldl_cons,Yk hE w];constructor
  ·rintro ⟨j,h1,h2⟩;unfold sn at h1;rw[Ir,yK] at h1;obtain ⟨e,he,h3⟩:=h1;simp only[aK,fl] at h3;obtain ⟨c1,c2,c3⟩:=hE e he;refine ⟨e.f.toNat,h3.2.1,j,?_,h2⟩;have:e=gH e.f.toNat x j:=by
    rw[awB c1 c2 c3];rw[awA];simp only[gH,Int.toNat_natCast];exact ⟨trivial,by omega,h3.2.2⟩
   exact this▸he
  ·rintro ⟨i,h1,j,h2,h3⟩;refine ⟨j,?_,h3⟩;unfold sn;rw[Ir,yK];refine ⟨_,h2,?_⟩;simp only[aK,fl,gH,Int.toNat_natCast];exact ⟨trivial,h1,trivial⟩
theorem awC {fin s:Nat}:sf fin s=true↔∃k,s.testBit k=true∧fin.testBit k=true:=by
 unfold sf;rw[nF,beq_eq_false_iff_ne];constructor
 ·intro h;obtain ⟨k,hk⟩:=Nat.exists_testBit_of_ne_zero h;rw[Eh,aK] at hk;exact ⟨k,hk⟩
 ·rintro ⟨k,h1,h2⟩ h0;have:(s&&&fin).testBit k=true:=by rw[Eh,h1,h2];rfl
  rw[h0,Nat.zero_testBit] at this;cases this
def JK (st fin:Nat) (l:List Ed) (w:List Nat):Prop:= ∃i k,st.testBit i=true∧fin.testBit k=true∧ox l i w k
section
variable {L S st fin:Nat} {l:List Ed} (h:A0 L S st fin l)
include h
theorem awD (hn: ¬jV (dZ L S st fin l) L S):(iz (dZ L S st fin l) L S).Ok:=by
 unfold iz;rw[ag hn];exact fc (AJ (uT h) hn)
theorem awE (hn: ¬jV (dZ L S st fin l) L S):(iz (dZ L S st fin l) L S).L=L:=by
 unfold iz;rw[ag hn];exact oo (AJ (uT h) hn)
theorem awF (hn: ¬jV (dZ L S st fin l) L S) {w:List Nat} (hw:WL L w):(iz (dZ L S st fin l) L S).acc (iz (dZ L S st fin l) L S).st w=true↔JK st fin l w:=by
 have aw:=AJ (uT h) hn;unfold iz;rw[ag hn,af9 aw hw,show (ia (dZ L S st fin l) L S).st=0 from rfl,atE (uT h) hw];show sf fin (w.foldl (sn (rQ l)) st)=true↔_;have hE: ∀e∈rQ l,0≤e.f∧0≤e.l∧0≤e.t:=fun e he=>by
  have:=h.E e (yg.1 he);unfold Ed.In at this;exact ⟨this.1,this.2.2.2.2.1,this.2.2.1⟩
 rw[awC];unfold JK;constructor
 ·rintro ⟨k,h1,h2⟩;obtain ⟨i,h3,h4⟩:=(Yk hE w st k).1 h1;exact ⟨i,k,h3,h2,h4.ext fun e he=>yg.1 he⟩
 ·rintro ⟨i,k,h1,h2,h3⟩;exact ⟨k,(Yk hE w st k).2 ⟨i,h1,h3.ext fun e he=>yg.2 he⟩,h2⟩
theorem awG (hS:S≤9): ¬jV (dZ L S st fin l) L S:=fun ho=>by
 have h1:=Dm (uT h) (2^S);have h2:2^S≤2^9:=sa (by omega) hS;have h3:(512:Nat)<(aj L (sn (dZ L S st fin l).E) (dZ L S st fin l).st (2^S)).length:=ho;have h4:(2:Nat)^9=512:=by decide
 omega
end
end Go.AM
