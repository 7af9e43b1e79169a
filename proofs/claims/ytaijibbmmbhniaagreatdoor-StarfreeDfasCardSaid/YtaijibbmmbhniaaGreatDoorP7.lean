/-
  Functions of the program, lifted to plain data.
-/
import Derived.Sort.AssemblyPlain
import Derived.Test.YtaijibbmmbhniaaGreatDoorP6
noncomputable section
set_option linter.unusedVariables false
set_option linter.unusedSimpArgs false
set_option maxRecDepth 100000
namespace Go.AM
open Go.IntKind (wrap)
open Go.Proofs
def uV (q:Nat):V:= .int .u64 (q:Int)
def uM (S:List Nat):List V:=gL uV 0 S
theorem AL (a b:Nat):il (uV a) (uV b)=decide (a=b):=apf a b
theorem Pg {S:List Nat} {i:Nat} (h:i<S.length):(U1 S)[i]? =some (uV S[i]):=W8 (cp h)
theorem ag3 {x:Nat} (hx:x<2^64):CC GD [uV x,.list dp []]=some [nV 0,.list dp (U1 [x]),.list kJ (uM [x])]:=by
 refine atm ?_;unfold agY;rw[CT hx];exact bT rfl (bT rfl (bT (cap (by simp) (by omega)) rfl))
theorem aty {S:List Nat} {x:Nat} (hx:x<2^64) (hl:S.length≤1000000):CC SZ [uV x,.list dp (U1 S),.list kJ (uM S)]=some [nV ((dj S x).idxOf x),.list kJ (uM (dj S x)),.list dp (U1 (dj S x))]:=by
 refine atn ?_;unfold agZ;have e1:=qG AL x S 0;rw[CT hx];refine bT rfl ?_;rw[show (V.int .u64 (x:Int))=uV x from rfl,CU];by_cases h:x∈S
 ·refine bF (by rw[show eB (uV x) (uM S)=_ from e1];simpa using h) ?_;have e2:=uH AL x (.int .i64 0) S 0 h;rw[show fP (uV x) (uM S) (.int .i64 0)=_ from e2,ah h,ed,show dj S x=S by unfold dj;rw[ah h]];rfl
 ·refine bT (by rw[show eB (uV x) (uM S)=_ from e1];simpa using h) ?_;refine bT rfl ?_;refine bT (cap (by rw[ov];simp;omega) (by omega)) ?_;have e2:=uI AL x S 0 h;rw[ed] at e2;rw[ov,show eC (uV x) (.int .i64 (S.length:Int)) (uM S)=_ from e2,ag h,show dj S x=S++[x] by unfold dj;rw[ag h]];simp[U1,nV,uM,uV]
def sn (E:List Ed) (s x:Nat):Nat:=kp E s (x:Int)
def sf (fin s:Nat):Bool:= !((s&&&fin)==0)
structure Nat6 (n:Nf) (L S:Nat):Prop where
 code:n.code=0
 ok:n.Ok
 hL:n.L=(L:Int)
 hS:n.S=(S:Int)
namespace Nat6
variable {n:Nf} {L S:Nat} (h:Nat6 n L S)
include h
theorem good:n.Good:=Nf.ar8 h.code
theorem l1:1≤L:=by have:=h.good.L1;have:=h.hL;omega
theorem l6:L≤6:=by have:=h.good.L6;have:=h.hL;omega
theorem uR:S≤64:=by have:=h.good.S64;have:=h.hS;omega
theorem sS:n.S.toNat=S:=by have:=h.hS;omega
theorem lL:n.L.toNat=L:=by have:=h.hL;omega
theorem edF: ∀e∈n.E,e.f.toNat<S:=fun e he=>by have:=h.good.E e he;have:=h.hS;unfold Ed.In at*;omega
theorem edT: ∀e∈n.E,e.t.toNat<S:=fun e he=>by have:=h.good.E e he;have:=h.hS;unfold Ed.In at*;omega
theorem st:n.st<2^S:=by have:=h.good.st;rwa [h.sS] at this
theorem fin:n.fin<2^S:=by have:=h.good.fin;rwa [h.sS] at this
theorem pow:2^S≤2^64:=sb (by omega) h.uR
theorem next (s x:Nat):sn n.E s x<2^S:=W4 h.edT
end Nat6
def fO (n:Nf) (L S:Nat):List Nat:=aj L (sn n.E) n.st (2^S)
def ib (n:Nf) (L S:Nat):Da:=gV L (sn n.E) (sf n.fin) (fO n L S)
def jV (n:Nf) (L S:Nat):Prop:=512<(fO n L S).length
def tV (n:Nf) (L S:Nat):List V:=U2 (nz L S n.E)
def Ph (m:Da) (e:Int) (X:V):List V:=[.int .i64 (m.L:Int),.int .i64 (m.st:Int),.int .i64 e,.list ao m.bI,.list ar m.bz,X]
section
variable {n:Nf} {L S:Nat} (h:Nat6 n L S)
include h
theorem atz {s x:Nat} (hs:s<2^S) (hx:x<L):CC uv [uV s,nV x,.list gx (tV n L S)]=some [uV (sn n.E s x),.list gx (tV n L S)]:=by
 have hp:=h.pow;refine atk ?_;unfold agW;have e1:idx (tV n L S) (x:Int)=some (.list dp (U1 (pY S n.E (x:Int)))):=by
  rw[So rfl];unfold tV U2;rw[gE,W9 hx];rfl
 refine bs e1 ?_;have hr:Dm (pY S n.E (x:Int)):=ati h.uR h.edT;have e2:=ath hr (s:=s) (by omega);have hl:(pY S n.E (x:Int)).length=S:=by simp[pY]
 rw[hl,atj (by omega) h.uR h.edF] at e2;refine bs e2 ?_;rfl
theorem atA {s:Nat} (hs:s<2^S):CC v9 (uV s::ny n [])=some (.bool (sf n.fin s)::ny n []):=by
 have hp:=h.pow;have hf:=h.fin;refine atl ?_;unfold agX;have e:wrap .u64 ((BitVec.ofInt (IntKind.bits .u64) (s:Int)&&&BitVec.ofInt (IntKind.bits .u64) (n.fin:Int)).toNat)=((s&&&n.fin:Nat):Int):=u64_and (by omega) (by omega);rw[e];have e2:(((s&&&n.fin:Nat):Int) != 0)=sf n.fin s:=by
  unfold sf;rw[nL];simp
 rw[e2];rfl
theorem sub_lt (i:Nat): ∀s∈aj L (sn n.E) n.st i,s<2^S:=afv (P:=fun s=>s<2^S) h.st (fun s _ x _=>h.next s x) i
theorem Dp (i:Nat):(aj L (sn n.E) n.st i).length≤2^S:=by
 have:=VT (L:=L) (next:=sn n.E) (a0:=n.st) (U:=List.range (2^S)) (jG.2 h.st) (fun s _ x _=>jG.2 (h.next s x)) i;simpa using this
theorem atB {T U:List Nat} {s:Nat} (hs:s<2^S) (hT:T.length≤1000) (hp:aJ (sn n.E) T s L <+: U) {i c1 c2:Int} {l1 l2 l3 l4:List V}:
  Loop (Pf CC (L:Int) i (s:Int) ((List.replicate (((L:Nat):Int).toNat) (V.int .i64 0)).length:Int) n.L n.S (n.st:Int) (n.fin:Int) (n.E.map Ed.enc) c1 c2 (L:Int) 0 l1 l2 l3 l4) (0,tV n L S,List.replicate (((L:Nat):Int).toNat) (V.int .i64 0),U1 T,uM T)=
   some ((L:Int),false,tV n L S,(tab L fun x=>nV (U.idxOf (sn n.E s x))),U1 (aJ (sn n.E) T s L),uM (aJ (sn n.E) T s L)):=by
 have h6:=h.l6;have Dq:=h.pow;rw[Int.toNat_natCast,lx,db];refine (eh L (fun x=>((x:Int),tV n L S,(tab L fun j=>if j<x then nV (U.idxOf (sn n.E s j)) else nV 0),U1 (aJ (sn n.E) T s x),uM (aJ (sn n.E) T s x))) _ (fun x hx=> ?_) ?_)
 ·simp only[Pf,IP,un,aq,aI];refine bT (cO hx) ?_;refine bs (atz h hs hx) ?_;have hl:=Wq (next:=sn n.E) T s x;have hn:=h.next s x;refine bs (aty (S:=aJ (sn n.E) T s x) (x:=sn n.E s x) (by omega) (by omega)) ?_;refine (fv hx).trans ?_;rw[cG (by omega),Int.toNat_natCast,nq];have e:(dj (aJ (sn n.E) T s x) (sn n.E s x)).idxOf (sn n.E s x)=U.idxOf (sn n.E s x):=(uB ((rH T s (show x+1≤L by omega)).trans hp) uA).symm;show some (Sum.inl _)=some (Sum.inl _);refine congrArg (fun x=>some (Sum.inl x)) ?_;refine gm rfl (gm rfl (gm ?_ (gm rfl rfl)));refine dR fun j _=> ?_;by_cases hj:j=x
  ·rw[ah hj,bp,hj,←e];rfl
  ·rw[ag hj];by_cases cS:j<x
   ·rw[ah cS,bp]
   ·rw[ag cS,cf]
 ·simp only[Pf,IP,un,aq,aI];refine bF (bt (az _)) ?_;rw[bt (az _)];have:(tab L fun j=>if j<L then nV (U.idxOf (sn n.E s j)) else nV 0)=tab L fun j=>nV (U.idxOf (sn n.E s j)):=dR fun j hj=>ah hj;rw[this]
theorem Xk {i:Nat} (eQ:i<(aj L (sn n.E) n.st i).length) (hlen:(aj L (sn n.E) n.st i).length≤512) {U:List Nat} (hp:aj L (sn n.E) n.st (i+1) <+: U) {l1 l2 l3 l4:List V} (Dd:l3.length≤1000) (WC:l4.length≤1000):
  Dn CC (L:Int) 0 0 (L:Int) 0 l1 l2 ((i:Int),tV n L S,n.L,n.S,(n.st:Int),(n.fin:Int),n.E.map Ed.enc,U1 (aj L (sn n.E) n.st i),uM (aj L (sn n.E) n.st i),l3,l4)=
   if 512<(aj L (sn n.E) n.st (i+1)).length then some (.inr (.inl (3,tV n L S,n.L,n.S,(n.st:Int),(n.fin:Int),n.E.map Ed.enc,0,0,[],[],[])))
   else some (.inl (((i+1:Nat):Int),tV n L S,n.L,n.S,(n.st:Int),(n.fin:Int),n.E.map Ed.enc,U1 (aj L (sn n.E) n.st (i+1)),uM (aj L (sn n.E) n.st (i+1)),l3++[V.bool (sf n.fin (aj L (sn n.E) n.st i)[i])],l4++[V.list aF (tab L fun x=>nV (U.idxOf (sn n.E (aj L (sn n.E) n.st i)[i] x)))])):=by
 have h6:=h.l6;have hq:=sub_lt h i _ (ff eQ);have gT:aj L (sn n.E) n.st (i+1)=aJ (sn n.E) (aj L (sn n.E) n.st i) (aj L (sn n.E) n.st i)[i] L:=G4 (cp eQ);simp only[Dn,IQ,un,aq];refine bT (bU (by rw[ov];omega)) ?_;refine (eu (Pg eQ)).trans ?_;refine bT (mG (by omega) (by omega)) ?_;refine bs (atB h hq (by omega) (U:=U) (by rw[←gT];exact hp)) ?_;rw[←gT];by_cases pz:512<(aj L (sn n.E) n.st (i+1)).length
 ·rw[ah pz];refine bT (bU (by rw[ov];omega)) ?_;rfl
 ·rw[ag pz];refine bF (cJ (by rw[ov];omega)) ?_;refine bT (cap (by simp;omega) (by omega)) ?_;refine bs (atA h hq) ?_;refine bT (cap (by simp;omega) (by omega)) ?_;rw[cG (by omega)];rfl
theorem atC (hn: ¬jV n L S): ∃X,CC zY (nV L::uV n.st:: .list gx (tV n L S)::ny n [])=some ([nV L,nV 0,.int .i64 0,.list gx (tV n L S)]++(ny n []++[.list ao (ib n L S).bI,.list ar (ib n L S).bz,X])):=by
 have h6:=h.l6;have b9:=h.st;have Dq:=h.pow;have hd:(aj L (sn n.E) n.st (2^S)).length≤2^S:=Dp h _;have hle: ∀i,(aj L (sn n.E) n.st i).length≤(fO n L S).length:=Ot hd;have OK:(fO n L S).length≤512:=by unfold jV at hn;omega
 refine ⟨.list dp (U1 (fO n L S)),ag1 ?_⟩;unfold Xg;refine bs (ag3 (x:=n.st) (by omega)) ?_;have key:Loop (Dn CC (L:Int) 0 0 (L:Int) 0 ([]:List V) ([]:List V)) (0,tV n L S,n.L,n.S,(n.st:Int),(n.fin:Int),n.E.map Ed.enc,U1 [n.st],uM [n.st],([]:List V),([]:List V))=
   some (.inr (((fO n L S).length:Int),false,tV n L S,n.L,n.S,(n.st:Int),(n.fin:Int),n.E.map Ed.enc,U1 (fO n L S),uM (fO n L S),(ib n L S).bI,(ib n L S).bz)):=by
  refine (eh (fO n L S).length (fun i=>((i:Int),tV n L S,n.L,n.S,(n.st:Int),(n.fin:Int),n.E.map Ed.enc,U1 (aj L (sn n.E) n.st i),uM (aj L (sn n.E) n.st i),(tab i fun j=>V.bool ((ib n L S).fin j)),(tab i fun j=>ew L ((ib n L S).nx j)))) _ (fun i hi=> ?_) ?_)
  ·have eQ:=xS hd hi;have WE:i<2^S:=gC hi hd;have ta:(aj L (sn n.E) n.st i)[i]=(fO n L S)[i]:=(lq (show i≤2^S by omega)).getElem eQ;have WG:=hle (i+1);have afK:=hle i;have:=Xk h eQ (by omega) (U:=fO n L S) (lq (by omega)) (l1:=[]) (l2:=[]) (l3:=(tab i fun j=>V.bool ((ib n L S).fin j))) (l4:=(tab i fun j=>ew L ((ib n L S).nx j))) (by rw[db];omega) (by rw[db];omega);rw[cf,ta] at this;rw[this,gi,gi];have e1:(ib n L S).fin i=sf n.fin (fO n L S)[i]:=Aj hi;have e2:ew L ((ib n L S).nx i)= .list aF (tab L fun x=>nV ((fO n L S).idxOf (sn n.E (fO n L S)[i] x))):=by
    unfold ew;refine congrArg _ (dR fun x hx=> ?_);rw[show (ib n L S).nx i x=_ from we hi hx];rfl
   rw[e1,e2]
  ·simp only[Dn,IQ,un,aq];rw[show aj L (sn n.E) n.st (fO n L S).length=fO n L S from Ak hd,ov];refine bF (bt (az _)) ?_;rw[bt (az _)];have e3:(ib n L S).n=(fO n L S).length:=np;unfold Da.bI Da.bz;rw[e3];rfl
 refine bs key ?_;rfl
theorem atD (hn:jV n L S): ∃X,CC zY (nV L::uV n.st:: .list gx (tV n L S)::ny n [])=some ([nV 0,nV 0,.int .i64 3,.list gx (tV n L S)]++(ny n []++[.list ao [],.list ar [],X])):=by
 have h6:=h.l6;have b9:=h.st;have Dq:=h.pow;obtain ⟨m,WH,lf,OL⟩:=Ov (Ou (show 512<(aj L (sn n.E) n.st (2^S)).length from hn)) (by omega);refine ⟨.list dp [],ag1 ?_⟩;unfold Xg;refine bs (ag3 (x:=n.st) (by omega)) ?_;have key: ∃r,Loop (Dn CC (L:Int) 0 0 (L:Int) 0 ([]:List V) ([]:List V)) (0,tV n L S,n.L,n.S,(n.st:Int),(n.fin:Int),n.E.map Ed.enc,U1 [n.st],uM [n.st],([]:List V),([]:List V))=some r∧r=(.inl (3,tV n L S,n.L,n.S,(n.st:Int),(n.fin:Int),n.E.map Ed.enc,0,0,[],[],[])):=by
  refine uE (fun i st=> ∃l3 l4:List V,l3.length=i∧l4.length=i∧st=((i:Int),tV n L S,n.L,n.S,(n.st:Int),(n.fin:Int),n.E.map Ed.enc,U1 (aj L (sn n.E) n.st i),uM (aj L (sn n.E) n.st i),l3,l4)) _ m 0 _ (fun i _ hi st b9=> ?_) (fun st b9=> ?_) ⟨[],[],rfl,rfl,rfl⟩
  ·obtain ⟨l3,l4,e3,e4,rfl⟩:=b9;obtain ⟨h1,h2⟩:=lf i (by omega);have h3:=(lf (i+1) (by omega)).2;have:=Xk h h1 h2 (lG _) (l1:=[]) (l2:=[]) (l3:=l3) (l4:=l4) (by omega) (by omega);rw[cf] at this;exact ⟨_,this,_,_,by simp[e3],by simp[e4],rfl⟩
  ·obtain ⟨l3,l4,e3,e4,rfl⟩:=b9;rw[ed] at*
   obtain ⟨h1,h2⟩:=lf m (by omega);have:=Xk h h1 h2 (lG _) (l1:=[]) (l2:=[]) (l3:=l3) (l4:=l4) (by omega) (by omega);rw[bp] at this;exact ⟨_,this,rfl⟩
 obtain ⟨r,h1,rfl⟩:=key;refine bs h1 ?_;rfl
theorem atE (hn: ¬jV n L S): ∃X,CC GA (ny n [])=some (Ph (ib n L S) 0 (.list dp X)):=by
 obtain ⟨X,hX⟩:=atC h hn;refine ⟨X.toList,ag2 ?_⟩;unfold Xj;have hv:=agH n h.ok;rw[h.code] at hv;refine bs hv (bF rfl ?_);have hs:=agS n h.ok h.good;rw[h.lL,h.sS] at hs;refine bs hs ?_;refine bs ((congrArg (fun z=>CC zY (.int .i64 z::uV n.st:: .list gx (tV n L S)::ny n [])) h.hL).trans hX) ?_;rfl
theorem atF (hn:jV n L S): ∃X,CC GA (ny n [])=some (Ph zD 3 (.list dp X)):=by
 obtain ⟨X,hX⟩:=atD h hn;refine ⟨X.toList,ag2 ?_⟩;unfold Xj;have hv:=agH n h.ok;rw[h.code] at hv;refine bs hv (bF rfl ?_);have hs:=agS n h.ok h.good;rw[h.lL,h.sS] at hs;refine bs hs ?_;refine bs ((congrArg (fun z=>CC zY (.int .i64 z::uV n.st:: .list gx (tV n L S)::ny n [])) h.hL).trans hX) ?_;rfl
theorem AN (hn: ¬jV n L S):(ib n L S).Ok:=by
 unfold jV at hn;exact VQ (Dp h _) h.l1 h.l6 (show (fO n L S).length≤512 by omega)
theorem atG {w:List Nat} (hw:WL L w):(ib n L S).acc 0 w=sf n.fin (w.foldl (sn n.E) n.st):=by
 have h1:=aes (fin:=sf n.fin) (Dp h _) (G6 _) hw;have h2:=aeq (L:=L) (next:=sn n.E) (a0:=n.st) (2^S);rw[cp (G6 _)] at h2;rw[eo h2] at h1;exact h1
end
end Go.AM
set_option maxRecDepth 100000
namespace Go.AM
open Go.IntKind (wrap)
open Go.Proofs Go.Sort
section
variable {α:Type} {enc:α→V}
def uS (enc:α→V) (d:Array α):List V:=d.toList.map enc
theorem jW (d:Array α):(uS enc d).length=d.size:=by simp[uS]
theorem jD (d:Array α) (i:Nat) (x:α):(uS enc d).set i (enc x)=uS enc (d.setIfInBounds i x):=by
 unfold uS;rw[Array.toList_setIfInBounds,List.map_set]
variable [Inhabited α]
theorem jX {d:Array α} {i:Nat} (h:i<d.size):(uS enc d)[i]? =some (enc d[i]!):=by
 unfold uS;rw[gE,o9,ml h,getElem!_pos d i h];rfl
theorem lD {d:Array α} {i j:Nat} {x:α} (h:i<d.size):(uS enc (d.setIfInBounds j x))[i]? =some (enc (d.setIfInBounds j x)[i]!):=jX (by rw[ku];exact h)
theorem jE (a b:Nat):(a:Int)+(b:Int)=((a+b:Nat):Int):=(Int.natCast_add a b).symm
theorem fC (a:Nat):(a:Int)+1=((a+1:Nat):Int):=rfl
theorem yg (a:Nat):((a+1:Nat):Int)-1=(a:Int):=by omega
theorem IS (a:Nat):(a:Int)*2=((a*2:Nat):Int):=by omega
theorem qL {a b:Nat} (h:b≤a):(a:Int)-(b:Int)=((a-b:Nat):Int):=by omega
theorem nA {a:Nat} (h:1≤a):(a:Int)-1=((a-1:Nat):Int):=by omega
theorem divC (a b:Nat):Int.tdiv (a:Int) (b:Int)=((a/b:Nat):Int):=by rw[Int.tdiv_eq_ediv_of_nonneg (by omega)];rfl
theorem rO {p:Prop} [Decidable p] (h:p):decide p=true:=bU h
theorem wE {p:Prop} [Decidable p] (h: ¬p):decide p=false:=cJ h
theorem Dr (p:α→Bool) (d:Array α) (j i:Nat):scanUp p d j i=if i≤j then (if p d[i]! =true then scanUp p d j (i+1) else i) else i:=by
 conv=>lhs;rw[scanUp]
 by_cases h:i≤j
 ·rw[ah h];simp only[h,wO,Bo]
 ·rw[ag h,ag (by simp[h])]
theorem Xl (p:α→Bool) (d:Array α) (i j:Nat):scanDown p d i (j+1)=if i≤j+1 then (if p d[j+1]! =true then scanDown p d i j else j+1) else j+1:=by
 conv=>lhs;rw[scanDown]
 by_cases h:i≤j+1
 ·rw[ah h];simp only[h,wO,Bo]
 ·rw[ag h,ag (by simp[h])]
variable {lt:α→α→Bool}
theorem ag4 (a j:Nat) (d:Array α):insInner lt a (j+1) d=if j+1>a&&lt d[j+1]! d[j]! then insInner lt a j (swp d (j+1) j) else d:=rfl
theorem Xm {a:Nat}: ∀(j:Nat) (d:Array α),(insInner lt a j d).size=d.size
 | 0,d=>rfl
 | j+1,d=>by
  rw[ag4];split
  ·rw[Xm j,size_swp]
  ·rfl
theorem IT (hi first:Nat): ∀(n root:Nat) (d:Array α),hi-root≤n→(siftDown lt hi first root d).size=d.size:=by
 intro n
 induction n with
 | zero=>intro root d h;rw[siftDown,rX (by omega)]
 | succ n ih=>
  intro root d h;rw[siftDown];split
  ·rfl
  ·split
   ·split
    ·rfl
    ·split
     ·rw[ih _ _ (by omega),size_swp]
     ·rfl
   ·split
    ·rfl
    ·rw[ih _ _ (by omega),size_swp]
theorem Xn (hi first:Nat): ∀(k:Nat) (d:Array α),(heapBuild lt hi first k d).size=d.size
 | 0,d=>rfl
 | k+1,d=>by rw[heapBuild,Xn,IT _ _ _ _ _ (az _)]
end
end Go.AM
set_option maxRecDepth 100000
namespace Go.AM
open Go.IntKind (wrap)
open Go.Proofs
def IU (C:ae) (t7:LV) (t8 t9:Int) (outs:LV) (Xo Xp Xq k':Int) {β:Type} (kn:Int→Option β) (kr:(Int×Bool)→Option β):Option β:=
 bif decide (k'>0) then
  aq outs (wrap .i64 (k'-1)) fun x2=>
  (C Gh [V.int .i64 Xo,V.int .i64 Xp,V.int .i64 Xq,V.int .i64 ((x2.cell 0).toInt),V.int .i64 ((x2.cell 1).toInt),V.int .i64 ((x2.cell 2).toInt)]).bind fun r3=>
  bif (V.nth r3 0).toBool then
  kn (wrap .i64 (k'-1))
  else
  kr (k',(V.nth r3 0).toBool)
 else
  kr (k',false)
def IV (C:ae) (t7:LV) (t8 t9:Int) (outs:LV) (Xo Xp Xq:Int):=fun k'=>IU C t7 t8 t9 outs Xo Xp Xq k' (fun y=>some (Sum.inl y)) (fun r=>some (Sum.inr r))
def IW (C:ae) (t7:LV) (t8 t9:Int) (outs:LV) {β:Type} (kn:(Int×LV)→Option β) (kr:(Int×Bool×LV)→Option β):Option β:=
 bif decide (t9<t8) then
  (idx t7 t9).bind fun x1=>
  (Loop (IV C t7 t8 t9 outs ((x1.cell 0).toInt) ((x1.cell 1).toInt) ((x1.cell 2).toInt)) (outs.length:Int)).bind (un fun (iQ:Int) (og:Bool)=>
   bif iQ==0 then
   bif (decide (0≤iQ))&&(decide (iQ≤(outs.length:Int))) then
    bif Nat.ble ((([]:LV).length+((outs.drop 0).take ((iQ.toNat)-0)).length)*24) aX then
    bif Nat.ble (((([]:LV)++((outs.drop 0).take ((iQ.toNat)-0))).length+([.agg [V.int .i64 ((x1.cell 0).toInt),V.int .i64 ((x1.cell 1).toInt),V.int .i64 ((x1.cell 2).toInt)]]:LV).length)*24) aX then
     bif (decide (0≤iQ))&&(decide (iQ≤(outs.length:Int))) then
     bif Nat.ble ((((([]:LV)++((outs.drop 0).take ((iQ.toNat)-0)))++([.agg [V.int .i64 ((x1.cell 0).toInt),V.int .i64 ((x1.cell 1).toInt),V.int .i64 ((x1.cell 2).toInt)]]:LV)).length+((outs.drop (iQ.toNat)).take (outs.length-(iQ.toNat))).length)*24) aX then
      kn (wrap .i64 (t9+1),((([]:LV)++((outs.drop 0).take ((iQ.toNat)-0)))++([.agg [V.int .i64 ((x1.cell 0).toInt),V.int .i64 ((x1.cell 1).toInt),V.int .i64 ((x1.cell 2).toInt)]]:LV))++((outs.drop (iQ.toNat)).take (outs.length-(iQ.toNat))))
     else none
     else none
    else none
    else none
   else none
   else
   aq outs (wrap .i64 (iQ-1)) fun x6=>
   bif !(((((x6.cell 0).toInt):Int)==((x1.cell 0).toInt))&&(((((x6.cell 1).toInt):Int)==((x1.cell 1).toInt))&&(((((x6.cell 2).toInt):Int)==((x1.cell 2).toInt))&&true))) then
    bif (decide (0≤iQ))&&(decide (iQ≤(outs.length:Int))) then
    bif Nat.ble ((([]:LV).length+((outs.drop 0).take ((iQ.toNat)-0)).length)*24) aX then
     bif Nat.ble (((([]:LV)++((outs.drop 0).take ((iQ.toNat)-0))).length+([.agg [V.int .i64 ((x1.cell 0).toInt),V.int .i64 ((x1.cell 1).toInt),V.int .i64 ((x1.cell 2).toInt)]]:LV).length)*24) aX then
     bif (decide (0≤iQ))&&(decide (iQ≤(outs.length:Int))) then
      bif Nat.ble ((((([]:LV)++((outs.drop 0).take ((iQ.toNat)-0)))++([.agg [V.int .i64 ((x1.cell 0).toInt),V.int .i64 ((x1.cell 1).toInt),V.int .i64 ((x1.cell 2).toInt)]]:LV)).length+((outs.drop (iQ.toNat)).take (outs.length-(iQ.toNat))).length)*24) aX then
      kn (wrap .i64 (t9+1),((([]:LV)++((outs.drop 0).take ((iQ.toNat)-0)))++([.agg [V.int .i64 ((x1.cell 0).toInt),V.int .i64 ((x1.cell 1).toInt),V.int .i64 ((x1.cell 2).toInt)]]:LV))++((outs.drop (iQ.toNat)).take (outs.length-(iQ.toNat))))
      else none
     else none
     else none
    else none
    else none
   else
    kn (wrap .i64 (t9+1),outs))
 else
  kr (t9,decide (t9<t8),outs)
def IX (C:ae) (t7:LV) (t8:Int):=un fun t9 outs=>IW C t7 t8 t9 outs (fun y=>some (Sum.inl y)) (fun r=>some (Sum.inr r))
def ag5 (C:ae):cE:=bG 97 Uk [H1,EQ,EQ,EQ,EQ,EQ,EQ,EQ] [[0,2,3,4,0,5,6,7,8]] (@IU C) (bG 49 Ul [EQ,EQ,H1,H1] [[1,2,0,0,0]] (@IW C) bm)
theorem atH (C:ae):aW C (ag5 C) 40 (Lp [1,1,0,1,0,0,1,1,0,0,1,1,0,0,0] 40):=bE Uk [H1,EQ,EQ,EQ,EQ,EQ,EQ,EQ] [[0,2,3,4,0,5,6,7,8]] (@IU C) (aG an)
theorem atI (C:ae):aW C (ag5 C) 40 (Lp [1,1,0,1,0,0] 40):=bE Ul [EQ,EQ,H1,H1] [[1,2,0,0,0]] (@IW C) (aG (aU (atH C) an))
def ag6 (C:ae) (l:LV):Option LV:=
 (Loop (IX C l (l.length:Int)) (0,([]:LV))).bind (un fun kL=>un fun (oh:Bool) (AO:LV)=>
  some [.list bu AO])
theorem atJ {l:LV} {r:Option LV} (h:ag6 CC l=r):CC MH [.list bu l]=r:=bj (aU (atI CC) an) h
end Go.AM
set_option maxRecDepth 100000
set_option maxHeartbeats 1000000
namespace Go.AM
open Go.IntKind (wrap)
open Go.Proofs
theorem Ed.lt_irrefl (a:Ed): ¬a.lt a:=by unfold Ed.lt;omega
theorem Ed.lt_trans {a b c:Ed}:a.lt b→b.lt c→a.lt c:=by unfold Ed.lt;omega
theorem Ed.lt_asymm {a b:Ed}:a.lt b→¬b.lt a:=by unfold Ed.lt;omega
theorem Ed.ag7 {a b:Ed} (h1: ¬a.lt b) (h2: ¬b.lt a):a=b:=by
 cases a;cases b;simp only[Ed.lt,Ed.mk.injEq] at*
 omega
abbrev rP (E:List Ed):Prop:=E.Pairwise Ed.lt
def Ed.key (e:Ed):Nat:=(e.f.toNat*6+e.l.toNat)*64+e.t.toNat
theorem Ed.atK {a b:Ed} {L S:Int} (hL:L≤6) (hS:S≤64) (ha:a.In L S) (hb:b.In L S) (h:a.lt b):a.key<b.key:=by
 unfold Ed.In at ha hb;unfold Ed.lt at h;unfold Ed.key;omega
theorem atL {L S:Int} (hL:L≤6) (hS:S≤64): ∀(E:List Ed),rP E→(∀e∈E,e.In L S)→∀i (hi:i<E.length),i≤E[i].key:=by
 intro E h hE i
 induction i with
 | zero=>intro hi;omega
 | succ i ih=>
  intro hi;have h1:=ih (by omega);have h2:=(Bn.1 h) i (i+1) (by omega) hi (by omega);have:=Ed.atK hL hS (hE _ (ff _)) (hE _ (ff _)) h2;omega
theorem atM {L S:Int} (hL:L≤6) (hS:S≤64) {E:List Ed} (h:rP E) (hE: ∀e∈E,e.In L S):E.length≤24576:=by
 by_cases h0:E.length=0
 ·omega
 ·have h1:=atL hL hS E h hE (E.length-1) (by omega);have h2:=hE E[E.length-1] (ff _);unfold Ed.In at h2;unfold Ed.key at h1;omega
theorem Xr: ∀{A B:List Ed},rP A→rP B→(∀x,x∈A↔x∈B)→A=B
 | [],[],_,_,_=>rfl
 | [],b::B,_,_,h=>by have:=(h b).2 (by simp);cases this
 | a::A,[],_,_,h=>by have:=(h a).1 (by simp);cases this
 | a::A,b::B,hA,hB,h=>by
  have a1:=yK.1 hA;have b1:=yK.1 hB;have jr:a=b:=by
   have ha:=(h a).1 (by simp);have hb:=(h b).2 (by simp);rcases iR.1 ha with e|e
   ·exact e
   ·rcases iR.1 hb with e'|e'
    ·exact e'.symm
    ·exact absurd (a1.1 b e') (Ed.lt_asymm (b1.1 a e))
  subst jr;rw[Xr a1.2 b1.2 fun x=> ?_];constructor
  ·intro hx;rcases iR.1 ((h x).1 (by simp[hx])) with e|e
   ·subst e;exact absurd (a1.1 x hx) (Ed.lt_irrefl x)
   ·exact e
  ·intro hx;rcases iR.1 ((h x).2 (by simp[hx])) with e|e
   ·subst e;exact absurd (b1.1 x hx) (Ed.lt_irrefl x)
   ·exact e
def lE (out:List Ed) (e:Ed):Nat→Nat
 | 0=>0
 | k+1=>if e.lt (out.getD k default) then lE out e k else k+1
def rQ (out:List Ed) (e:Ed):List Ed:=
 if lE out e out.length=0∨¬out.getD (lE out e out.length-1) default=e then out.take (lE out e out.length)++[e]++out.drop (lE out e out.length) else out
def rR (l:List Ed):List Ed:=l.foldl rQ []
theorem IY (out:List Ed) (e:Ed): ∀k,lE out e k≤k
 | 0=>az _
 | k+1=>by unfold lE;split;exact Nat.le_succ_of_le (IY out e k);exact az _
theorem ag8 (out:List Ed) (e:Ed): ∀k i,lE out e k≤i→i<k→e.lt (out.getD i default)
 | 0,i,_,h=>by omega
 | k+1,i,h1,h2=>by
  unfold lE at h1;split at h1
  ·rename_i h3;by_cases hi:i=k
   ·subst hi;exact h3
   ·exact ag8 out e k i h1 (by omega)
  ·omega
theorem ag9 (out:List Ed) (e:Ed): ∀k,lE out e k≠0→¬e.lt (out.getD (lE out e k-1) default)
 | 0,h=>by simp[lE] at h
 | k+1,h=>by
  unfold lE at h⊢;split
  ·rename_i h3;rw[ah h3] at h;exact ag9 out e k h
  ·rename_i h3;simpa using h3
theorem atN {out:List Ed} {e x:Ed} (hk:lE out e out.length≤out.length):x∈rQ out e↔x=e∨x∈out:=by
 unfold rQ;split
 ·rename_i h;have:=List.take_append_drop (lE out e out.length) out;constructor
  ·intro hx;simp only[fJ,eW,jF] at hx;rcases hx with hx|hx|hx
   ·exact .inr (List.mem_of_mem_take hx)
   ·exact .inl hx
   ·exact .inr (List.mem_of_mem_drop hx)
  ·rintro (rfl|hx)
   ·simp
   ·rw[←this] at hx;simp only[eW] at hx;simp only[fJ,eW,jF];rcases hx with hx|hx
    ·exact .inl hx
    ·exact .inr (.inr hx)
 ·rename_i h;simp only[not_or,Classical.not_not] at h;constructor
  ·exact .inr
  ·rintro (rfl|hx)
   ·have h1:=h.2;have h2:lE out x out.length-1<out.length:=by omega
    rw[←h1];simp[h2]
   ·exact hx
theorem atO {out:List Ed} {e:Ed} (h:rP out):rP (rQ out e):=by
 have hk:=IY out e out.length;have up:=ag8 out e out.length;have dn:=ag9 out e out.length;unfold rQ;generalize hq:lE out e out.length=k at*
 split
 ·rename_i hc;have g:=Bn.1 h;have lk: ∀x∈out.take k,x.lt e:=by
   intro x hx;obtain ⟨i,hi,rfl⟩:=Ej hx;have eU:i<k:=by rw[kT] at hi;omega
   have sJ:i<out.length:=by omega
   rw[List.getElem_take];have IZ:k≠0:=by omega
   have h1:=dn IZ;have h2: ¬out.getD (k-1) default=e:=by
    rcases hc with hc|hc
    ·exact absurd hc IZ
    ·exact hc
   have qq:k-1<out.length:=by omega
   have e1:out.getD (k-1) default=out[k-1]:=by simp[qq]
   rw[e1] at h1 h2;have h3:out[k-1].lt e:=by
    by_cases h4:out[k-1].lt e
    ·exact h4
    ·exact absurd (Ed.ag7 h4 h1) h2
   by_cases hik:i=k-1
   ·subst hik;exact h3
   ·exact Ed.lt_trans (g i (k-1) sJ qq (by omega)) h3
  have kg: ∀y∈out.drop k,e.lt y:=by
   intro y hy;obtain ⟨i,hi,rfl⟩:=Ej hy;rw[Bh] at hi;rw[List.getElem_drop];have:=up (k+i) (by omega) (by omega);have e1:out.getD (k+i) default=out[k+i]:=by simp[show k+i<out.length by omega]
   rwa [e1] at this
  rw[rP,fJ,List.pairwise_append];refine ⟨h.sublist (List.take_sublist _ _),?_,?_⟩
  ·rw[List.singleton_append,yK];exact ⟨kg,h.sublist (List.drop_sublist _ _)⟩
  ·intro x hx y hy;rw[List.singleton_append,iR] at hy;rcases hy with rfl|hy
   ·exact lk x hx
   ·exact Ed.lt_trans (lk x hx) (kg y hy)
 ·exact h
theorem Xs: ∀(l out:List Ed),rP out→rP (l.foldl rQ out)∧∀x,x∈l.foldl rQ out↔x∈l∨x∈out
 | [],out,h=>⟨h,by simp⟩
 | e::l,out,h=>by
  obtain ⟨h1,h2⟩:=Xs l (rQ out e) (atO h);refine ⟨h1,fun x=> ?_⟩;rw[List.foldl_cons,h2,atN (IY _ _ _)];simp only[iR];constructor
  ·rintro (h|h|h)
   ·exact .inl (.inr h)
   ·exact .inl (.inl h)
   ·exact .inr h
  ·rintro ((h|h)|h)
   ·exact .inr (.inl h)
   ·exact .inl h
   ·exact .inr (.inr h)
theorem I4 (l:List Ed):rP (rR l):=(Xs l [] List.Pairwise.nil).1
theorem yh {l:List Ed} {x:Ed}:x∈rR l↔x∈l:=by
 have:=(Xs l [] List.Pairwise.nil).2 x;simpa[rR] using this
theorem atP (out:List Ed) (e:Ed):(rQ out e).length≤out.length+1:=by
 unfold rQ;have:=IY out e out.length;split
 ·simp only[dd,kT,Bh,List.length_cons,List.length_nil];omega
 ·omega
theorem aha {out:List Ed} {e:Ed} {t7:List V} {t8 t9:Int}: ∀k,k≤out.length→out.length<1152921504606846976→∃t,Loop (IV CC t7 t8 t9 (out.map Ed.enc) e.f e.l e.t) (k:Int)=some (((lE out e k:Nat):Int),t)
 | 0,_,_=>⟨false,di (by
   simp (disch:=omega) only[IV,IU,aM,ag,aq];rfl)⟩
 | k+1,hk,hs=>by
  obtain ⟨t,ih⟩:=aha (out:=out) (e:=e) (t7:=t7) (t8:=t8) (t9:=t9) k (by omega) hs;have e1:IV CC t7 t8 t9 (out.map Ed.enc) e.f e.l e.t ((k+1:Nat):Int)=bif decide (e.lt (out.getD k default)) then some (.inl (k:Int)) else some (.inr (((k+1:Nat):Int),decide (e.lt (out.getD k default)))):=by
   simp only[IV,IU,aq];rw[aM,bp,yg,dM,e7,aM,bp,aM,ah (by rw[cH];omega),Int.toNat_natCast];have hg:(out.map Ed.enc)[k]? =some (out.getD k default).enc:=by
    rw[gE,cp (by omega)];simp[show k<out.length by omega]
   rw[hg];simp only[Option.bind_some,Ed.mM,Ed.mN,Ed.mO,agF,V.ct,V.mE]
  unfold lE;by_cases h:e.lt (out.getD k default)
  ·rw[ah h];rw[bU h,cond_true] at e1;exact ⟨t,(ga e1).trans ih⟩
  ·rw[ag h];rw[cJ h,cond_false] at e1;exact ⟨_,di e1⟩
theorem I5 (a b:Ed):((a.f==b.f)&&((a.l==b.l)&&((a.t==b.t)&&true)))=decide (a=b):=by
 cases a;cases b;rw[nL];simp
theorem atQ (out:List Ed) (k:Nat) (e:Ed):((([]:List V)++(((out.map Ed.enc).drop 0).take (k-0)))++([e.enc]:List V))++(((out.map Ed.enc).drop k).take ((out.map Ed.enc).length-k))=(out.take k++[e]++out.drop k).map Ed.enc:=by
 simp;rw[Kw (by simp)]
theorem atS {l:List Ed} (hl:l.length≤1000000000):CC MH [.list bu (l.map Ed.enc)]=some [.list bu ((rR l).map Ed.enc)]:=by
 refine atJ ?_;unfold ag6;have:=VK (step:=IX CC (l.map Ed.enc) ((l.map Ed.enc).length:Int)) l (fun i (out:List Ed)=>((i:Int),out.map Ed.enc)) rQ (fun out=>((l.length:Int),false,out.map Ed.enc)) (fun i out=>out.length≤i) ?_ ?_ [] (az _)
 ·rw[show Loop (IX CC (l.map Ed.enc) ((l.map Ed.enc).length:Int)) (0,([]:List V))=_ from this.1];rfl
 ·intro i out hi ho;refine ⟨?_,kR (atP _ _) (by omega)⟩;obtain ⟨t,h1⟩:=aha (out:=out) (e:=l[i]) (t7:=l.map Ed.enc) (t8:=((l.map Ed.enc).length:Int)) (t9:=(i:Int)) out.length (az _) (by omega);have hk:=IY out l[i] out.length;simp only[IX,IW,un,aq];rw[aM,ah (by rw[cH];omega),AK hi,show l.getD i default=l[i] by simp[hi]];simp only[Option.bind_some,Ed.mM,Ed.mN,Ed.mO];rw[show ((out.map Ed.enc).length:Int)=((out.length:Nat):Int) by simp,h1];simp only[Option.bind_some,un,Ed.re];unfold rQ;generalize lE out l[i] out.length=k at*
  have ahb: ∀X:Option (((Int×List V)) ⊕ (Int×Bool×List V)),X=some (.inl (wrap .i64 ((i:Int)+1),((([]:List V)++(((out.map Ed.enc).drop 0).take (((k:Int).toNat)-0)))++([l[i].enc]:List V))++(((out.map Ed.enc).drop ((k:Int).toNat)).take ((out.map Ed.enc).length-((k:Int).toNat)))))→
    X=some (.inl (((i+1:Nat):Int),(out.take k++[l[i]]++out.drop k).map Ed.enc)):=by
   intro X hX;rw[hX,Int.toNat_natCast,atQ,fC,dM]
  have lens:(([]:List V).length+(((out.map Ed.enc).drop 0).take (((k:Int).toNat)-0)).length)*24≤aX∧
    ((([]:List V)++(((out.map Ed.enc).drop 0).take (((k:Int).toNat)-0))).length+([l[i].enc]:List V).length)*24≤aX∧
    (((([]:List V)++(((out.map Ed.enc).drop 0).take (((k:Int).toNat)-0)))++([l[i].enc]:List V)).length+(((out.map Ed.enc).drop ((k:Int).toNat)).take ((out.map Ed.enc).length-((k:Int).toNat))).length)*24≤aX:=by
   rw[wc];simp only[Int.toNat_natCast,dd,kT,Bh,cH,List.length_nil,List.length_cons];omega
  by_cases IZ:k=0
  ·rw[ah (Or.inl IZ),ry,bp];refine ahb _ ?_;rw[e7,aM,bp,aM,bp,vQ,ah lens.1,vQ,ah lens.2.1,e7,aM,bp,aM,bp,vQ,ah lens.2.2]
  ·rw[ry,cf,nA (by omega),wrap64 (x:=((k-1:Nat):Int)) (by omega) (by omega),e7,aM,bp,aM,bp,Int.toNat_natCast];have hg:(out.map Ed.enc)[k-1]? =some (out.getD (k-1) default).enc:=by
    rw[gE,cp (by omega)];simp[show k-1<out.length by omega]
   rw[hg];simp only[Option.bind_some,Ed.mM,Ed.mN,Ed.mO,I5];by_cases hc:out.getD (k-1) default=l[i]
   ·rw[ag (fun hx=>hx.elim IZ (fun h=>h hc)),bU hc];simp only[D6,cond_false];rw[fC,dM]
   ·rw[ah (Or.inr hc),cJ hc];simp only[Bool.not_false,cond_true];refine ahb _ ?_;rw[e7,aM,bp,aM,bp,vQ,ah lens.1,vQ,ah lens.2.1,e7,aM,bp,aM,bp,vQ,ah lens.2.2]
 ·intro out ho;simp only[IX,IW,un,aq];rw[cH,wE (by omega),cond_false]
end Go.AM
set_option maxRecDepth 100000
namespace Go.AM
open Go.IntKind (wrap)
open Go.Proofs
def Ds (C:ae) (I6 AP:Nat) (k' ow:Int) (ss:LV) {β:Type} (kn:(Int×Int×LV)→Option β) (kr:(Int×Int×Bool×LV)→Option β):Option β:=
 bif decide (ow<(AP:Int)) then
  bif (decide (0≤ow))&&(decide (ow<(AP:Int))) then
  (ss[I6+(ow.toNat)]?).bind fun x3=>
  bif (decide (0≤(wrap .i64 (ow-1))))&&(decide ((wrap .i64 (ow-1))<(AP:Int))) then
   (ss[I6+((wrap .i64 (ow-1):Int).toNat)]?).bind fun x4=>
   bif !(((((x3.cell 0).toInt):Int)==((x4.cell 0).toInt))&&(((((x3.cell 1).toInt):Int)==((x4.cell 1).toInt))&&(((((x3.cell 2).toInt):Int)==((x4.cell 2).toInt))&&true))) then
   bif (decide (0≤ow))&&(decide (ow<(AP:Int))) then
    (ss[I6+(ow.toNat)]?).bind fun x5=>
    aq ss k' fun x6=>
    kn (wrap .i64 (k'+1),wrap .i64 (ow+1),aI ss k' (.agg [V.int .i64 ((x5.cell 0).toInt),V.int .i64 ((x5.cell 1).toInt),V.int .i64 ((x5.cell 2).toInt)]))
   else none
   else
   kn (k',wrap .i64 (ow+1),ss)
  else none
  else none
 else
  kr (k',ow,decide (ow<(AP:Int)),ss)
def AQ (C:ae) (I6 AP:Nat):=un fun k'=>un fun ow ss=>Ds C I6 AP k' ow ss (fun y=>some (Sum.inl y)) (fun r=>some (Sum.inr r))
def Dt (C:ae) (ss:LV) (k':Int) {β:Type} (kn:Int→Option β) (kr:(LV ⊕ (Int×Bool))→Option β):Option β:=
 bif decide (k'<(ss.length:Int)) then
  aq ss k' fun x1=>
  aq ss (wrap .i64 (k'-1)) fun x2=>
  bif ((((x1.cell 0).toInt):Int)==((x2.cell 0).toInt))&&(((((x1.cell 1).toInt):Int)==((x2.cell 1).toInt))&&(((((x1.cell 2).toInt):Int)==((x2.cell 2).toInt))&&true)) then
  bif (decide (0≤k'))&&(decide (k'≤(ss.length:Int))) then
   (Loop (AQ C (k'.toNat) (ss.length-(k'.toNat))) (k',1,ss)).bind (un fun qM=>un fun k_8=>un fun (rI:Bool) (wF:LV)=>
    bif (decide (0≤qM))&&(decide (qM≤(wF.length:Int))) then
    bif (decide (0≤qM))&&(decide (qM≤((wF.take (qM.toNat)++(List.replicate (wF.length-(qM.toNat)) (V.agg [V.int .i64 0,V.int .i64 0,V.int .i64 0])++wF.drop ((qM.toNat)+(wF.length-(qM.toNat))))).length:Int))) then
     kr (.inl ((wF.take (qM.toNat)++(List.replicate (wF.length-(qM.toNat)) (V.agg [V.int .i64 0,V.int .i64 0,V.int .i64 0])++wF.drop ((qM.toNat)+(wF.length-(qM.toNat))))).take (qM.toNat)))
    else none
    else none)
  else none
  else
  kn (wrap .i64 (k'+1))
 else
  kr (.inr (k',decide (k'<(ss.length:Int))))
def AR (C:ae) (ss:LV):=fun k'=>Dt C ss k' (fun y=>some (Sum.inl y)) (fun r=>some (Sum.inr r))
def ahc (C:ae):cE:=bG 145 UO [H1,EQ,EQ,H1,H1] [[0,2,3,0,0,0]] (@Ds C) (bG 65 UP [true,false] [[0],[0,0,2]] (@Dt C) bm)
theorem atT (C:ae):aW C (ahc C) 89 (Lp [1,1,0,1,0,0,1,0,0,1,0,1,0,1,0,0] 89):=bE UO [H1,EQ,EQ,H1,H1] [[0,2,3,0,0,0]] (@Ds C) (aG an)
theorem atU (C:ae):aW C (ahc C) 89 (Lp [1,1,0,1,0,0] 89):=bE UP [true,false] [[0],[0,0,2]] (@Dt C) (aG (aU (atT C) an))
def Pj (C:ae) (ss:LV):Option LV:=
 bif decide ((ss.length:Int)<2) then
  some [V.bool true,.list bu ss]
 else
  (Loop (AR C ss) 1).bind (bN (fun (atV:LV)=>
   some [V.bool false,.list bu atV]) (un fun (azu:Int) (oY:Bool)=>
   some [V.bool true,.list bu ss]))
theorem Xt {ss:LV} {r:Option LV} (h:Pj CC ss=r):CC MU [.list bu ss]=r:=bj (aU (atU CC) an) h
def rS (prev:Ed):List Ed→List Ed
 | []=>[]
 | x::l=>if x=prev then rS x l else x::rS x l
def ma:List Ed→List Ed
 | []=>[]
 | x::l=>x::rS x l
theorem Xu {l:List Ed} {j:Nat} (h:j<l.length):l.take (j+1)=l.take j++[l.getD j default]:=by
 rw[Kv h];simp[h]
theorem ahd {l ss:List Ed} {j:Nat} (hl:ss.length=l.length) (h:ss.drop j=l.drop j) (hj:j<l.length):ss.getD j default=l.getD j default:=by
 have h1:=congrArg (fun x:List Ed=>x.getD 0 default) h;simpa[hj,hl] using h1
theorem I7 {l:List Ed} {i:Nat} (h:i<l.length):(l.map Ed.enc)[i]? =some (l.getD i default).enc:=by simp[h]
theorem atW (ss:List Ed) (m:Nat) (z:V) (hm:m≤ss.length):((((ss.map Ed.enc).take m++(List.replicate ((ss.map Ed.enc).length-m) z++(ss.map Ed.enc).drop (m+((ss.map Ed.enc).length-m)))).take m)=(ss.take m).map Ed.enc):=by
 rw[List.take_append_of_le_length (by simp;omega),Kw (by simp;omega),List.map_take]
theorem ahe: ∀(m:List Ed) (prev x:Ed),rS prev (m++[x])=rS prev m++(if x=(prev::m).getD m.length default then [] else [x])
 | [],prev,x=>by simp only[List.nil_append,rS,List.length_nil,List.getD_cons_zero]
 | y::m,prev,x=>by
  have ih:=ahe m y x;simp only[List.cons_append,rS,List.length_cons,List.getD_cons_succ];split
  ·exact ih
  ·rw[ih];rfl
theorem ahf {l:List Ed} {p:Nat} (h1:1≤p) (h2:p<l.length):ma (l.take (p+1))=ma (l.take p)++(if l.getD p default=l.getD (p-1) default then [] else [l.getD p default]):=by
 match l,p,h1,h2 with
 | y::l,p+1,_,h2=>
  simp only[List.length_cons] at h2;rw[List.take_succ_cons,List.take_succ_cons,ma,ma,Xu (by omega),ahe];simp only[List.getD_cons_succ,kT,Kp];rw[show min p l.length=p by omega];have:(y::l.take p).getD p default=(y::l).getD p default:=by
   match p with
   | 0=>rfl
   | q+1=>simp only[List.getD_cons_succ];rw[wV,wV,iJ (by omega)]
  rw[this];rfl
theorem ahg: ∀(m:List Ed) (prev:Ed),(prev::m).Pairwise (fun x y=> ¬y.lt x)→rP (prev::rS prev m)∧∀x,x∈prev::rS prev m↔x∈prev::m
 | [],prev,_=>⟨by simp[rS],by simp[rS]⟩
 | y::m,prev,h=>by
  have h1:=yK.1 h;obtain ⟨i1,i2⟩:=ahg m y h1.2;rw[rS];by_cases hc:y=prev
  ·rw[ah hc];subst hc;refine ⟨i1,fun x=> ?_⟩;rw[i2 x];simp
  ·rw[ag hc];have bf:prev.lt y:=by
    by_cases h2:prev.lt y
    ·exact h2
    ·exact absurd (Ed.ag7 h2 (h1.1 y (by simp))) fun e=>hc e.symm
   refine ⟨yK.2 ⟨fun x hx=> ?_,i1⟩,fun x=> ?_⟩
   ·rcases iR.1 hx with rfl|hx
    ·exact bf
    ·exact Ed.lt_trans bf ((yK.1 i1).1 x hx)
   ·rw[iR,i2 x,←iR]
theorem atX {l:List Ed} (h:l.Pairwise (fun x y=> ¬y.lt x)):rP (ma l)∧∀x,x∈ma l↔x∈l:=by
 match l,h with
 | [],_=>exact ⟨List.Pairwise.nil,fun _=>Iff.rfl⟩
 | y::l,h=>exact ahg l y h
section
variable {l:List Ed} (hn:l.length≤1000000)
include hn
theorem atY {k:Nat}: ∀(d k2 i:Nat) (ss:List Ed),k+k2+d=l.length→1≤k2→i+1≤k+k2→ss.length=l.length→ss.take i=ma (l.take (k+k2))→ss.drop (k+k2-1)=l.drop (k+k2-1)→
  ∃t u Du,Loop (AQ CC k (l.length-k)) ((i:Int),(k2:Int),ss.map Ed.enc)=some (((ma l).length:Int),u,t,List.map Ed.enc Du)∧Du.take (ma l).length=ma l∧Du.length=l.length:=by
 intro d
 induction d with
 | zero=>
  intro k2 i ss hj uj hi hl ht hd;have e0:l.take (k+k2)=l:=Kw (by omega);rw[e0] at ht;have lj:i=(ma l).length:=by rw[←ht,kT];omega
  refine ⟨false,(k2:Int),ss,di ?_,by rw[←lj];exact ht,hl⟩;simp only[AQ,Ds,un,cH,aM,aq,aI];rw[cf,yQ,lj]
 | succ d ih=>
  intro k2 i ss hj uj hi hl ht hd;have hp:k+k2<l.length:=by omega
  have rm:ss.drop (k+k2)=l.drop (k+k2):=by
   have h:=congrArg (List.drop 1) hd;rw[List.drop_drop,List.drop_drop] at h;rwa [show k+k2-1+1=k+k2 by omega] at h
  have g1:=ahd hl rm hp;have g0:=ahd hl hd (show k+k2-1<l.length by omega);have x1:(ss.map Ed.enc)[k+k2]? =some (l.getD (k+k2) default).enc:=by rw[I7 (by omega),g1]
  have x0:(ss.map Ed.enc)[k+(k2-1)]? =some (l.getD (k+k2-1) default).enc:=by rw[show k+(k2-1)=k+k2-1 by omega,I7 (by omega),g0]
  have w1:wrap .i64 ((k2:Int)-1)=((k2-1:Nat):Int):=by rw[dM];omega
  have t1:((k2:Nat):Int)<((l.length-k:Nat):Int):=by omega
  have t2:(0:Int)≤((k2:Nat):Int):=by omega
  have t3:(0:Int)≤((k2-1:Nat):Int):=by omega
  have t4:((k2-1:Nat):Int)<((l.length-k:Nat):Int):=by omega
  have t5:((i:Nat):Int)<(ss.length:Int):=by omega
  have t6:(0:Int)≤((i:Nat):Int):=by omega
  have xu: ∃y,(ss.map Ed.enc)[i]? =some y:=⟨_,I7 (by omega)⟩
  obtain ⟨y,hy⟩:=xu;have cs:=ahf (l:=l) (p:=k+k2) (by omega) hp;by_cases he:l.getD (k+k2) default=l.getD (k+k2-1) default
  ·have b9:AQ CC k (l.length-k) ((i:Int),(k2:Int),ss.map Ed.enc)=some (.inl ((i:Int),((k2+1:Nat):Int),ss.map Ed.enc)):=by
    simp only[AQ,Ds,un,aq,aI];refine bT (bU t1) ?_;refine bT (lH.2 ⟨bU t2,bU t1⟩) ?_;rw[Int.toNat_natCast];refine bs x1 ?_;rw[w1];refine bT (lH.2 ⟨bU t3,bU t4⟩) ?_;rw[Int.toNat_natCast];refine bs x0 ?_;simp only[Ed.mM,Ed.mN,Ed.mO,I5];rw[bU he];refine bF rfl ?_;rw[dM];rfl
   rw[ga b9];refine ih (k2+1) i ss (by omega) (by omega) (by omega) hl ?_ (by rw[show k+(k2+1)-1=k+k2 by omega];exact rm);rw[show k+(k2+1)=k+k2+1 by omega,cs,ah he,j4,ht]
  ·have b9:AQ CC k (l.length-k) ((i:Int),(k2:Int),ss.map Ed.enc)=some (.inl (((i+1:Nat):Int),((k2+1:Nat):Int),(ss.set i (l.getD (k+k2) default)).map Ed.enc)):=by
    simp only[AQ,Ds,un,aq,aI];refine bT (bU t1) ?_;refine bT (lH.2 ⟨bU t2,bU t1⟩) ?_;rw[Int.toNat_natCast];refine bs x1 ?_;rw[w1];refine bT (lH.2 ⟨bU t3,bU t4⟩) ?_;rw[Int.toNat_natCast];refine bs x0 ?_;simp only[Ed.mM,Ed.mN,Ed.mO,I5];rw[cJ he];refine bT rfl ?_;refine bT (lH.2 ⟨bU t2,bU t1⟩) ?_;refine bs x1 ?_;refine bT (by rw[cH];exact lH.2 ⟨bU t6,bU t5⟩) ?_;rw[Int.toNat_natCast];refine bs hy ?_;simp only[Ed.mM,Ed.mN,Ed.mO,Ed.re];rw[dM,dM,List.map_set];rfl
   rw[ga b9];refine ih (k2+1) (i+1) (ss.set i (l.getD (k+k2) default)) (by omega) (by omega) (by omega) (by simpa using hl) ?_ ?_
   ·rw[Xu (by rw[wR];omega),List.take_set_of_le (az i),ht,show k+(k2+1)=k+k2+1 by omega,cs,ag he];simp[show i<ss.length by omega]
   ·rw[show k+(k2+1)-1=k+k2 by omega,List.drop_set_of_lt (by omega),rm]
theorem atZ: ∀(d p:Nat),p+d=l.length→1≤p→ma (l.take p)=l.take p→
  (ma l=l∧∃t,Loop (AR CC (l.map Ed.enc)) (p:Int)=some (.inr t))∨Loop (AR CC (l.map Ed.enc)) (p:Int)=some (.inl ((ma l).map Ed.enc)):=by
 intro d
 induction d with
 | zero=>
  intro p hp h1 hc;obtain rfl:p=l.length:=by omega
  rw[u6] at hc;refine .inl ⟨hc,((l.length:Int),false),di ?_⟩;simp only[AR,Dt,cH,aM,aq];rw[cf,yQ]
 | succ d ih=>
  intro p hp h1 hc;have fT:p<l.length:=by omega
  have cs:=ahf (l:=l) h1 fT;have x1:(l.map Ed.enc)[p]? =some (l.getD p default).enc:=I7 fT;have x0:(l.map Ed.enc)[p-1]? =some (l.getD (p-1) default).enc:=I7 (by omega);have w1:wrap .i64 ((p:Int)-1)=((p-1:Nat):Int):=by rw[dM];omega
  have t1:((p:Nat):Int)<(l.length:Int):=by omega
  have t2:(0:Int)≤((p:Nat):Int):=by omega
  have t3:(0:Int)≤((p-1:Nat):Int):=by omega
  have t4:((p-1:Nat):Int)<(l.length:Int):=by omega
  have t5:((p:Nat):Int)≤(l.length:Int):=by omega
  by_cases he:l.getD p default=l.getD (p-1) default
  ·refine .inr (di ?_);obtain ⟨t,u,Du,e1,e2,e3⟩:=atY hn (k:=p) (l.length-(p+1)) 1 p l (by omega) (by omega) (by omega) rfl (by rw[cs,ah he,j4,hc]) rfl;have hm:(ma l).length≤Du.length:=by
    have:=congrArg List.length e2;rw[kT] at this;omega
   have m1:(0:Int)≤(((ma l).length:Nat):Int):=by omega
   have m2:(((ma l).length:Nat):Int)≤((Du.map Ed.enc).length:Int):=by rw[cH];omega
   simp only[AR,Dt,cH,aq];refine bT (bU t1) ?_;refine bT (lH.2 ⟨bU t2,bU t1⟩) ?_;rw[Int.toNat_natCast];refine bs x1 ?_;rw[w1];refine bT (lH.2 ⟨bU t3,bU t4⟩) ?_;rw[Int.toNat_natCast];refine bs x0 ?_;simp only[Ed.mM,Ed.mN,Ed.mO,I5];rw[bU he];refine bT rfl ?_;refine bT (lH.2 ⟨bU t2,bU t5⟩) ?_;refine (congrArg (fun o=>Option.bind o _) e1).trans ?_;simp only[Option.bind_some,un,e7,aM,Int.toNat_natCast];rw[ah m1,ah m2,ah m1,ah (by simp only[dd,kT,Bi,Bh,cH];omega),atW _ _ _ hm,e2]
  ·have b9:AR CC (l.map Ed.enc) (p:Int)=some (.inl ((p+1:Nat):Int)):=by
    simp only[AR,Dt,cH,aq];refine bT (bU t1) ?_;refine bT (lH.2 ⟨bU t2,bU t1⟩) ?_;rw[Int.toNat_natCast];refine bs x1 ?_;rw[w1];refine bT (lH.2 ⟨bU t3,bU t4⟩) ?_;rw[Int.toNat_natCast];refine bs x0 ?_;simp only[Ed.mM,Ed.mN,Ed.mO,I5];rw[cJ he];refine bF rfl ?_;rw[dM];rfl
   rw[ga b9];exact ih (p+1) (by omega) (by omega) (by rw[cs,ag he,hc,←Xu fT])
theorem at0: ∃b,CC MU [.list bu (l.map Ed.enc)]=some [.bool b,.list bu ((ma l).map Ed.enc)]:=by
 by_cases h2:l.length<2
 ·refine ⟨true,Xt ?_⟩;unfold Pj;rw[cH,aM,bp]
  match l,h2 with
  | [],_=>rfl
  | [k],_=>rfl
 ·rcases atZ hn (l.length-1) 1 (by omega) (by omega) (by
   match l,h2 with
   | k::l,_=>rfl) with ⟨h3,t,h4⟩|h4
  ·refine ⟨true,Xt ?_⟩;unfold Pj;rw[cH,aM,cf];refine (congrArg (fun o=>Option.bind o _) h4).trans ?_;rw[h3];rfl
  ·refine ⟨false,Xt ?_⟩;unfold Pj;rw[cH,aM,cf];refine (congrArg (fun o=>Option.bind o _) h4).trans ?_;rfl
end
def Dv (E:SE) (C:ae) (a b' i j:Int) (ak:LV) {β:Type} (kn:(Int×LV)→Option β) (kr:(Int×Bool×LV)→Option β):Option β:=
 bif decide ((j:Int)>a) then
  aq ak j fun x1=>
  aq ak (wrap .i64 (j-1)) fun x2=>
  (C E.cmp (E.ex x1++E.ex x2)).bind fun r3=>
  bif decide ((((V.nth r3 0).toInt):Int)<0) then
  aq ak (wrap .i64 (j-1)) fun x4=>
  aq ak j fun x5=>
  aq ak j fun x6=>
  aq (aI ak j (.agg (E.ex x4))) (wrap .i64 (j-1)) fun x7=>
  kn (wrap .i64 (j-1),aI (aI ak j (.agg (E.ex x4))) (wrap .i64 (j-1)) (.agg (E.ex x5)))
  else
  kr (j,decide ((((V.nth r3 0).toInt):Int)<0),ak)
 else
  kr (j,false,ak)
def Dw (E:SE) (C:ae) (a b' i:Int):=un fun j ak=>Dv E C a b' i j ak (fun y=>some (Sum.inl y)) (fun r=>some (Sum.inr r))
def I8 (E:SE) (C:ae) (a b' i:Int) (ak:LV) {β:Type} (kn:(Int×LV)→Option β) (kr:(Int×Bool×LV)→Option β):Option β:=
 bif decide ((i:Int)<b') then
  (Loop (Dw E C a b' i) (i,ak)).bind (un fun (j_8:Int)=>un fun (rI:Bool) (ti:LV)=>
   kn (wrap .i64 (i+1),ti))
 else
  kr (i,decide ((i:Int)<b'),ak)
def Pk (E:SE) (C:ae) (a b':Int):=un fun i ak=>I8 E C a b' i ak (fun y=>some (Sum.inl y)) (fun r=>some (Sum.inr r))
def Xv (E:SE) (C:ae) (a b':Int) (ak:LV):Option LV:=
 (Loop (Pk E C a b') (wrap .i64 (a+1),ak)).bind (un fun (azv:Int)=>un fun (xX:Bool) (Xw:LV)=>
  some [.list E.T Xw])
def AS (E:SE) (C:ae) (hi first root child:Int) (t40:Bool) (ak:LV) {β:Type} (kr:(Int)→Option β):Option β:=
 bif t40 then
  kr (wrap .i64 (child+1))
 else
  kr child
def yi (E:SE) (C:ae) (hi first root:Int) (ak:LV) {β:Type} (kn:(Int×LV)→Option β) (kr:((Int×Int×Bool×LV) ⊕ (Int×Int×Bool×LV))→Option β):Option β:=
 bif decide (((wrap .i64 ((wrap .i64 (root*2))+1)):Int)≥hi) then
  kr (.inl (root,wrap .i64 ((wrap .i64 (root*2))+1),decide (((wrap .i64 ((wrap .i64 (root*2))+1)):Int)≥hi),ak))
 else
  bif decide (((wrap .i64 ((wrap .i64 ((wrap .i64 (root*2))+1))+1)):Int)<hi) then
  aq ak (wrap .i64 (first+(wrap .i64 ((wrap .i64 (root*2))+1)))) fun x1=>
  aq ak (wrap .i64 ((wrap .i64 (first+(wrap .i64 ((wrap .i64 (root*2))+1))))+1)) fun x2=>
  (C E.cmp (E.ex x1++E.ex x2)).bind fun r3=>
  AS E C hi first root (wrap .i64 ((wrap .i64 (root*2))+1)) (decide ((((V.nth r3 0).toInt):Int)<0)) ak (fun (Dx:Int)=>
   aq ak (wrap .i64 (first+root)) fun x5=>
   aq ak (wrap .i64 (first+Dx)) fun x6=>
   (C E.cmp (E.ex x5++E.ex x6)).bind fun r7=>
   bif !(decide ((((V.nth r7 0).toInt):Int)<0)) then
    kr (.inr (root,Dx,!(decide ((((V.nth r7 0).toInt):Int)<0)),ak))
   else
    aq ak (wrap .i64 (first+Dx)) fun x8=>
    aq ak (wrap .i64 (first+root)) fun x9=>
    aq ak (wrap .i64 (first+root)) fun lB=>
    aq (aI ak (wrap .i64 (first+root)) (.agg (E.ex x8))) (wrap .i64 (first+Dx)) fun gl=>
    kn (Dx,aI (aI ak (wrap .i64 (first+root)) (.agg (E.ex x8))) (wrap .i64 (first+Dx)) (.agg (E.ex x9))))
  else
  AS E C hi first root (wrap .i64 ((wrap .i64 (root*2))+1)) false ak (fun (Dy:Int)=>
   aq ak (wrap .i64 (first+root)) fun qK=>
   aq ak (wrap .i64 (first+Dy)) fun ko=>
   (C E.cmp (E.ex qK++E.ex ko)).bind fun fy=>
   bif !(decide ((((V.nth fy 0).toInt):Int)<0)) then
    kr (.inr (root,Dy,!(decide ((((V.nth fy 0).toInt):Int)<0)),ak))
   else
    aq ak (wrap .i64 (first+Dy)) fun uT=>
    aq ak (wrap .i64 (first+root)) fun uK=>
    aq ak (wrap .i64 (first+root)) fun pO=>
    aq (aI ak (wrap .i64 (first+root)) (.agg (E.ex uT))) (wrap .i64 (first+Dy)) fun Ay=>
    kn (Dy,aI (aI ak (wrap .i64 (first+root)) (.agg (E.ex uT))) (wrap .i64 (first+Dy)) (.agg (E.ex uK))))
def tj (E:SE) (C:ae) (hi first:Int):=un fun root ak=>yi E C hi first root ak (fun y=>some (Sum.inl y)) (fun r=>some (Sum.inr r))
def Xx (E:SE) (C:ae) (lo hi first:Int) (ak:LV):Option LV:=
 (Loop (tj E C hi first) (lo,ak)).bind (bN (un fun (azw:Int)=>un fun (azx:Int)=>un fun (V2:Bool) (at1:LV)=>
  some [.list E.T at1]) (un fun (azy:Int)=>un fun (azz:Int)=>un fun (NX:Bool) (AT:LV)=>
  some [.list E.T AT]))
def I9 (E:SE) (C:ae) (first lo hi i:Int) (ak:LV) {β:Type} (kn:(Int×LV)→Option β) (kr:(Int×Bool×LV)→Option β):Option β:=
 bif decide ((i:Int)≥0) then
  (C (E.k 1) [V.int .i64 i,V.int .i64 hi,V.int .i64 first,.list E.T ak]).bind fun r1=>
  kn (wrap .i64 (i-1),(V.nth r1 0).toList)
 else
  kr (i,decide ((i:Int)≥0),ak)
def Pl (E:SE) (C:ae) (first lo hi:Int):=un fun i ak=>I9 E C first lo hi i ak (fun y=>some (Sum.inl y)) (fun r=>some (Sum.inr r))
def Ja (E:SE) (C:ae) (first lo i:Int) (ak:LV) {β:Type} (kn:(Int×LV)→Option β) (kr:(Int×Bool×LV)→Option β):Option β:=
 bif decide ((i:Int)≥0) then
  aq ak (wrap .i64 (first+i)) fun x5=>
  aq ak first fun x6=>
  aq ak first fun x7=>
  aq (aI ak first (.agg (E.ex x5))) (wrap .i64 (first+i)) fun x8=>
  (C (E.k 1) [V.int .i64 lo,V.int .i64 i,V.int .i64 first,.list E.T (aI (aI ak first (.agg (E.ex x5))) (wrap .i64 (first+i)) (.agg (E.ex x6)))]).bind fun r9=>
  kn (wrap .i64 (i-1),(V.nth r9 0).toList)
 else
  kr (i,decide ((i:Int)≥0),ak)
def Pm (E:SE) (C:ae) (first lo:Int):=un fun i ak=>Ja E C first lo i ak (fun y=>some (Sum.inl y)) (fun r=>some (Sum.inr r))
def Xy (E:SE) (C:ae) (a b':Int) (ak:LV):Option LV:=
 (Loop (Pl E C a 0 (wrap .i64 (b'-a))) (wrap .i64 (Int.tdiv (wrap .i64 ((wrap .i64 (b'-a))-1)) 2),ak)).bind (un fun (i_2:Int)=>un fun (lr:Bool) (at2:LV)=>
  (Loop (Pm E C a 0) (wrap .i64 ((wrap .i64 (b'-a))-1),at2)).bind (un fun (azA:Int)=>un fun (xW:Bool) (tk:LV)=>
   some [.list E.T tk]))
def Dz (E:SE) (C:ae) (i j:Int) (ak:LV) {β:Type} (kn:(Int×Int×LV)→Option β) (kr:(Int×Int×Bool×LV)→Option β):Option β:=
 bif decide ((i:Int)<j) then
  aq ak j fun x1=>
  aq ak i fun x2=>
  aq ak i fun x3=>
  aq (aI ak i (.agg (E.ex x1))) j fun x4=>
  kn (wrap .i64 (i+1),wrap .i64 (j-1),aI (aI ak i (.agg (E.ex x1))) j (.agg (E.ex x2)))
 else
  kr (i,j,decide ((i:Int)<j),ak)
def Jb (E:SE) (C:ae):=un fun i=>un fun j ak=>Dz E C i j ak (fun y=>some (Sum.inl y)) (fun r=>some (Sum.inr r))
def Xz (E:SE) (C:ae) (a b':Int) (ak:LV):Option LV:=
 (Loop (Jb E C) (a,wrap .i64 (b'-1),ak)).bind (un fun (i_5:Int)=>un fun (j_6:Int)=>un fun (kL:Bool) (at3:LV)=>
  some [.list E.T at3])
def Jc (E:SE) (C:ae) (a j:Int) (ak:LV) (i:Int) {β:Type} (kn:Int→Option β) (kr:(Int×Bool)→Option β):Option β:=
 bif decide ((i:Int)≤j) then
  aq ak i fun x5=>
  aq ak a fun x6=>
  (C E.cmp (E.ex x5++E.ex x6)).bind fun r7=>
  bif decide ((((V.nth r7 0).toInt):Int)<0) then
  kn (wrap .i64 (i+1))
  else
  kr (i,decide ((((V.nth r7 0).toInt):Int)<0))
 else
  kr (i,false)
def Jd (E:SE) (C:ae) (a j:Int) (ak:LV):=fun i=>Jc E C a j ak i (fun y=>some (Sum.inl y)) (fun r=>some (Sum.inr r))
def DA (E:SE) (C:ae) (a i:Int) (ak:LV) (j:Int) {β:Type} (kn:Int→Option β) (kr:(Int×Bool)→Option β):Option β:=
 bif decide ((i:Int)≤j) then
  aq ak j fun lB=>
  aq ak a fun gl=>
  (C E.cmp (E.ex lB++E.ex gl)).bind fun o4=>
  bif !(decide ((((V.nth o4 0).toInt):Int)<0)) then
  kn (wrap .i64 (j-1))
  else
  kr (j,!(decide ((((V.nth o4 0).toInt):Int)<0)))
 else
  kr (j,false)
def DB (E:SE) (C:ae) (a i:Int) (ak:LV):=fun j=>DA E C a i ak j (fun y=>some (Sum.inl y)) (fun r=>some (Sum.inr r))
def Je (E:SE) (C:ae) (a j:Int) (ak:LV) (i:Int) {β:Type} (kn:Int→Option β) (kr:(Int×Bool)→Option β):Option β:=
 bif decide ((i:Int)≤j) then
  aq ak i fun CZ=>
  aq ak a fun AU=>
  (C E.cmp (E.ex CZ++E.ex AU)).bind fun r25=>
  bif decide ((((V.nth r25 0).toInt):Int)<0) then
  kn (wrap .i64 (i+1))
  else
  kr (i,decide ((((V.nth r25 0).toInt):Int)<0))
 else
  kr (i,false)
def Jf (E:SE) (C:ae) (a j:Int) (ak:LV):=fun i=>Je E C a j ak i (fun y=>some (Sum.inl y)) (fun r=>some (Sum.inr r))
def DC (E:SE) (C:ae) (a i:Int) (ak:LV) (j:Int) {β:Type} (kn:Int→Option β) (kr:(Int×Bool)→Option β):Option β:=
 bif decide ((i:Int)≤j) then
  aq ak j fun Pn=>
  aq ak a fun yj=>
  (C E.cmp (E.ex Pn++E.ex yj)).bind fun Po=>
  bif !(decide ((((V.nth Po 0).toInt):Int)<0)) then
  kn (wrap .i64 (j-1))
  else
  kr (j,!(decide ((((V.nth Po 0).toInt):Int)<0)))
 else
  kr (j,false)
def DD (E:SE) (C:ae) (a i:Int) (ak:LV):=fun j=>DC E C a i ak j (fun y=>some (Sum.inl y)) (fun r=>some (Sum.inr r))
def Jg (E:SE) (C:ae) (a i j:Int) (ak:LV) {β:Type} (kn:(Int×Int×LV)→Option β) (kr:(Int×Int×Bool×LV)→Option β):Option β:=
 (Loop (Jf E C a j ak) i).bind (un fun (uJ:Int) (V3:Bool)=>
  (Loop (DD E C a uJ ak) j).bind (un fun (AV:Int) (V6:Bool)=>
   bif decide ((uJ:Int)>AV) then
    kr (uJ,AV,decide ((uJ:Int)>AV),ak)
   else
    aq ak AV fun tm=>
    aq ak uJ fun x34=>
    aq ak uJ fun DE=>
    aq (aI ak uJ (.agg (E.ex tm))) AV fun DF=>
    kn (wrap .i64 (uJ+1),wrap .i64 (AV-1),aI (aI ak uJ (.agg (E.ex tm))) AV (.agg (E.ex x34)))))
def DG (E:SE) (C:ae) (a:Int):=un fun i=>un fun j ak=>Jg E C a i j ak (fun y=>some (Sum.inl y)) (fun r=>some (Sum.inr r))
def XA (E:SE) (C:ae) (a b' pivot:Int) (ak:LV):Option LV:=
 aq ak pivot fun x1=>
 aq ak a fun x2=>
 aq ak a fun x3=>
 aq (aI ak a (.agg (E.ex x1))) pivot fun x4=>
 (Loop (Jd E C a (wrap .i64 (b'-1)) (aI (aI ak a (.agg (E.ex x1))) pivot (.agg (E.ex x2)))) (wrap .i64 (a+1))).bind (un fun (nB:Int) (rI:Bool)=>
  (Loop (DB E C a nB (aI (aI ak a (.agg (E.ex x1))) pivot (.agg (E.ex x2)))) (wrap .i64 (b'-1))).bind (un fun (mP:Int) (Ap:Bool)=>
   bif decide ((nB:Int)>mP) then
    aq (aI (aI ak a (.agg (E.ex x1))) pivot (.agg (E.ex x2))) a fun wG=>
    aq (aI (aI ak a (.agg (E.ex x1))) pivot (.agg (E.ex x2))) mP fun uT=>
    aq (aI (aI ak a (.agg (E.ex x1))) pivot (.agg (E.ex x2))) mP fun uK=>
    aq (aI (aI (aI ak a (.agg (E.ex x1))) pivot (.agg (E.ex x2))) mP (.agg (E.ex wG))) a fun pO=>
    some [V.int .i64 mP,.bool true,.list E.T (aI (aI (aI (aI ak a (.agg (E.ex x1))) pivot (.agg (E.ex x2))) mP (.agg (E.ex wG))) a (.agg (E.ex uT)))]
   else
    aq (aI (aI ak a (.agg (E.ex x1))) pivot (.agg (E.ex x2))) mP fun Ay=>
    aq (aI (aI ak a (.agg (E.ex x1))) pivot (.agg (E.ex x2))) nB fun C8=>
    aq (aI (aI ak a (.agg (E.ex x1))) pivot (.agg (E.ex x2))) nB fun td=>
    aq (aI (aI (aI ak a (.agg (E.ex x1))) pivot (.agg (E.ex x2))) nB (.agg (E.ex Ay))) mP fun HO=>
    (Loop (DG E C a) (wrap .i64 (nB+1),wrap .i64 (mP-1),aI (aI (aI (aI ak a (.agg (E.ex x1))) pivot (.agg (E.ex x2))) nB (.agg (E.ex Ay))) mP (.agg (E.ex C8)))).bind (un fun (azB:Int)=>un fun (Jh:Int)=>un fun (azC:Bool) (tn:LV)=>
     aq tn a fun Pp=>
     aq tn Jh fun XB=>
     aq tn Jh fun x43=>
     aq (aI tn Jh (.agg (E.ex Pp))) a fun x44=>
     some [V.int .i64 Jh,.bool false,.list E.T (aI (aI tn Jh (.agg (E.ex Pp))) a (.agg (E.ex XB)))])))
def Ji (E:SE) (C:ae) (a j:Int) (ak:LV) (i:Int) {β:Type} (kn:Int→Option β) (kr:(Int×Bool)→Option β):Option β:=
 bif decide ((i:Int)≤j) then
  aq ak a fun x5=>
  aq ak i fun x6=>
  (C E.cmp (E.ex x5++E.ex x6)).bind fun r7=>
  bif !(decide ((((V.nth r7 0).toInt):Int)<0)) then
  kn (wrap .i64 (i+1))
  else
  kr (i,!(decide ((((V.nth r7 0).toInt):Int)<0)))
 else
  kr (i,false)
def Jj (E:SE) (C:ae) (a j:Int) (ak:LV):=fun i=>Ji E C a j ak i (fun y=>some (Sum.inl y)) (fun r=>some (Sum.inr r))
def DH (E:SE) (C:ae) (a i:Int) (ak:LV) (j:Int) {β:Type} (kn:Int→Option β) (kr:(Int×Bool)→Option β):Option β:=
 bif decide ((i:Int)≤j) then
  aq ak a fun lB=>
  aq ak j fun gl=>
  (C E.cmp (E.ex lB++E.ex gl)).bind fun o4=>
  bif decide ((((V.nth o4 0).toInt):Int)<0) then
  kn (wrap .i64 (j-1))
  else
  kr (j,decide ((((V.nth o4 0).toInt):Int)<0))
 else
  kr (j,false)
def DI (E:SE) (C:ae) (a i:Int) (ak:LV):=fun j=>DH E C a i ak j (fun y=>some (Sum.inl y)) (fun r=>some (Sum.inr r))
def Jk (E:SE) (C:ae) (a i j:Int) (ak:LV) {β:Type} (kn:(Int×Int×LV)→Option β) (kr:(Int×Int×Bool×LV)→Option β):Option β:=
 (Loop (Jj E C a j ak) i).bind (un fun (nB:Int) (rI:Bool)=>
  (Loop (DI E C a nB ak) j).bind (un fun (mP:Int) (Ap:Bool)=>
   bif decide ((nB:Int)>mP) then
    kr (nB,mP,decide ((nB:Int)>mP),ak)
   else
    aq ak mP fun wG=>
    aq ak nB fun uT=>
    aq ak nB fun uK=>
    aq (aI ak nB (.agg (E.ex wG))) mP fun pO=>
    kn (wrap .i64 (nB+1),wrap .i64 (mP-1),aI (aI ak nB (.agg (E.ex wG))) mP (.agg (E.ex uT)))))
def DJ (E:SE) (C:ae) (a:Int):=un fun i=>un fun j ak=>Jk E C a i j ak (fun y=>some (Sum.inl y)) (fun r=>some (Sum.inr r))
def XC (E:SE) (C:ae) (a b' pivot:Int) (ak:LV):Option LV:=
 aq ak pivot fun x1=>
 aq ak a fun x2=>
 aq ak a fun x3=>
 aq (aI ak a (.agg (E.ex x1))) pivot fun x4=>
 (Loop (DJ E C a) (wrap .i64 (a+1),wrap .i64 (b'-1),aI (aI ak a (.agg (E.ex x1))) pivot (.agg (E.ex x2)))).bind (un fun (at4:Int)=>un fun (azD:Int)=>un fun (NU:Bool) (at5:LV)=>
  some [V.int .i64 at4,.list E.T at5])
def Jl (E:SE) (C:ae) (a b' j:Int) (ak:LV) (i:Int) {β:Type} (kn:Int→Option β) (kr:(Int×Bool)→Option β):Option β:=
 bif decide ((i:Int)<b') then
  aq ak i fun x1=>
  aq ak (wrap .i64 (i-1)) fun x2=>
  (C E.cmp (E.ex x1++E.ex x2)).bind fun r3=>
  bif !(decide ((((V.nth r3 0).toInt):Int)<0)) then
  kn (wrap .i64 (i+1))
  else
  kr (i,!(decide ((((V.nth r3 0).toInt):Int)<0)))
 else
  kr (i,false)
def Jm (E:SE) (C:ae) (a b' j:Int) (ak:LV):=fun i=>Jl E C a b' j ak i (fun y=>some (Sum.inl y)) (fun r=>some (Sum.inr r))
def Jn (E:SE) (C:ae) (a b' i j j':Int) (ak:LV) {β:Type} (kn:(Int×LV)→Option β) (kr:(Int×LV)→Option β):Option β:=
 bif decide ((j':Int)≥1) then
  aq ak j' fun lB=>
  aq ak (wrap .i64 (j'-1)) fun gl=>
  (C E.cmp (E.ex lB++E.ex gl)).bind fun o4=>
  bif !(decide ((((V.nth o4 0).toInt):Int)<0)) then
  kr (j',ak)
  else
  aq ak (wrap .i64 (j'-1)) fun qK=>
  aq ak j' fun ko=>
  aq ak j' fun wG=>
  aq (aI ak j' (.agg (E.ex qK))) (wrap .i64 (j'-1)) fun uT=>
  kn (wrap .i64 (j'-1),aI (aI ak j' (.agg (E.ex qK))) (wrap .i64 (j'-1)) (.agg (E.ex ko)))
 else
  kr (j',ak)
def Jo (E:SE) (C:ae) (a b' i j:Int):=un fun j' ak=>Jn E C a b' i j j' ak (fun y=>some (Sum.inl y)) (fun r=>some (Sum.inr r))
def Pq (E:SE) (C:ae) (a b' i j:Int) (t65:Bool) (ak:LV) {β:Type} (kr:LV→Option β):Option β:=
 bif t65 then
  (Loop (Jo E C a b' i j) (wrap .i64 (i-1),ak)).bind (un fun (azE:Int) (at6:LV)=>
   kr at6)
 else
  kr ak
def Jp (E:SE) (C:ae) (a b' i j j':Int) (ak:LV) {β:Type} (kn:(Int×LV)→Option β) (kr:(Int×LV)→Option β):Option β:=
 bif decide ((j':Int)<b') then
  aq ak j' fun C8=>
  aq ak (wrap .i64 (j'-1)) fun td=>
  (C E.cmp (E.ex C8++E.ex td)).bind fun ox=>
  bif !(decide ((((V.nth ox 0).toInt):Int)<0)) then
  kr (j',ak)
  else
  aq ak (wrap .i64 (j'-1)) fun CZ=>
  aq ak j' fun AU=>
  aq ak j' fun Is=>
  aq (aI ak j' (.agg (E.ex CZ))) (wrap .i64 (j'-1)) fun O3=>
  kn (wrap .i64 (j'+1),aI (aI ak j' (.agg (E.ex CZ))) (wrap .i64 (j'-1)) (.agg (E.ex AU)))
 else
  kr (j',ak)
def Jq (E:SE) (C:ae) (a b' i j:Int):=un fun j' ak=>Jp E C a b' i j j' ak (fun y=>some (Sum.inl y)) (fun r=>some (Sum.inr r))
def Jr (E:SE) (C:ae) (a b' i j:Int) (ak:LV) {β:Type} (kn:(Int×Int×LV)→Option β) (kr:((Bool×LV) ⊕ (Int×Int×Bool×LV))→Option β):Option β:=
 bif decide ((j:Int)<5) then
  (Loop (Jm E C a b' j ak) i).bind (un fun (nC:Int) (og:Bool)=>
   bif (nC:Int)==b' then
   kr (.inl (true,ak))
   else
   bif decide (((wrap .i64 (b'-a)):Int)<50) then
    kr (.inl (false,ak))
   else
    aq ak (wrap .i64 (nC-1)) fun x6=>
    aq ak nC fun x7=>
    aq ak nC fun x8=>
    aq (aI ak nC (.agg (E.ex x6))) (wrap .i64 (nC-1)) fun x9=>
    Pq E C a b' nC j (decide (((wrap .i64 (nC-a)):Int)≥2)) (aI (aI ak nC (.agg (E.ex x6))) (wrap .i64 (nC-1)) (.agg (E.ex x7))) (fun (ahh:LV)=>
     bif decide (((wrap .i64 (b'-nC)):Int)≥2) then
     (Loop (Jq E C a b' nC j) (wrap .i64 (nC+1),ahh)).bind (un fun (azF:Int) (at7:LV)=>
      kn (nC,wrap .i64 (j+1),at7))
     else
     kn (nC,wrap .i64 (j+1),ahh)))
 else
  kr (.inr (i,j,decide ((j:Int)<5),ak))
def yk (E:SE) (C:ae) (a b':Int):=un fun i=>un fun j ak=>Jr E C a b' i j ak (fun y=>some (Sum.inl y)) (fun r=>some (Sum.inr r))
def XD (E:SE) (C:ae) (a b':Int) (ak:LV):Option LV:=
 (Loop (yk E C a b') (wrap .i64 (a+1),0,ak)).bind (bN (un fun (V5:Bool) (aua:LV)=>
  some [.bool V5,.list E.T aua]) (un fun (aub:Int)=>un fun (azG:Int)=>un fun (aeW:Bool) (auc:LV)=>
  some [.bool false,.list E.T auc]))
def Pr (E:SE) (C:ae) (a length DK rT other:Int) (t45:Bool) (ak:LV) (Js:Int) {β:Type} (kr:(Int)→Option β):Option β:=
 bif t45 then
  kr (wrap .i64 (other-length))
 else
  kr other
def Jt (E:SE) (C:ae) (a length DK rT:Int) (ak:LV) (Js:Int) {β:Type} (kn:(Int×LV×Int)→Option β) (kr:(Int×Bool×LV×Int)→Option β):Option β:=
 bif decide ((rT:Int)≤(wrap .i64 ((wrap .i64 (a+(wrap .i64 (2*(wrap .i64 (Int.tdiv length 4))))))+1))) then
  (C M5 [.int .u64 Js]).bind fun r2=>
  Pr E C a length DK rT (wrap .i64 (wrap .u64 ((BitVec.ofInt (IntKind.bits .u64) ((V.nth r2 0).toInt)&&&BitVec.ofInt (IntKind.bits .u64) (wrap .u64 (DK-1))).toNat))) (decide (((wrap .i64 (wrap .u64 ((BitVec.ofInt (IntKind.bits .u64) ((V.nth r2 0).toInt)&&&BitVec.ofInt (IntKind.bits .u64) (wrap .u64 (DK-1))).toNat))):Int)≥length)) ak ((V.nth (r2.drop 1) 0).toInt) (fun (XE:Int)=>
   aq ak (wrap .i64 (a+XE)) fun x4=>
   aq ak rT fun x5=>
   aq ak rT fun x6=>
   aq (aI ak rT (.agg (E.ex x4))) (wrap .i64 (a+XE)) fun x7=>
   kn (wrap .i64 (rT+1),aI (aI ak rT (.agg (E.ex x4))) (wrap .i64 (a+XE)) (.agg (E.ex x5)),(V.nth (r2.drop 1) 0).toInt))
 else
  kr (rT,decide ((rT:Int)≤(wrap .i64 ((wrap .i64 (a+(wrap .i64 (2*(wrap .i64 (Int.tdiv length 4))))))+1))),ak,Js)
def Ps (E:SE) (C:ae) (a length DK:Int):=un fun rT=>un fun ak Js=>Jt E C a length DK rT ak Js (fun y=>some (Sum.inl y)) (fun r=>some (Sum.inr r))
def XF (E:SE) (C:ae) (a b':Int) (ak:LV):Option LV:=
 bif decide (((wrap .i64 (b'-a)):Int)≥8) then
  (C M4 [V.int .i64 (wrap .i64 (b'-a))]).bind fun r1=>
  (Loop (Ps E C a (wrap .i64 (b'-a)) ((V.nth r1 0).toInt)) (wrap .i64 ((wrap .i64 (a+(wrap .i64 (2*(wrap .i64 (Int.tdiv (wrap .i64 (b'-a)) 4))))))-1),ak,wrap .u64 (wrap .i64 (b'-a)))).bind (un fun (azH:Int)=>un fun (rI:Bool)=>un fun (ti:LV) (azI:Int)=>
   some [.list E.T ti])
 else
  some [.list E.T ak]
def XG (E:SE) (C:ae) (data:LV) (a b' c gO:Int):Option LV:=
 (C (E.k 10) [.list E.T data,V.int .i64 a,V.int .i64 b',V.int .i64 gO]).bind fun r1=>
 (C (E.k 10) [.list E.T data,V.int .i64 ((V.nth (r1.drop 1) 0).toInt),V.int .i64 c,V.int .i64 ((V.nth (r1.drop 2) 0).toInt)]).bind fun r2=>
 (C (E.k 10) [.list E.T data,V.int .i64 ((V.nth r1 0).toInt),V.int .i64 ((V.nth r2 0).toInt),V.int .i64 ((V.nth (r2.drop 2) 0).toInt)]).bind fun r3=>
 some [V.int .i64 ((V.nth (r3.drop 1) 0).toInt),V.int .i64 ((V.nth (r3.drop 2) 0).toInt)]
def XH (E:SE) (C:ae) (data:LV) (a gO:Int):Option LV:=
 (C (E.k 8) [.list E.T data,V.int .i64 (wrap .i64 (a-1)),V.int .i64 a,V.int .i64 (wrap .i64 (a+1)),V.int .i64 gO]).bind fun r1=>
 some [V.int .i64 ((V.nth r1 0).toInt),V.int .i64 ((V.nth (r1.drop 1) 0).toInt)]
def Pt (E:SE) (C:ae) (data:LV) (a b' gO:Int):Option LV:=
 (idx data b').bind fun x1=>
 (idx data a).bind fun x2=>
 (C E.cmp (E.ex x1++E.ex x2)).bind fun r3=>
 bif decide ((((V.nth r3 0).toInt):Int)<0) then
  some [V.int .i64 b',V.int .i64 a,V.int .i64 (wrap .i64 (gO+1))]
 else
  some [V.int .i64 a,V.int .i64 b',V.int .i64 gO]
def Ju (E:SE) (C:ae) (data:LV) (i j k':Int) (t36:Bool) (gO:Int) {β:Type} (kr:(Int×Int×Int×Int)→Option β):Option β:=
 bif t36 then
  (C (E.k 9) [.list E.T data,V.int .i64 i,V.int .i64 gO]).bind fun r1=>
  (C (E.k 9) [.list E.T data,V.int .i64 j,V.int .i64 ((V.nth (r1.drop 1) 0).toInt)]).bind fun r2=>
  (C (E.k 9) [.list E.T data,V.int .i64 k',V.int .i64 ((V.nth (r2.drop 1) 0).toInt)]).bind fun r3=>
  kr ((V.nth r1 0).toInt,(V.nth r2 0).toInt,(V.nth r3 0).toInt,(V.nth (r3.drop 1) 0).toInt)
 else
  kr (i,j,k',gO)
def Jv (E:SE) (C:ae) (data:LV) (l i j k':Int) (t34:Bool) (gO:Int) {β:Type} (kr:(Int×Int)→Option β):Option β:=
 bif t34 then
  Ju E C data i j k' (decide ((l:Int)≥50)) gO (un fun (nC:Int)=>un fun (j_5:Int)=>un fun (k_6:Int) (aud:Int)=>
   (C (E.k 8) [.list E.T data,V.int .i64 nC,V.int .i64 j_5,V.int .i64 k_6,V.int .i64 aud]).bind fun r8=>
   kr ((V.nth r8 0).toInt,(V.nth (r8.drop 1) 0).toInt))
 else
  kr (j,gO)
def Pu (E:SE) (C:ae) (data:LV) (a b':Int):Option LV:=
 Jv E C data (wrap .i64 (b'-a)) (wrap .i64 (a+(wrap .i64 (1*(wrap .i64 (Int.tdiv (wrap .i64 (b'-a)) 4)))))) (wrap .i64 (a+(wrap .i64 (2*(wrap .i64 (Int.tdiv (wrap .i64 (b'-a)) 4)))))) (wrap .i64 (a+(wrap .i64 (3*(wrap .i64 (Int.tdiv (wrap .i64 (b'-a)) 4)))))) (decide (((wrap .i64 (b'-a)):Int)≥8)) 0 (un fun (XI:Int) (ahi:Int)=>
  bif (ahi:Int)==0 then
   some [V.int .i64 XI,V.int .i64 1]
  else
   bif (ahi:Int)==12 then
   some [V.int .i64 XI,V.int .i64 2]
   else
   some [V.int .i64 XI,V.int .i64 0])
def DL (E:SE) (C:ae) (a b' kN:Int) (ic iG:Bool) (length:Int) (t39:Bool) (ak:LV) {β:Type} (kr:(Int×LV)→Option β):Option β:=
 bif t39 then
  (C (E.k 7) [V.int .i64 a,V.int .i64 b',.list E.T ak]).bind fun r3=>
  kr (wrap .i64 (kN-1),(V.nth r3 0).toList)
 else
  kr (kN,ak)
def DM (E:SE) (C:ae) (a b' kN:Int) (ic iG:Bool) (length pivot hint:Int) (t56:Bool) (ak:LV) {β:Type} (kr:(Int×Int×LV)→Option β):Option β:=
 bif t56 then
  (C (E.k 3) [V.int .i64 a,V.int .i64 b',.list E.T ak]).bind fun r7=>
  kr (wrap .i64 ((wrap .i64 (b'-1))-(wrap .i64 (pivot-a))),1,(V.nth r7 0).toList)
 else
  kr (pivot,hint,ak)
def qO (E:SE) (C:ae) (a b' kN:Int) (ic iG:Bool) (length pivot:Int) (t75:Bool) (ak:LV) {β:Type} (kr:((Bool×LV) ⊕ LV)→Option β):Option β:=
 bif t75 then
  (C (E.k 6) [V.int .i64 a,V.int .i64 b',.list E.T ak]).bind fun Pv=>
  bif (V.nth Pv 0).toBool then
  kr (.inl ((V.nth Pv 0).toBool,(V.nth (Pv.drop 1) 0).toList))
  else
  kr (.inr ((V.nth (Pv.drop 1) 0).toList))
 else
  kr (.inr ak)
def uU (E:SE) (C:ae) (a b' kN:Int) (ic iG:Bool) (ak:LV) {β:Type} (kn:(Int×Int×Int×Bool×Bool×LV)→Option β) (kr:LV→Option β):Option β:=
 bif decide (((wrap .i64 (b'-a)):Int)≤12) then
  (C (E.k 0) [V.int .i64 a,V.int .i64 b',.list E.T ak]).bind fun r1=>
  kr ((V.nth r1 0).toList)
 else
  bif (kN:Int)==0 then
  (C (E.k 2) [V.int .i64 a,V.int .i64 b',.list E.T ak]).bind fun r2=>
  kr ((V.nth r2 0).toList)
  else
  DL E C a b' kN ic iG (wrap .i64 (b'-a)) (!ic) ak (un fun (dW:Int) (Jw:LV)=>
   (C (E.k 11) [.list E.T Jw,V.int .i64 a,V.int .i64 b']).bind fun r6=>
   DM E C a b' dW ic iG (wrap .i64 (b'-a)) ((V.nth r6 0).toInt) ((V.nth (r6.drop 1) 0).toInt) ((((V.nth (r6.drop 1) 0).toInt):Int)==2) Jw (un fun (iH:Int)=>un fun (XJ:Int) (ti:LV)=>
    bif ic then
     bif iG then
     qO E C a b' dW ic iG (wrap .i64 (b'-a)) iH ((XJ:Int)==1) ti (bN (un fun (xX:Bool) (Xw:LV)=>
      kr Xw) (fun (Jx:LV)=>
      bif decide ((a:Int)>0) then
       aq Jx (wrap .i64 (a-1)) fun wG=>
       aq Jx iH fun uT=>
       (C E.cmp (E.ex wG++E.ex uT)).bind fun hZ=>
       bif !(decide ((((V.nth hZ 0).toInt):Int)<0)) then
       (C (E.k 5) [V.int .i64 a,V.int .i64 b',V.int .i64 iH,.list E.T Jx]).bind fun DN=>
       kn ((V.nth DN 0).toInt,b',dW,ic,iG,(V.nth (DN.drop 1) 0).toList)
       else
       (C (E.k 4) [V.int .i64 a,V.int .i64 b',V.int .i64 iH,.list E.T Jx]).bind fun gM=>
       bif decide (((wrap .i64 (((V.nth gM 0).toInt)-a)):Int)<(wrap .i64 (b'-((V.nth gM 0).toInt)))) then
        (C (E.k 12) [V.int .i64 a,V.int .i64 ((V.nth gM 0).toInt),V.int .i64 dW,.list E.T ((V.nth (gM.drop 2) 0).toList)]).bind fun qa=>
        kn (wrap .i64 (((V.nth gM 0).toInt)+1),b',dW,decide (((wrap .i64 (((V.nth gM 0).toInt)-a)):Int)≥(wrap .i64 (Int.tdiv (wrap .i64 (b'-a)) 8))),(V.nth (gM.drop 1) 0).toBool,(V.nth qa 0).toList)
       else
        (C (E.k 12) [V.int .i64 (wrap .i64 (((V.nth gM 0).toInt)+1)),V.int .i64 b',V.int .i64 dW,.list E.T ((V.nth (gM.drop 2) 0).toList)]).bind fun wH=>
        kn (a,(V.nth gM 0).toInt,dW,decide (((wrap .i64 (b'-((V.nth gM 0).toInt))):Int)≥(wrap .i64 (Int.tdiv (wrap .i64 (b'-a)) 8))),(V.nth (gM.drop 1) 0).toBool,(V.nth wH 0).toList)
      else
       (C (E.k 4) [V.int .i64 a,V.int .i64 b',V.int .i64 iH,.list E.T Jx]).bind fun ox=>
       bif decide (((wrap .i64 (((V.nth ox 0).toInt)-a)):Int)<(wrap .i64 (b'-((V.nth ox 0).toInt)))) then
       (C (E.k 12) [V.int .i64 a,V.int .i64 ((V.nth ox 0).toInt),V.int .i64 dW,.list E.T ((V.nth (ox.drop 2) 0).toList)]).bind fun r23=>
       kn (wrap .i64 (((V.nth ox 0).toInt)+1),b',dW,decide (((wrap .i64 (((V.nth ox 0).toInt)-a)):Int)≥(wrap .i64 (Int.tdiv (wrap .i64 (b'-a)) 8))),(V.nth (ox.drop 1) 0).toBool,(V.nth r23 0).toList)
       else
       (C (E.k 12) [V.int .i64 (wrap .i64 (((V.nth ox 0).toInt)+1)),V.int .i64 b',V.int .i64 dW,.list E.T ((V.nth (ox.drop 2) 0).toList)]).bind fun r24=>
       kn (a,(V.nth ox 0).toInt,dW,decide (((wrap .i64 (b'-((V.nth ox 0).toInt))):Int)≥(wrap .i64 (Int.tdiv (wrap .i64 (b'-a)) 8))),(V.nth (ox.drop 1) 0).toBool,(V.nth r24 0).toList)))
     else
     qO E C a b' dW ic iG (wrap .i64 (b'-a)) iH false ti (bN (un fun (Hl:Bool) (aue:LV)=>
      kr aue) (fun (AT:LV)=>
      bif decide ((a:Int)>0) then
       aq AT (wrap .i64 (a-1)) fun Pn=>
       aq AT iH fun yj=>
       (C E.cmp (E.ex Pn++E.ex yj)).bind fun Po=>
       bif !(decide ((((V.nth Po 0).toInt):Int)<0)) then
       (C (E.k 5) [V.int .i64 a,V.int .i64 b',V.int .i64 iH,.list E.T AT]).bind fun yl=>
       kn ((V.nth yl 0).toInt,b',dW,ic,iG,(V.nth (yl.drop 1) 0).toList)
       else
       (C (E.k 4) [V.int .i64 a,V.int .i64 b',V.int .i64 iH,.list E.T AT]).bind fun rU=>
       bif decide (((wrap .i64 (((V.nth rU 0).toInt)-a)):Int)<(wrap .i64 (b'-((V.nth rU 0).toInt)))) then
        (C (E.k 12) [V.int .i64 a,V.int .i64 ((V.nth rU 0).toInt),V.int .i64 dW,.list E.T ((V.nth (rU.drop 2) 0).toList)]).bind fun r33=>
        kn (wrap .i64 (((V.nth rU 0).toInt)+1),b',dW,decide (((wrap .i64 (((V.nth rU 0).toInt)-a)):Int)≥(wrap .i64 (Int.tdiv (wrap .i64 (b'-a)) 8))),(V.nth (rU.drop 1) 0).toBool,(V.nth r33 0).toList)
       else
        (C (E.k 12) [V.int .i64 (wrap .i64 (((V.nth rU 0).toInt)+1)),V.int .i64 b',V.int .i64 dW,.list E.T ((V.nth (rU.drop 2) 0).toList)]).bind fun AW=>
        kn (a,(V.nth rU 0).toInt,dW,decide (((wrap .i64 (b'-((V.nth rU 0).toInt))):Int)≥(wrap .i64 (Int.tdiv (wrap .i64 (b'-a)) 8))),(V.nth (rU.drop 1) 0).toBool,(V.nth AW 0).toList)
      else
       (C (E.k 4) [V.int .i64 a,V.int .i64 b',V.int .i64 iH,.list E.T AT]).bind fun rV=>
       bif decide (((wrap .i64 (((V.nth rV 0).toInt)-a)):Int)<(wrap .i64 (b'-((V.nth rV 0).toInt)))) then
       (C (E.k 12) [V.int .i64 a,V.int .i64 ((V.nth rV 0).toInt),V.int .i64 dW,.list E.T ((V.nth (rV.drop 2) 0).toList)]).bind fun r36=>
       kn (wrap .i64 (((V.nth rV 0).toInt)+1),b',dW,decide (((wrap .i64 (((V.nth rV 0).toInt)-a)):Int)≥(wrap .i64 (Int.tdiv (wrap .i64 (b'-a)) 8))),(V.nth (rV.drop 1) 0).toBool,(V.nth r36 0).toList)
       else
       (C (E.k 12) [V.int .i64 (wrap .i64 (((V.nth rV 0).toInt)+1)),V.int .i64 b',V.int .i64 dW,.list E.T ((V.nth (rV.drop 2) 0).toList)]).bind fun AX=>
       kn (a,(V.nth rV 0).toInt,dW,decide (((wrap .i64 (b'-((V.nth rV 0).toInt))):Int)≥(wrap .i64 (Int.tdiv (wrap .i64 (b'-a)) 8))),(V.nth (rV.drop 1) 0).toBool,(V.nth AX 0).toList)))
    else
     qO E C a b' dW ic iG (wrap .i64 (b'-a)) iH false ti (bN (un fun (azJ:Bool) (auf:LV)=>
      kr auf) (fun (tn:LV)=>
      bif decide ((a:Int)>0) then
      aq tn (wrap .i64 (a-1)) fun Pp=>
      aq tn iH fun XB=>
      (C E.cmp (E.ex Pp++E.ex XB)).bind fun r43=>
      bif !(decide ((((V.nth r43 0).toInt):Int)<0)) then
       (C (E.k 5) [V.int .i64 a,V.int .i64 b',V.int .i64 iH,.list E.T tn]).bind fun r44=>
       kn ((V.nth r44 0).toInt,b',dW,ic,iG,(V.nth (r44.drop 1) 0).toList)
      else
       (C (E.k 4) [V.int .i64 a,V.int .i64 b',V.int .i64 iH,.list E.T tn]).bind fun kO=>
       bif decide (((wrap .i64 (((V.nth kO 0).toInt)-a)):Int)<(wrap .i64 (b'-((V.nth kO 0).toInt)))) then
       (C (E.k 12) [V.int .i64 a,V.int .i64 ((V.nth kO 0).toInt),V.int .i64 dW,.list E.T ((V.nth (kO.drop 2) 0).toList)]).bind fun r46=>
       kn (wrap .i64 (((V.nth kO 0).toInt)+1),b',dW,decide (((wrap .i64 (((V.nth kO 0).toInt)-a)):Int)≥(wrap .i64 (Int.tdiv (wrap .i64 (b'-a)) 8))),(V.nth (kO.drop 1) 0).toBool,(V.nth r46 0).toList)
       else
       (C (E.k 12) [V.int .i64 (wrap .i64 (((V.nth kO 0).toInt)+1)),V.int .i64 b',V.int .i64 dW,.list E.T ((V.nth (kO.drop 2) 0).toList)]).bind fun r47=>
       kn (a,(V.nth kO 0).toInt,dW,decide (((wrap .i64 (b'-((V.nth kO 0).toInt))):Int)≥(wrap .i64 (Int.tdiv (wrap .i64 (b'-a)) 8))),(V.nth (kO.drop 1) 0).toBool,(V.nth r47 0).toList)
      else
      (C (E.k 4) [V.int .i64 a,V.int .i64 b',V.int .i64 iH,.list E.T tn]).bind fun rW=>
      bif decide (((wrap .i64 (((V.nth rW 0).toInt)-a)):Int)<(wrap .i64 (b'-((V.nth rW 0).toInt)))) then
       (C (E.k 12) [V.int .i64 a,V.int .i64 ((V.nth rW 0).toInt),V.int .i64 dW,.list E.T ((V.nth (rW.drop 2) 0).toList)]).bind fun r49=>
       kn (wrap .i64 (((V.nth rW 0).toInt)+1),b',dW,decide (((wrap .i64 (((V.nth rW 0).toInt)-a)):Int)≥(wrap .i64 (Int.tdiv (wrap .i64 (b'-a)) 8))),(V.nth (rW.drop 1) 0).toBool,(V.nth r49 0).toList)
      else
       (C (E.k 12) [V.int .i64 (wrap .i64 (((V.nth rW 0).toInt)+1)),V.int .i64 b',V.int .i64 dW,.list E.T ((V.nth (rW.drop 2) 0).toList)]).bind fun r50=>
       kn (a,(V.nth rW 0).toInt,dW,decide (((wrap .i64 (b'-((V.nth rW 0).toInt))):Int)≥(wrap .i64 (Int.tdiv (wrap .i64 (b'-a)) 8))),(V.nth (rW.drop 1) 0).toBool,(V.nth r50 0).toList)))))
def ahj (E:SE) (C:ae):=un fun a=>un fun b'=>un fun kN=>un fun ic=>un fun iG ak=>uU E C a b' kN ic iG ak (fun y=>some (Sum.inl y)) (fun r=>some (Sum.inr r))
def XK (E:SE) (C:ae) (a b' kN:Int) (ak:LV):Option LV:=
 (Loop (ahj E C) (a,b',kN,true,true,ak)).bind (fun (aug:LV)=>
  some [.list E.T aug])
def XL (E:SE) (C:ae) (xs:LV):Option LV:=
 (C Gy [.int .u64 (wrap .u64 (xs.length:Int))]).bind fun r1=>
 (C (E.k 12) [V.int .i64 0,V.int .i64 (xs.length:Int),V.int .i64 ((V.nth r1 0).toInt),.list E.T xs]).bind fun r2=>
 some [.list E.T ((V.nth r2 0).toList)]
end Go.AM
set_option maxRecDepth 100000
namespace Go.AM
open Go.IntKind (wrap)
open Go.Proofs Go.Sort
class au (α:Type) where
 E:SE
 enc:α→V
 cmp:α→α→Int
 re: ∀x,V.agg (E.ex (enc x))=enc x
 cs: ∀a b,CC E.cmp (E.ex (enc a)++E.ex (enc b))=some [.int .i64 (cmp a b)]
 swo:SWO (fun a b=>decide (cmp a b<0))
 ahk: ∀{a b':Int} {ak:LV} {r:Option LV},Xv E CC a b' ak=r→CC (E.k 0) [.int .i64 a,.int .i64 b',.list E.T ak]=r
 ahl: ∀{lo hi first:Int} {ak:LV} {r:Option LV},Xx E CC lo hi first ak=r→CC (E.k 1) [.int .i64 lo,.int .i64 hi,.int .i64 first,.list E.T ak]=r
 ahm: ∀{a b':Int} {ak:LV} {r:Option LV},Xy E CC a b' ak=r→CC (E.k 2) [.int .i64 a,.int .i64 b',.list E.T ak]=r
 ahn: ∀{a b':Int} {ak:LV} {r:Option LV},Xz E CC a b' ak=r→CC (E.k 3) [.int .i64 a,.int .i64 b',.list E.T ak]=r
 aho: ∀{a b' pivot:Int} {ak:LV} {r:Option LV},XA E CC a b' pivot ak=r→CC (E.k 4) [.int .i64 a,.int .i64 b',.int .i64 pivot,.list E.T ak]=r
 ahp: ∀{a b' pivot:Int} {ak:LV} {r:Option LV},XC E CC a b' pivot ak=r→CC (E.k 5) [.int .i64 a,.int .i64 b',.int .i64 pivot,.list E.T ak]=r
 ahq: ∀{a b':Int} {ak:LV} {r:Option LV},XD E CC a b' ak=r→CC (E.k 6) [.int .i64 a,.int .i64 b',.list E.T ak]=r
 ahr: ∀{a b':Int} {ak:LV} {r:Option LV},XF E CC a b' ak=r→CC (E.k 7) [.int .i64 a,.int .i64 b',.list E.T ak]=r
 ahs: ∀{data:LV} {a b' c gO:Int} {r:Option LV},XG E CC data a b' c gO=r→CC (E.k 8) [.list E.T data,.int .i64 a,.int .i64 b',.int .i64 c,.int .i64 gO]=r
 aht: ∀{data:LV} {a gO:Int} {r:Option LV},XH E CC data a gO=r→CC (E.k 9) [.list E.T data,.int .i64 a,.int .i64 gO]=r
 XM: ∀{data:LV} {a b' gO:Int} {r:Option LV},Pt E CC data a b' gO=r→CC (E.k 10) [.list E.T data,.int .i64 a,.int .i64 b',.int .i64 gO]=r
 XN: ∀{data:LV} {a b':Int} {r:Option LV},Pu E CC data a b'=r→CC (E.k 11) [.list E.T data,.int .i64 a,.int .i64 b']=r
 ahu: ∀{a b' kN:Int} {ak:LV} {r:Option LV},XK E CC a b' kN ak=r→CC (E.k 12) [.int .i64 a,.int .i64 b',.int .i64 kN,.list E.T ak]=r
 ahv: ∀{xs:LV} {r:Option LV},XL E CC xs=r→CC (E.k 13) [.list E.T xs]=r
end Go.AM
set_option maxRecDepth 100000
set_option maxHeartbeats 4000000
namespace Go.AM
open Go.IntKind (wrap)
open Go.Proofs Go.Sort
variable {α:Type} [au α]
def aE (a b:α):Bool:=decide (au.cmp a b<0)
theorem ym (a b:α):(aE a b=true)=(au.cmp a b<0):=by unfold aE;rw[fo]
theorem wI (a b:α):((!aE a b)=true)= ¬(au.cmp a b<0):=by unfold aE;simp
abbrev eA (d:Array α):List V:=uS au.enc d
theorem Pw {β:Type} {d:Array α} {i:Nat} {k:Int} {v:V} {x:Option β} (h:i<d.size:=by omega):aq (aI (eA d) k v) (i:Int) (fun _=>x)=x:=by
 unfold aq aI;rw[wR,jW,e7,aM,bp,aM,bp,Int.toNat_natCast,cp (by rw[wR,jW];exact h)];rfl
variable [Inhabited α]
theorem auh (a j:Nat) (d:Array α):insInner aE a (j+1) d=if j+1>a then (if au.cmp d[j+1]! d[j]! <0 then insInner aE a j (swp d (j+1) j) else d) else d:=by
 rw[ag4];by_cases h1:j+1>a
 ·rw[ah h1];simp only[h1,wO,Bo,ym]
 ·rw[ag h1,ag (by simp[h1])]
theorem XO (hi first root:Nat) (d:Array α):siftDown aE hi first root d=
  if 2*root+1≥hi then d else
   if 2*root+2<hi then
    (if au.cmp d[first+(2*root+1)]! d[first+(2*root+2)]! <0 then
     (if au.cmp d[first+root]! d[first+(2*root+2)]! <0 then siftDown aE hi first (2*root+2) (swp d (first+root) (first+(2*root+2))) else d)
    else (if au.cmp d[first+root]! d[first+(2*root+1)]! <0 then siftDown aE hi first (2*root+1) (swp d (first+root) (first+(2*root+1))) else d))
   else (if au.cmp d[first+root]! d[first+(2*root+1)]! <0 then siftDown aE hi first (2*root+1) (swp d (first+root) (first+(2*root+1))) else d):=by
 rw[siftDown];by_cases h1:2*root+1≥hi
 ·rw[rX h1,ah h1]
 rw[dif_neg h1,ag h1];by_cases h2:2*root+2<hi
 ·rw[ah h2];by_cases h3:au.cmp d[first+(2*root+1)]! d[first+(2*root+2)]! <0
  ·rw[ah h3,ah (by simp only[aK,fo,ym];exact ⟨h2,h3⟩)];simp only[wI];by_cases h4:au.cmp d[first+root]! d[first+(2*root+2)]! <0
   ·rw[ag (sc h4),rX h2,ah h4]
   ·rw[ah h4,ag h4]
  ·rw[ag h3,ag (by simp only[aK,fo,ym];exact fun h=>h3 h.2)];simp only[wI];by_cases h4:au.cmp d[first+root]! d[first+(2*root+1)]! <0
   ·rw[ag (sc h4),ah h4]
   ·rw[ah h4,ag h4]
 ·rw[ag h2,ag (by simp only[aK,fo,ym];exact fun h=>h2 h.1)];simp only[wI];by_cases h4:au.cmp d[first+root]! d[first+(2*root+1)]! <0
  ·rw[ag (sc h4),ah h4]
  ·rw[ah h4,ag h4]
theorem ahw {a b i:Nat}: ∀(j:Nat) (d:Array α),j<d.size→d.size<1152921504606846976→
  ∃j' t,Loop (Dw (au.E α) CC a b i) ((j:Int),eA d)=some (j',t,eA (insInner aE a j d))
 | 0,d,hj,hs=>⟨(0:Nat),false,di (by
   simp (disch:=omega) only[Dw,Dv,un,aM,ag];rfl)⟩
 | j+1,d,hj,hs=>by
  obtain ⟨j',t,ih⟩:=ahw (a:=a) (b:=b) (i:=i) j (swp d (j+1) j) (by rw[size_swp];omega) (by rw[size_swp];omega);rw[auh];by_cases h1:j+1>a
  ·rw[ah h1];have e:Dw (au.E α) CC a b i (((j+1:Nat):Int),eA d)=if au.cmp d[j+1]! d[j]! <0 then some (.inl ((j:Int),eA (swp d (j+1) j))) else some (.inr (((j+1:Nat):Int),decide (au.cmp d[j+1]! d[j]! <0),eA d)):=by
    simp (disch:=omega) only[Dw,Dv,un,aM,e7,jO,ah,ag,wrap64,fC,jE,Int.toNat_natCast,Option.bind_some,jW,jX,au.re,jD,lD,ku,au.cs,V.ct,V.toInt_int,cond_true,cond_false,yg];rfl
   by_cases h2:au.cmp d[j+1]! d[j]! <0
   ·rw[ah h2] at e⊢;exact ⟨j',t,(ga e).trans ih⟩
   ·rw[ag h2] at e⊢;exact ⟨_,_,di e⟩
  ·rw[ag h1];exact ⟨((j+1:Nat):Int),false,di (by
    simp (disch:=omega) only[Dw,Dv,un,aM,ag])⟩
theorem aui {a b:Nat}: ∀(n i:Nat) (d:Array α),b-i=n→b≤d.size→d.size<1152921504606846976→
  ∃j' t,Loop (Pk (au.E α) CC a b) ((i:Int),eA d)=some (j',t,eA (insOuter aE a b i d)):=by
 intro n
 induction n with
 | zero=>
  intro i d hn hb hs;rw[insOuter,cf];exact ⟨(i:Int),false,di (by
   simp (disch:=omega) only[Pk,I8,un,wE,cond_false])⟩
 | succ n ih=>
  intro i d hn hb hs;obtain ⟨j1,t1,h1⟩:=ahw (a:=a) (b:=b) (i:=i) i d (by omega) hs;obtain ⟨j',t,h2⟩:=ih (i+1) (insInner aE a i d) (by omega) (by rw[Xm];omega) (by rw[Xm];omega);rw[insOuter,bp];refine ⟨j',t,(ga ?_).trans h2⟩;simp (disch:=omega) only[Pk,I8,un,aM,ah,h1,Option.bind_some,fC,wrap64]
theorem ahx {a b:Nat} {d:Array α} (hb:b≤d.size) (hs:d.size<1152921504606846976) (ha:a<1152921504606846976):
  CC ((au.E α).k 0) [.int .i64 (a:Int),.int .i64 (b:Int),.list (au.E α).T (eA d)]=some [.list (au.E α).T (eA (insertionSort aE d a b))]:=by
 refine au.ahk ?_;unfold Xv;obtain ⟨j',t,h⟩:=aui (a:=a) (b:=b) _ (a+1) d rfl hb hs;simp (disch:=omega) only[fC,wrap64];rw[h];rfl
theorem auj (hi first:Nat): ∀(n root:Nat) (d:Array α),hi-root≤n→root<1152921504606846976→first+hi≤d.size→d.size<1152921504606846976→
  (∃x y z,Loop (tj (au.E α) CC hi first) ((root:Int),eA d)=some (.inl (x,y,z,eA (siftDown aE hi first root d))))∨
  (∃x y z,Loop (tj (au.E α) CC hi first) ((root:Int),eA d)=some (.inr (x,y,z,eA (siftDown aE hi first root d)))):=by
 intro n
 induction n with
 | zero=>
  intro root d hn hr hb hs;rw[XO,bp];exact .inl ⟨(root:Int),((root*2+1:Nat):Int),true,di (by
   simp (disch:=omega) only[tj,yi,un,IS,fC,wrap64];rw[rO (by omega)];rfl)⟩
 | succ n ih=>
  intro root d hn hr hb hs;by_cases h1:2*root+1≥hi
  ·rw[XO,ah h1];exact .inl ⟨(root:Int),((root*2+1:Nat):Int),true,di (by
    simp (disch:=omega) only[tj,yi,un,IS,fC,wrap64];rw[rO (by omega)];rfl)⟩
  ·have go: ∀c:Nat,c<hi→root<c→(tj (au.E α) CC hi first ((root:Int),eA d)=
      if au.cmp d[first+root]! d[first+c]! <0 then some (.inl ((c:Int),eA (swp d (first+root) (first+c)))) else some (.inr (.inr ((root:Int),(c:Int),true,eA d))))→
     siftDown aE hi first root d=(if au.cmp d[first+root]! d[first+c]! <0 then siftDown aE hi first c (swp d (first+root) (first+c)) else d)→
     ((∃x y z,Loop (tj (au.E α) CC hi first) ((root:Int),eA d)=some (.inl (x,y,z,eA (siftDown aE hi first root d))))∨
     (∃x y z,Loop (tj (au.E α) CC hi first) ((root:Int),eA d)=some (.inr (x,y,z,eA (siftDown aE hi first root d))))):=by
    intro c hc hrc e1 e2;rw[e2];by_cases h3:au.cmp d[first+root]! d[first+c]! <0
    ·rw[ah h3] at e1;rw[ah h3,ga e1];exact ih c _ (by omega) (by omega) (by rw[size_swp];omega) (by rw[size_swp];omega)
    ·rw[ag h3] at e1;rw[ag h3,di e1];exact .inr ⟨_,_,_,rfl⟩
   have e0:=XO hi first root d
   rw[ag h1] at e0;by_cases h2:2*root+2<hi
   ·rw[ah h2] at e0;by_cases h3:au.cmp d[first+(2*root+1)]! d[first+(2*root+2)]! <0
    ·rw[ah h3] at e0;refine go (2*root+2) (by omega) (by omega) ?_ e0;rw[mo 2 root] at h3;simp (disch:=omega) only[tj,yi,un,IS,fC,jE,wrap64];rw[aM,cf,aM,bp];simp (disch:=omega) only[AS,aM,e7,jO,ah,ag,wrap64,fC,jE,Int.toNat_natCast,Option.bind_some,jW,jX,au.re,jD,lD,ku,au.cs,V.ct,V.toInt_int,cond_true,cond_false,mo 2 root,rO];by_cases h4:au.cmp d[first+root]! d[first+(root*2+2)]! <0
     ·simp only[h4,kS];rfl
     ·simp only[h4,mj];rfl
    ·rw[ag h3] at e0;refine go (2*root+1) (by omega) (by omega) ?_ e0;rw[mo 2 root] at h3;simp (disch:=omega) only[tj,yi,un,IS,fC,jE,wrap64];rw[aM,cf,aM,bp];simp (disch:=omega) only[AS,aM,e7,jO,ah,ag,wrap64,fC,jE,Int.toNat_natCast,Option.bind_some,jW,jX,au.re,jD,lD,ku,au.cs,V.ct,V.toInt_int,cond_true,cond_false,mo 2 root,wE];by_cases h4:au.cmp d[first+root]! d[first+(root*2+1)]! <0
     ·simp only[h4,kS];rfl
     ·simp only[h4,mj];rfl
   ·rw[ag h2] at e0;refine go (2*root+1) (by omega) (by omega) ?_ e0;simp (disch:=omega) only[tj,yi,un,IS,fC,jE,wrap64];rw[aM,cf,aM,cf];simp (disch:=omega) only[AS,aM,e7,jO,ah,ag,wrap64,fC,jE,Int.toNat_natCast,Option.bind_some,jW,jX,au.re,jD,lD,ku,au.cs,V.ct,V.toInt_int,cond_true,cond_false,mo 2 root];by_cases h4:au.cmp d[first+root]! d[first+(root*2+1)]! <0
    ·simp only[h4,kS];rfl
    ·simp only[h4,mj];rfl
theorem ahy {lo hi first:Nat} {d:Array α} (hl:lo<1152921504606846976) (hb:first+hi≤d.size) (hs:d.size<1152921504606846976):
  CC ((au.E α).k 1) [.int .i64 (lo:Int),.int .i64 (hi:Int),.int .i64 (first:Int),.list (au.E α).T (eA d)]=some [.list (au.E α).T (eA (siftDown aE hi first lo d))]:=by
 refine au.ahl ?_;unfold Xx;rcases auj hi first _ lo d (az _) hl hb hs with ⟨x,y,z,h⟩|⟨x,y,z,h⟩
 ·rw[h];rfl
 ·rw[h];rfl
theorem ahz {hi first:Nat}: ∀(k:Nat) (d:Array α),k<1152921504606846976→first+hi≤d.size→d.size<1152921504606846976→
  ∃x y,Loop (Pl (au.E α) CC first 0 hi) ((k:Int)-1,eA d)=some (x,y,eA (heapBuild aE hi first k d))
 | 0,d,hk,hb,hs=>⟨-1,false,di (by
   simp (disch:=omega) only[Pl,I9,un,aM,ag];rfl)⟩
 | k+1,d,hk,hb,hs=>by
  obtain ⟨x,y,ih⟩:=ahz (hi:=hi) (first:=first) k (siftDown aE hi first k d) (by omega) (by rw[IT _ _ _ _ _ (az _)];omega) (by rw[IT _ _ _ _ _ (az _)];omega);refine ⟨x,y,(ga ?_).trans ih⟩;simp (disch:=omega) only[Pl,I9,un,aM,ah,yg,ahy,Option.bind_some,V.ct,V.ki,wrap64]
theorem ahA {first:Nat}: ∀(k:Nat) (d:Array α),k<1152921504606846976→first+k≤d.size→d.size<1152921504606846976→
  ∃x y,Loop (Pm (au.E α) CC first 0) ((k:Int)-1,eA d)=some (x,y,eA (heapPop aE first k d))
 | 0,d,hk,hb,hs=>⟨-1,false,di (by
   simp (disch:=omega) only[Pm,Ja,un,aM,ag];rfl)⟩
 | k+1,d,hk,hb,hs=>by
  obtain ⟨x,y,ih⟩:=ahA (first:=first) k (siftDown aE k first 0 (swp d first (first+k))) (by omega) (by rw[IT _ _ _ _ _ (az _),size_swp];omega) (by rw[IT _ _ _ _ _ (az _),size_swp];omega);refine ⟨x,y,(ga ?_).trans ih⟩;have oR:=ahy (lo:=0) (hi:=k) (first:=first) (d:=swp d first (first+k)) (by omega) (by rw[size_swp];omega) (by rw[size_swp];omega);unfold swp at oR⊢;rw[show ((0:Nat):Int)=0 from rfl] at oR;simp (disch:=omega) only[Pm,Ja,un,yg,aM,e7,jO,ah,ag,wrap64,fC,jE,Int.toNat_natCast,Option.bind_some,jW,jX,au.re,jD,lD,ku,au.cs,V.ct,V.toInt_int,cond_true,cond_false];rw[oR];simp (disch:=omega) only[Option.bind_some,V.ct,V.ki,wrap64]
theorem auk {a b:Nat} {d:Array α} (jr:a<b) (hb:b≤d.size) (hs:d.size<1152921504606846976):
  CC ((au.E α).k 2) [.int .i64 (a:Int),.int .i64 (b:Int),.list (au.E α).T (eA d)]=some [.list (au.E α).T (eA (heapSort aE d a b))]:=by
 refine au.ahm ?_;unfold Xy;obtain ⟨x,y,h1⟩:=ahz (hi:=b-a) (first:=a) ((b-a-1)/2+1) d (by omega) (by omega) hs;obtain ⟨x2,y2,h2⟩:=ahA (first:=a) (b-a) (heapBuild aE (b-a) a ((b-a-1)/2+1) d) (by omega) (by rw[Xn];omega) (by rw[Xn];omega);have e1:((((b-a-1)/2+1:Nat):Int)-1)=Int.tdiv (((b-a:Nat):Int)-1) 2:=by
  rw[Int.tdiv_eq_ediv_of_nonneg (by omega)];omega
 rw[e1] at h1;simp (disch:=omega) only[qL,wrap64];rw[h1];simp only[Option.bind_some,un];rw[h2];rfl
theorem aul: ∀(n i j:Nat) (d:Array α),j-i≤n→j<d.size→d.size<1152921504606846976→
  ∃x y z,Loop (Jb (au.E α) CC) ((i:Int),(j:Int),eA d)=some (x,y,z,eA (reverseLoop i j d)):=by
 intro n
 induction n with
 | zero=>
  intro i j d hn hj hs;rw[reverseLoop,cf];exact ⟨(i:Int),(j:Int),false,di (by
   simp (disch:=omega) only[Jb,Dz,un,wE,cond_false])⟩
 | succ n ih=>
  intro i j d hn hj hs;rw[reverseLoop];by_cases h:i<j
  ·rw[ah h];obtain ⟨x,y,z,h2⟩:=ih (i+1) (j-1) (swp d i j) (by omega) (by rw[size_swp];omega) (by rw[size_swp];omega);refine ⟨x,y,z,(ga ?_).trans h2⟩;simp (disch:=omega) only[Jb,Dz,un,aM,e7,jO,ah,ag,wrap64,fC,jE,Int.toNat_natCast,Option.bind_some,jW,jX,au.re,jD,lD,ku,au.cs,V.ct,V.toInt_int,cond_true,cond_false,nA];rfl
  ·rw[ag h];exact ⟨(i:Int),(j:Int),false,di (by
    simp (disch:=omega) only[Jb,Dz,un,wE,cond_false])⟩
theorem aum {a b:Nat} {d:Array α} (jr:a<b) (hb:b≤d.size) (hs:d.size<1152921504606846976):
  CC ((au.E α).k 3) [.int .i64 (a:Int),.int .i64 (b:Int),.list (au.E α).T (eA d)]=some [.list (au.E α).T (eA (reverseRange d a b))]:=by
 refine au.ahn ?_;unfold Xz;obtain ⟨x,y,z,h⟩:=aul _ a (b-1) d (az _) (by omega) hs;simp (disch:=omega) only[nA,wrap64];rw[h];rfl
variable {α:Type} [Inhabited α] [au α]
theorem Px (d:Array α) (b i:Nat):scanSorted aE d b i=if i<b then (if au.cmp d[i]! d[i-1]! <0 then i else scanSorted aE d b (i+1)) else i:=by
 conv=>lhs;rw[scanSorted]
 by_cases h:i<b
 ·rw[ah h];simp only[h,wO,Bo,wI];by_cases h2:au.cmp d[i]! d[i-1]! <0
  ·rw[ag (sc h2),ah h2]
  ·rw[ah h2,ag h2]
 ·rw[ag h,ag (by simp[h])]
theorem ahB (j:Nat) (d:Array α):shiftDown aE (j+1) d=if au.cmp d[j+1]! d[j]! <0 then shiftDown aE j (swp d (j+1) j) else d:=by
 conv=>lhs;rw[shiftDown]
 simp only[wI];by_cases h2:au.cmp d[j+1]! d[j]! <0
 ·rw[ag (sc h2),ah h2]
 ·rw[ah h2,ag h2]
theorem Py (b j:Nat) (d:Array α):shiftUp aE b j d=if j<b then (if au.cmp d[j]! d[j-1]! <0 then shiftUp aE b (j+1) (swp d j (j-1)) else d) else d:=by
 conv=>lhs;rw[shiftUp]
 simp only[wI];by_cases h:j<b
 ·rw[ah h,ah h];by_cases h2:au.cmp d[j]! d[j-1]! <0
  ·rw[ag (sc h2),ah h2]
  ·rw[ah h2,ag h2]
 ·rw[ag h,ag h]
theorem aun {a:Nat}: ∀(n i j:Nat) (d:Array α),j+1-i≤n→(partLoop aE a i j d).2.size=d.size∧(partLoop aE a i j d).1≤j:=by
 intro n
 induction n with
 | zero=>
  intro i j d hn;have h1:=scanUp_ge (fun x=>aE x d[a]!) d j i;have h2:=scanDown_le (fun x=> !aE x d[a]!) d (scanUp (fun x=>aE x d[a]!) d j i) j;rw[partLoop_eq,bp];exact ⟨rfl,h2⟩
 | succ n ih=>
  intro i j d hn;rw[partLoop_eq];have h1:=scanUp_ge (fun x=>aE x d[a]!) d j i;have h2:=scanDown_le (fun x=> !aE x d[a]!) d (scanUp (fun x=>aE x d[a]!) d j i) j;split
  ·exact ⟨rfl,h2⟩
  ·obtain ⟨h3,h4⟩:=ih (scanUp (fun x=>aE x d[a]!) d j i+1) (scanDown (fun x=> !aE x d[a]!) d (scanUp (fun x=>aE x d[a]!) d j i) j-1) (swp d (scanUp (fun x=>aE x d[a]!) d j i) (scanDown (fun x=> !aE x d[a]!) d (scanUp (fun x=>aE x d[a]!) d j i) j)) (by omega);exact ⟨by rw[h3,size_swp],by omega⟩
theorem oy {β:Type} {d:Array α} {i:Nat} {f:V→Option β} (h:i<d.size:=by omega):aq (eA d) (i:Int) f=f (au.enc (d[i]!)):=by
 unfold aq;rw[jW,e7,aM,bp,aM,bp,Int.toNat_natCast,jX h];rfl
theorem auo {a j:Nat} {d:Array α} (ha:a<d.size) (hj:j<d.size) (hs:d.size<1152921504606846976): ∀(n i:Nat),j+1-i=n→i≤d.size→
  ∃t,Loop (Jd (au.E α) CC a j (eA d)) (i:Int)=some (((scanUp (fun x=>aE x d[a]!) d j i:Nat):Int),t):=by
 intro n
 induction n with
 | zero=>
  intro i hn hi;rw[Dr,cf];exact ⟨false,di (by simp (disch:=omega) only[Jd,Jc,aM,ag])⟩
 | succ n ih=>
  intro i hn hi;obtain ⟨t,h⟩:=ih (i+1) (by omega) (by omega);rw[Dr,bp];have e:Jd (au.E α) CC a j (eA d) (i:Int)=if au.cmp d[i]! d[a]! <0 then some (.inl ((i+1:Nat):Int)) else some (.inr ((i:Int),decide (au.cmp d[i]! d[a]! <0))):=by
   simp (disch:=omega) only[Jd,Jc,aM,e7,jO,ah,ag,wrap64,fC,jE,Int.toNat_natCast,Option.bind_some,jW,jX,au.re,jD,lD,ku,au.cs,V.ct,V.toInt_int,cond_true,cond_false]
  simp only[ym];by_cases h2:au.cmp d[i]! d[a]! <0
  ·rw[ah h2] at e;rw[ah h2];exact ⟨t,(ga e).trans h⟩
  ·rw[ag h2] at e;rw[ag h2];exact ⟨_,di e⟩
theorem ahC {a j:Nat} {d:Array α} (ha:a<d.size) (hj:j<d.size) (hs:d.size<1152921504606846976): ∀(n i:Nat),j+1-i=n→i≤d.size→
  ∃t,Loop (Jf (au.E α) CC a j (eA d)) (i:Int)=some (((scanUp (fun x=>aE x d[a]!) d j i:Nat):Int),t):=by
 intro n
 induction n with
 | zero=>
  intro i hn hi;rw[Dr,cf];exact ⟨false,di (by simp (disch:=omega) only[Jf,Je,aM,ag])⟩
 | succ n ih=>
  intro i hn hi;obtain ⟨t,h⟩:=ih (i+1) (by omega) (by omega);rw[Dr,bp];have e:Jf (au.E α) CC a j (eA d) (i:Int)=if au.cmp d[i]! d[a]! <0 then some (.inl ((i+1:Nat):Int)) else some (.inr ((i:Int),decide (au.cmp d[i]! d[a]! <0))):=by
   simp (disch:=omega) only[Jf,Je,aM,e7,jO,ah,ag,wrap64,fC,jE,Int.toNat_natCast,Option.bind_some,jW,jX,au.re,jD,lD,ku,au.cs,V.ct,V.toInt_int,cond_true,cond_false]
  simp only[ym];by_cases h2:au.cmp d[i]! d[a]! <0
  ·rw[ah h2] at e;rw[ah h2];exact ⟨t,(ga e).trans h⟩
  ·rw[ag h2] at e;rw[ag h2];exact ⟨_,di e⟩
theorem ahD {a i:Nat} {d:Array α} (ha:a<d.size) (hi:1≤i) (hs:d.size<1152921504606846976): ∀(j:Nat),j<d.size→
  ∃t,Loop (DB (au.E α) CC a i (eA d)) (j:Int)=some (((scanDown (fun x=> !aE x d[a]!) d i j:Nat):Int),t)
 | 0,hj=>⟨false,di (by simp (disch:=omega) only[DB,DA,aM,ag];rfl)⟩
 | j+1,hj=>by
  obtain ⟨t,h⟩:=ahD ha hi hs j (by omega);rw[Xl];by_cases h1:i≤j+1
  ·rw[ah h1];have e:DB (au.E α) CC a i (eA d) ((j+1:Nat):Int)=if au.cmp d[j+1]! d[a]! <0 then some (.inr (((j+1:Nat):Int),!decide (au.cmp d[j+1]! d[a]! <0))) else some (.inl (j:Int)):=by
    simp (disch:=omega) only[DB,DA,aM,e7,jO,ah,ag,wrap64,fC,jE,Int.toNat_natCast,Option.bind_some,jW,jX,au.re,jD,lD,ku,au.cs,V.ct,V.toInt_int,cond_true,cond_false,yg]
   simp only[wI];by_cases h2:au.cmp d[j+1]! d[a]! <0
   ·rw[ah h2] at e;rw[ag (sc h2)];exact ⟨_,di e⟩
   ·rw[ag h2] at e;rw[ah h2];exact ⟨t,(ga e).trans h⟩
  ·rw[ag h1];exact ⟨false,di (by simp (disch:=omega) only[DB,DA,aM,ag])⟩
theorem XP {a i:Nat} {d:Array α} (ha:a<d.size) (hi:1≤i) (hs:d.size<1152921504606846976): ∀(j:Nat),j<d.size→
  ∃t,Loop (DD (au.E α) CC a i (eA d)) (j:Int)=some (((scanDown (fun x=> !aE x d[a]!) d i j:Nat):Int),t)
 | 0,hj=>⟨false,di (by simp (disch:=omega) only[DD,DC,aM,ag];rfl)⟩
 | j+1,hj=>by
  obtain ⟨t,h⟩:=XP ha hi hs j (by omega);rw[Xl];by_cases h1:i≤j+1
  ·rw[ah h1];have e:DD (au.E α) CC a i (eA d) ((j+1:Nat):Int)=if au.cmp d[j+1]! d[a]! <0 then some (.inr (((j+1:Nat):Int),!decide (au.cmp d[j+1]! d[a]! <0))) else some (.inl (j:Int)):=by
    simp (disch:=omega) only[DD,DC,aM,e7,jO,ah,ag,wrap64,fC,jE,Int.toNat_natCast,Option.bind_some,jW,jX,au.re,jD,lD,ku,au.cs,V.ct,V.toInt_int,cond_true,cond_false,yg]
   simp only[wI];by_cases h2:au.cmp d[j+1]! d[a]! <0
   ·rw[ah h2] at e;rw[ag (sc h2)];exact ⟨_,di e⟩
   ·rw[ag h2] at e;rw[ah h2];exact ⟨t,(ga e).trans h⟩
  ·rw[ag h1];exact ⟨false,di (by simp (disch:=omega) only[DD,DC,aM,ag])⟩
theorem ahE {a j:Nat} {d:Array α} (ha:a<d.size) (hj:j<d.size) (hs:d.size<1152921504606846976): ∀(n i:Nat),j+1-i=n→i≤d.size→
  ∃t,Loop (Jj (au.E α) CC a j (eA d)) (i:Int)=some (((scanUp (fun x=> !aE d[a]! x) d j i:Nat):Int),t):=by
 intro n
 induction n with
 | zero=>
  intro i hn hi;rw[Dr,cf];exact ⟨false,di (by simp (disch:=omega) only[Jj,Ji,aM,ag])⟩
 | succ n ih=>
  intro i hn hi;obtain ⟨t,h⟩:=ih (i+1) (by omega) (by omega);rw[Dr,bp];have e:Jj (au.E α) CC a j (eA d) (i:Int)=if au.cmp d[a]! d[i]! <0 then some (.inr ((i:Int),!decide (au.cmp d[a]! d[i]! <0))) else some (.inl ((i+1:Nat):Int)):=by
   simp (disch:=omega) only[Jj,Ji,aM,e7,jO,ah,ag,wrap64,fC,jE,Int.toNat_natCast,Option.bind_some,jW,jX,au.re,jD,lD,ku,au.cs,V.ct,V.toInt_int,cond_true,cond_false]
  simp only[wI];by_cases h2:au.cmp d[a]! d[i]! <0
  ·rw[ah h2] at e;rw[ag (sc h2)];exact ⟨_,di e⟩
  ·rw[ag h2] at e;rw[ah h2];exact ⟨t,(ga e).trans h⟩
theorem XQ {a i:Nat} {d:Array α} (ha:a<d.size) (hi:1≤i) (hs:d.size<1152921504606846976): ∀(j:Nat),j<d.size→
  ∃t,Loop (DI (au.E α) CC a i (eA d)) (j:Int)=some (((scanDown (fun x=>aE d[a]! x) d i j:Nat):Int),t)
 | 0,hj=>⟨false,di (by simp (disch:=omega) only[DI,DH,aM,ag];rfl)⟩
 | j+1,hj=>by
  obtain ⟨t,h⟩:=XQ ha hi hs j (by omega);rw[Xl];by_cases h1:i≤j+1
  ·rw[ah h1];have e:DI (au.E α) CC a i (eA d) ((j+1:Nat):Int)=if au.cmp d[a]! d[j+1]! <0 then some (.inl (j:Int)) else some (.inr (((j+1:Nat):Int),decide (au.cmp d[a]! d[j+1]! <0))):=by
    simp (disch:=omega) only[DI,DH,aM,e7,jO,ah,ag,wrap64,fC,jE,Int.toNat_natCast,Option.bind_some,jW,jX,au.re,jD,lD,ku,au.cs,V.ct,V.toInt_int,cond_true,cond_false,yg]
   simp only[ym];by_cases h2:au.cmp d[a]! d[j+1]! <0
   ·rw[ah h2] at e;rw[ah h2];exact ⟨t,(ga e).trans h⟩
   ·rw[ag h2] at e;rw[ag h2];exact ⟨_,di e⟩
  ·rw[ag h1];exact ⟨false,di (by simp (disch:=omega) only[DI,DH,aM,ag])⟩
theorem aup {a:Nat}: ∀(n i j:Nat) (d:Array α),j+1-i≤n→1≤i→i≤d.size→a<d.size→j<d.size→d.size<1152921504606846976→
  ∃x z,Loop (DG (au.E α) CC a) ((i:Int),(j:Int),eA d)=some (x,(((partLoop aE a i j d).1:Nat):Int),z,eA (partLoop aE a i j d).2):=by
 intro n
 induction n with
 | zero=>
  intro i j d hn h1 h2 ha hj hs;obtain ⟨t3,e3⟩:=ahC (a:=a) ha hj hs _ i rfl h2;have g1:=scanUp_ge (fun x=>aE x d[a]!) d j i;have g2:=scanDown_le (fun x=> !aE x d[a]!) d (scanUp (fun x=>aE x d[a]!) d j i) j;obtain ⟨t4,e4⟩:=XP (a:=a) (i:=scanUp (fun x=>aE x d[a]!) d j i) ha (by omega) hs j hj;rw[partLoop_eq,bp];refine ⟨((scanUp (fun x=>aE x d[a]!) d j i:Nat):Int),true,di ?_⟩;simp only[DG,Jg,un];rw[e3];simp only[Option.bind_some,un];rw[e4];simp (disch:=omega) only[Option.bind_some,un,rO,cond_true]
 | succ n ih=>
  intro i j d hn h1 h2 ha hj hs;obtain ⟨t3,e3⟩:=ahC (a:=a) ha hj hs _ i rfl h2;have g1:=scanUp_ge (fun x=>aE x d[a]!) d j i;have g2:=scanDown_le (fun x=> !aE x d[a]!) d (scanUp (fun x=>aE x d[a]!) d j i) j;obtain ⟨t4,e4⟩:=XP (a:=a) (i:=scanUp (fun x=>aE x d[a]!) d j i) ha (by omega) hs j hj;rw[partLoop_eq];have f:DG (au.E α) CC a ((i:Int),(j:Int),eA d)=DG (au.E α) CC a ((i:Int),(j:Int),eA d):=rfl
  conv at f=>rhs;simp only[DG,Jg,un];rw[e3];simp only[Option.bind_some,un];rw[e4];simp only[Option.bind_some,un]
  generalize lj:scanUp (fun x=>aE x d[a]!) d j i=i2 at*
  generalize cS:scanDown (fun x=> !aE x d[a]!) d i2 j=j2 at*
  by_cases h:i2>j2
  ·rw[ah h];refine ⟨(i2:Int),true,di (f.trans ?_)⟩;simp (disch:=omega) only[Option.bind_some,rO,cond_true]
  ·rw[ag h];obtain ⟨x,z,e⟩:=ih (i2+1) (j2-1) (swp d i2 j2) (by omega) (by omega) (by rw[size_swp];omega) (by rw[size_swp];omega) (by rw[size_swp];omega) (by rw[size_swp];omega);refine ⟨x,z,(ga (f.trans ?_)).trans e⟩;simp (disch:=omega) only[aM,e7,jO,ah,ag,wrap64,fC,jE,Int.toNat_natCast,Option.bind_some,jW,jX,au.re,jD,lD,ku,au.cs,V.ct,V.toInt_int,cond_true,cond_false,nA];rfl
theorem auq (d:Array α) (a b pivot:Nat):partition aE d a b pivot=
  if scanUp (fun x=>aE x (swp d a pivot)[a]!) (swp d a pivot) (b-1) (a+1)>scanDown (fun x=> !aE x (swp d a pivot)[a]!) (swp d a pivot) (scanUp (fun x=>aE x (swp d a pivot)[a]!) (swp d a pivot) (b-1) (a+1)) (b-1) then
   (scanDown (fun x=> !aE x (swp d a pivot)[a]!) (swp d a pivot) (scanUp (fun x=>aE x (swp d a pivot)[a]!) (swp d a pivot) (b-1) (a+1)) (b-1),true,swp (swp d a pivot) (scanDown (fun x=> !aE x (swp d a pivot)[a]!) (swp d a pivot) (scanUp (fun x=>aE x (swp d a pivot)[a]!) (swp d a pivot) (b-1) (a+1)) (b-1)) a)
  else
   ((partLoop aE a (scanUp (fun x=>aE x (swp d a pivot)[a]!) (swp d a pivot) (b-1) (a+1)+1) (scanDown (fun x=> !aE x (swp d a pivot)[a]!) (swp d a pivot) (scanUp (fun x=>aE x (swp d a pivot)[a]!) (swp d a pivot) (b-1) (a+1)) (b-1)-1) (swp (swp d a pivot) (scanUp (fun x=>aE x (swp d a pivot)[a]!) (swp d a pivot) (b-1) (a+1)) (scanDown (fun x=> !aE x (swp d a pivot)[a]!) (swp d a pivot) (scanUp (fun x=>aE x (swp d a pivot)[a]!) (swp d a pivot) (b-1) (a+1)) (b-1)))).1,false,
    swp (partLoop aE a (scanUp (fun x=>aE x (swp d a pivot)[a]!) (swp d a pivot) (b-1) (a+1)+1) (scanDown (fun x=> !aE x (swp d a pivot)[a]!) (swp d a pivot) (scanUp (fun x=>aE x (swp d a pivot)[a]!) (swp d a pivot) (b-1) (a+1)) (b-1)-1) (swp (swp d a pivot) (scanUp (fun x=>aE x (swp d a pivot)[a]!) (swp d a pivot) (b-1) (a+1)) (scanDown (fun x=> !aE x (swp d a pivot)[a]!) (swp d a pivot) (scanUp (fun x=>aE x (swp d a pivot)[a]!) (swp d a pivot) (b-1) (a+1)) (b-1)))).2
    (partLoop aE a (scanUp (fun x=>aE x (swp d a pivot)[a]!) (swp d a pivot) (b-1) (a+1)+1) (scanDown (fun x=> !aE x (swp d a pivot)[a]!) (swp d a pivot) (scanUp (fun x=>aE x (swp d a pivot)[a]!) (swp d a pivot) (b-1) (a+1)) (b-1)-1) (swp (swp d a pivot) (scanUp (fun x=>aE x (swp d a pivot)[a]!) (swp d a pivot) (b-1) (a+1)) (scanDown (fun x=> !aE x (swp d a pivot)[a]!) (swp d a pivot) (scanUp (fun x=>aE x (swp d a pivot)[a]!) (swp d a pivot) (b-1) (a+1)) (b-1)))).1 a):=rfl
theorem DO (d:Array α) (i j:Nat):eA ((d.setIfInBounds i d[j]!).setIfInBounds j d[i]!)=eA (swp d i j):=rfl
theorem aur {a b pivot:Nat} {d:Array α} (hp:pivot<b) (jr:a<b) (hb:b≤d.size) (hs:d.size<1152921504606846976):
  CC ((au.E α).k 4) [.int .i64 (a:Int),.int .i64 (b:Int),.int .i64 (pivot:Int),.list (au.E α).T (eA d)]=
   some [.int .i64 ((partition aE d a b pivot).1:Int),.bool (partition aE d a b pivot).2.1,.list (au.E α).T (eA (partition aE d a b pivot).2.2)]:=by
 refine au.aho ?_;unfold XA;have z1:(swp d a pivot).size=d.size:=size_swp ..;obtain ⟨t1,e1⟩:=auo (a:=a) (j:=b-1) (d:=swp d a pivot) (by omega) (by omega) (by omega) _ (a+1) rfl (by omega);have g1:=scanUp_ge (fun x=>aE x (swp d a pivot)[a]!) (swp d a pivot) (b-1) (a+1);have g2:=scanDown_le (fun x=> !aE x (swp d a pivot)[a]!) (swp d a pivot) (scanUp (fun x=>aE x (swp d a pivot)[a]!) (swp d a pivot) (b-1) (a+1)) (b-1);obtain ⟨t2,e2⟩:=ahD (a:=a) (i:=scanUp (fun x=>aE x (swp d a pivot)[a]!) (swp d a pivot) (b-1) (a+1)) (d:=swp d a pivot) (by omega) (by omega) (by omega) (b-1) (by omega);have e0:=auq d a b pivot;rw[oy (i:=pivot),oy (i:=a),oy (i:=a),Pw (i:=pivot)];simp only[au.re,Int.toNat_natCast,jD,DO];simp (disch:=omega) only[nA,fC,wrap64];rw[e1];simp only[Option.bind_some,un];rw[e2];simp only[Option.bind_some,un];generalize lj:scanUp (fun x=>aE x (swp d a pivot)[a]!) (swp d a pivot) (b-1) (a+1)=i2 at*
 generalize cS:scanDown (fun x=> !aE x (swp d a pivot)[a]!) (swp d a pivot) i2 (b-1)=j2 at*
 generalize swp d a pivot=d1 at*
 by_cases h:i2>j2
 ·rw[ah h] at e0;rw[e0,aM,bp];rw[oy (i:=a),oy (i:=j2)];rw[oy (i:=j2),Pw (i:=a)];simp only[au.re,Int.toNat_natCast,jD,DO]
 ·rw[ag h] at e0;rw[e0,aM,cf];have z2:(swp d1 i2 j2).size=d1.size:=size_swp ..;obtain ⟨x,z,e5⟩:=aup (a:=a) _ (i2+1) (j2-1) (swp d1 i2 j2) (az _) (by omega) (by omega) (by omega) (by omega) (by omega);obtain ⟨q1,q2⟩:=aun (a:=a) _ (i2+1) (j2-1) (swp d1 i2 j2) (az _);rw[oy (i:=j2),oy (i:=i2)];rw[oy (i:=i2),Pw (i:=j2)];simp only[au.re,Int.toNat_natCast,jD,DO];simp (disch:=omega) only[nA,fC,wrap64];rw[e5];generalize partLoop aE a (i2+1) (j2-1) (swp d1 i2 j2)=r at*
  simp only[Option.bind_some,un];rw[oy (i:=a),oy (i:=r.1)];rw[oy (i:=r.1),Pw (i:=a)];simp only[au.re,Int.toNat_natCast,jD,DO]
theorem aus {a:Nat}: ∀(n i j:Nat) (d:Array α),j+1-i≤n→1≤i→i≤d.size→a<d.size→j<d.size→d.size<1152921504606846976→
  ∃x z,Loop (DJ (au.E α) CC a) ((i:Int),(j:Int),eA d)=some ((((partEqLoop aE a i j d).1:Nat):Int),x,z,eA (partEqLoop aE a i j d).2):=by
 intro n
 induction n with
 | zero=>
  intro i j d hn h1 h2 ha hj hs;obtain ⟨t3,e3⟩:=ahE (a:=a) ha hj hs _ i rfl h2;have g1:=scanUp_ge (fun x=> !aE d[a]! x) d j i;have g2:=scanDown_le (fun x=>aE d[a]! x) d (scanUp (fun x=> !aE d[a]! x) d j i) j;obtain ⟨t4,e4⟩:=XQ (a:=a) (i:=scanUp (fun x=> !aE d[a]! x) d j i) ha (by omega) hs j hj;rw[partEqLoop_eq,bp];refine ⟨((scanDown (fun x=>aE d[a]! x) d (scanUp (fun x=> !aE d[a]! x) d j i) j:Nat):Int),true,di ?_⟩;simp only[DJ,Jk,un];rw[e3];simp only[Option.bind_some,un];rw[e4];simp (disch:=omega) only[Option.bind_some,un,rO,cond_true]
 | succ n ih=>
  intro i j d hn h1 h2 ha hj hs;obtain ⟨t3,e3⟩:=ahE (a:=a) ha hj hs _ i rfl h2;have g1:=scanUp_ge (fun x=> !aE d[a]! x) d j i;have g2:=scanDown_le (fun x=>aE d[a]! x) d (scanUp (fun x=> !aE d[a]! x) d j i) j;obtain ⟨t4,e4⟩:=XQ (a:=a) (i:=scanUp (fun x=> !aE d[a]! x) d j i) ha (by omega) hs j hj;rw[partEqLoop_eq];have f:DJ (au.E α) CC a ((i:Int),(j:Int),eA d)=DJ (au.E α) CC a ((i:Int),(j:Int),eA d):=rfl
  conv at f=>rhs;simp only[DJ,Jk,un];rw[e3];simp only[Option.bind_some,un];rw[e4];simp only[Option.bind_some,un]
  generalize lj:scanUp (fun x=> !aE d[a]! x) d j i=i2 at*
  generalize cS:scanDown (fun x=>aE d[a]! x) d i2 j=j2 at*
  by_cases h:i2>j2
  ·rw[ah h];refine ⟨(j2:Int),true,di (f.trans ?_)⟩;simp (disch:=omega) only[Option.bind_some,rO,cond_true]
  ·rw[ag h];obtain ⟨x,z,e⟩:=ih (i2+1) (j2-1) (swp d i2 j2) (by omega) (by omega) (by rw[size_swp];omega) (by rw[size_swp];omega) (by rw[size_swp];omega) (by rw[size_swp];omega);refine ⟨x,z,(ga (f.trans ?_)).trans e⟩;simp (disch:=omega) only[aM,e7,jO,ah,ag,wrap64,fC,jE,Int.toNat_natCast,Option.bind_some,jW,jX,au.re,jD,lD,ku,au.cs,V.ct,V.toInt_int,cond_true,cond_false,nA];rfl
theorem aut {a b pivot:Nat} {d:Array α} (hp:pivot<b) (jr:a<b) (hb:b≤d.size) (hs:d.size<1152921504606846976):
  CC ((au.E α).k 5) [.int .i64 (a:Int),.int .i64 (b:Int),.int .i64 (pivot:Int),.list (au.E α).T (eA d)]=
   some [.int .i64 ((partitionEqual aE d a b pivot).1:Int),.list (au.E α).T (eA (partitionEqual aE d a b pivot).2)]:=by
 refine au.ahp ?_;unfold XC;have z1:(swp d a pivot).size=d.size:=size_swp ..;obtain ⟨x,z,e⟩:=aus (a:=a) _ (a+1) (b-1) (swp d a pivot) (az _) (by omega) (by omega) (by omega) (by omega) (by omega);simp (disch:=omega) only[aM,e7,ah,jW,jX,Int.toNat_natCast,Option.bind_some,au.re,jD,lD,ku,nA,fC,wrap64,DO];rw[e];rfl
theorem auu {a b j:Nat} {d:Array α} (hb:b≤d.size) (hs:d.size<1152921504606846976): ∀(n i:Nat),b-i=n→1≤i→i≤b→
  ∃t,Loop (Jm (au.E α) CC a b j (eA d)) (i:Int)=some (((scanSorted aE d b i:Nat):Int),t):=by
 intro n
 induction n with
 | zero=>
  intro i hn h1 hi;rw[Px,cf];exact ⟨false,di (by simp (disch:=omega) only[Jm,Jl,aM,ag])⟩
 | succ n ih=>
  intro i hn h1 hi;obtain ⟨t,h⟩:=ih (i+1) (by omega) (by omega) (by omega);rw[Px,bp];have e:Jm (au.E α) CC a b j (eA d) (i:Int)=if au.cmp d[i]! d[i-1]! <0 then some (.inr ((i:Int),!decide (au.cmp d[i]! d[i-1]! <0))) else some (.inl ((i+1:Nat):Int)):=by
   simp (disch:=omega) only[Jm,Jl,nA,aM,e7,jO,ah,ag,wrap64,fC,jE,Int.toNat_natCast,Option.bind_some,jW,jX,au.re,jD,lD,ku,au.cs,V.ct,V.toInt_int,cond_true,cond_false]
  by_cases h2:au.cmp d[i]! d[i-1]! <0
  ·rw[ah h2] at e⊢;exact ⟨_,di e⟩
  ·rw[ag h2] at e⊢;exact ⟨t,(ga e).trans h⟩
theorem ahF: ∀(j:Nat) (d:Array α),(shiftDown aE j d).size=d.size
 | 0,_=>rfl
 | j+1,d=>by
  rw[ahB];split
  ·rw[ahF j,size_swp]
  ·rfl
theorem auv {b:Nat}: ∀(n j:Nat) (d:Array α),b-j=n→(shiftUp aE b j d).size=d.size:=by
 intro n
 induction n with
 | zero=>intro j d h;rw[Py,cf]
 | succ n ih=>
  intro j d h;rw[Py,bp];split
  ·rw[ih _ _ (by omega),size_swp]
  ·rfl
theorem ahG {a b i k:Nat}: ∀(j:Nat) (d:Array α),j<d.size→d.size<1152921504606846976→
  ∃t,Loop (Jo (au.E α) CC a b i k) ((j:Int),eA d)=some (t,eA (shiftDown aE j d))
 | 0,d,hj,hs=>⟨(0:Nat),di (by
   simp (disch:=omega) only[Jo,Jn,un,aM,ag];rfl)⟩
 | j+1,d,hj,hs=>by
  obtain ⟨t,ih⟩:=ahG (a:=a) (b:=b) (i:=i) (k:=k) j (swp d (j+1) j) (by rw[size_swp];omega) (by rw[size_swp];omega);rw[ahB];have e:Jo (au.E α) CC a b i k (((j+1:Nat):Int),eA d)=if au.cmp d[j+1]! d[j]! <0 then some (.inl ((j:Int),eA (swp d (j+1) j))) else some (.inr (((j+1:Nat):Int),eA d)):=by
   simp (disch:=omega) only[Jo,Jn,un,aM,e7,jO,ah,ag,wrap64,fC,jE,Int.toNat_natCast,Option.bind_some,jW,jX,au.re,jD,lD,ku,au.cs,V.ct,V.toInt_int,cond_true,cond_false,yg];rfl
  by_cases h2:au.cmp d[j+1]! d[j]! <0
  ·rw[ah h2] at e⊢;exact ⟨t,(ga e).trans ih⟩
  ·rw[ag h2] at e⊢;exact ⟨_,di e⟩
theorem auw {a b i k:Nat}: ∀(n j:Nat) (d:Array α),b-j=n→1≤j→j≤b→b≤d.size→d.size<1152921504606846976→
  ∃t,Loop (Jq (au.E α) CC a b i k) ((j:Int),eA d)=some (t,eA (shiftUp aE b j d)):=by
 intro n
 induction n with
 | zero=>
  intro j d hn h1 hj hb hs;rw[Py,cf];exact ⟨(j:Int),di (by
   simp (disch:=omega) only[Jq,Jp,un,aM,ag])⟩
 | succ n ih=>
  intro j d hn h1 hj hb hs;obtain ⟨t,h⟩:=ih (j+1) (swp d j (j-1)) (by omega) (by omega) (by omega) (by rw[size_swp];omega) (by rw[size_swp];omega);rw[Py,bp];have e:Jq (au.E α) CC a b i k ((j:Int),eA d)=if au.cmp d[j]! d[j-1]! <0 then some (.inl (((j+1:Nat):Int),eA (swp d j (j-1)))) else some (.inr ((j:Int),eA d)):=by
   simp (disch:=omega) only[Jq,Jp,un,nA,aM,e7,jO,ah,ag,wrap64,fC,jE,Int.toNat_natCast,Option.bind_some,jW,jX,au.re,jD,lD,ku,au.cs,V.ct,V.toInt_int,cond_true,cond_false];rfl
  by_cases h2:au.cmp d[j]! d[j-1]! <0
  ·rw[ah h2] at e⊢;exact ⟨t,(ga e).trans h⟩
  ·rw[ag h2] at e⊢;exact ⟨_,di e⟩
theorem auy {d:Array α} {b:Nat}: ∀(n i:Nat),b-i=n→i≤b→i≤scanSorted aE d b i∧scanSorted aE d b i≤b:=by
 intro n
 induction n with
 | zero=>intro i hn hi;rw[Px,cf];omega
 | succ n ih=>
  intro i hn hi;rw[Px,bp];obtain ⟨h1,h2⟩:=ih (i+1) (by omega) (by omega);split<;>omega
theorem auz {a b:Nat}: ∀(s i:Nat) (d:Array α),s≤5→a<i→i≤b→b≤d.size→d.size<1152921504606846976→
  (Loop (yk (au.E α) CC a b) ((i:Int),((5-s:Nat):Int),eA d)=some (.inl ((partialIns aE a b s i d).2,eA (partialIns aE a b s i d).1)))∨
  (∃x y z,(partialIns aE a b s i d).2=false∧Loop (yk (au.E α) CC a b) ((i:Int),((5-s:Nat):Int),eA d)=some (.inr (x,y,z,eA (partialIns aE a b s i d).1))):=by
 intro s
 induction s with
 | zero=>
  intro i d hs5 hi XR hb hs;refine .inr ⟨(i:Int),((5:Nat):Int),false,rfl,di ?_⟩;simp (disch:=omega) only[yk,Jr,un,wE,cond_false];rfl
 | succ s ih=>
  intro i d hs5 hi XR hb hs;obtain ⟨t1,e1⟩:=auu (a:=a) (j:=5-(s+1)) hb hs _ i rfl (by omega) XR;obtain ⟨q1,q2⟩:=auy (d:=d) _ i rfl XR;rw[partialIns_succ];have f:yk (au.E α) CC a b ((i:Int),((5-(s+1):Nat):Int),eA d)=yk (au.E α) CC a b ((i:Int),((5-(s+1):Nat):Int),eA d):=rfl
  conv at f=>rhs;simp only[yk,Jr,un];rw[aM,bp,e1];simp only[Option.bind_some,un]
  generalize scanSorted aE d b i=k at*
  by_cases h1:k=b
  ·rw[ah h1];left;refine di (f.trans ?_);rw[ry,bp]
  ·rw[ag h1];by_cases h2:b-a<50
   ·rw[ah h2];left;refine di (f.trans ?_);rw[ry,cf,dM,aM,bp]
   ·rw[ag h2];have z1:(swp d k (k-1)).size=d.size:=size_swp ..;have z2:(fixDown aE a k (swp d k (k-1))).size=d.size:=by
     unfold fixDown;split
     ·rw[ahF,z1]
     ·exact z1
    have z3:(fixUp aE b k (fixDown aE a k (swp d k (k-1)))).size=d.size:=by
     unfold fixUp;split
     ·rw[auv _ _ _ rfl,z2]
     ·exact z2
    obtain ⟨t2,e2⟩:=ahG (a:=a) (b:=b) (i:=k) (k:=5-(s+1)) (k-1) (swp d k (k-1)) (by omega) (by omega);obtain ⟨t4,e4⟩:=auw (a:=a) (b:=b) (i:=k) (k:=5-(s+1)) _ (k+1) (fixDown aE a k (swp d k (k-1))) rfl (by omega) (by omega) (by omega) (by omega);have e5:yk (au.E α) CC a b ((i:Int),((5-(s+1):Nat):Int),eA d)=some (.inl ((k:Int),((5-s:Nat):Int),eA (fixUp aE b k (fixDown aE a k (swp d k (k-1)))))):=by
     refine f.trans ?_;rw[ry,cf,dM,aM,cf];simp (disch:=omega) only[aM,e7,ah,jW,jX,Int.toNat_natCast,Option.bind_some,au.re,jD,lD,ku,nA,fC,qL,wrap64,DO,Pq];rw[show 5-(s+1)+1=5-s by omega];unfold fixDown at e4⊢;unfold fixUp;have c1:(((k-a:Nat):Int)≥2)=(k-a≥2):=propext (by omega);have c2:(((b-k:Nat):Int)≥2)=(b-k≥2):=propext (by omega);simp only[c1,c2];by_cases g1:k-a≥2
     ·by_cases g2:b-k≥2
      ·simp only[g1,g2,kS,e2,Option.bind_some,un] at e4⊢;rw[e4];rfl
      ·simp only[g1,g2,kS,mj,e2,Option.bind_some,un]
     ·by_cases g2:b-k≥2
      ·simp only[g1,g2,kS,mj] at e4⊢;rw[e4];rfl
      ·exact absurd (show b-k≥2 by omega) g2
    rw[ga e5];exact ih k _ (by omega) (by omega) (by omega) (by omega) (by omega)
theorem ahH {a b:Nat} {d:Array α} (jr:a<b) (hb:b≤d.size) (hs:d.size<1152921504606846976):
  CC ((au.E α).k 6) [.int .i64 (a:Int),.int .i64 (b:Int),.list (au.E α).T (eA d)]=
   some [.bool (partialInsertionSort aE d a b).2,.list (au.E α).T (eA (partialInsertionSort aE d a b).1)]:=by
 refine au.ahq ?_;unfold XD;simp (disch:=omega) only[fC,wrap64];rcases auz (a:=a) (b:=b) 5 (a+1) d (az _) (by omega) (by omega) hb hs with h|⟨x,y,z,h0,h⟩
 ·rw[show ((5-5:Nat):Int)=0 from rfl] at h;rw[h];rfl
 ·rw[show ((5-5:Nat):Int)=0 from rfl] at h;rw[h];unfold partialInsertionSort;rw[h0];rfl
end Go.AM
set_option maxRecDepth 100000
namespace Go.AM
open Go.IntKind (wrap)
open Go.Proofs
def ahI (C:ae) (mb:Int):Option LV:=
 some [.int .u64 (wrap .u64 ((BitVec.ofInt (IntKind.bits .u64) (wrap .u64 ((BitVec.ofInt (IntKind.bits .u64) (wrap .u64 ((BitVec.ofInt (IntKind.bits .u64) mb ^^^ BitVec.ofInt (IntKind.bits .u64) (wrap .u64 (mb*2^(min (13:Int).toNat (IntKind.bits .u64))))).toNat)) ^^^ BitVec.ofInt (IntKind.bits .u64) (Int.fdiv (wrap .u64 ((BitVec.ofInt (IntKind.bits .u64) mb ^^^ BitVec.ofInt (IntKind.bits .u64) (wrap .u64 (mb*2^(min (13:Int).toNat (IntKind.bits .u64))))).toNat)) (2^(min (7:Int).toNat (IntKind.bits .u64))))).toNat)) ^^^ BitVec.ofInt (IntKind.bits .u64) (wrap .u64 ((wrap .u64 ((BitVec.ofInt (IntKind.bits .u64) (wrap .u64 ((BitVec.ofInt (IntKind.bits .u64) mb ^^^ BitVec.ofInt (IntKind.bits .u64) (wrap .u64 (mb*2^(min (13:Int).toNat (IntKind.bits .u64))))).toNat)) ^^^ BitVec.ofInt (IntKind.bits .u64) (Int.fdiv (wrap .u64 ((BitVec.ofInt (IntKind.bits .u64) mb ^^^ BitVec.ofInt (IntKind.bits .u64) (wrap .u64 (mb*2^(min (13:Int).toNat (IntKind.bits .u64))))).toNat)) (2^(min (7:Int).toNat (IntKind.bits .u64))))).toNat))*2^(min (17:Int).toNat (IntKind.bits .u64))))).toNat)),.int .u64 (wrap .u64 ((BitVec.ofInt (IntKind.bits .u64) (wrap .u64 ((BitVec.ofInt (IntKind.bits .u64) (wrap .u64 ((BitVec.ofInt (IntKind.bits .u64) mb ^^^ BitVec.ofInt (IntKind.bits .u64) (wrap .u64 (mb*2^(min (13:Int).toNat (IntKind.bits .u64))))).toNat)) ^^^ BitVec.ofInt (IntKind.bits .u64) (Int.fdiv (wrap .u64 ((BitVec.ofInt (IntKind.bits .u64) mb ^^^ BitVec.ofInt (IntKind.bits .u64) (wrap .u64 (mb*2^(min (13:Int).toNat (IntKind.bits .u64))))).toNat)) (2^(min (7:Int).toNat (IntKind.bits .u64))))).toNat)) ^^^ BitVec.ofInt (IntKind.bits .u64) (wrap .u64 ((wrap .u64 ((BitVec.ofInt (IntKind.bits .u64) (wrap .u64 ((BitVec.ofInt (IntKind.bits .u64) mb ^^^ BitVec.ofInt (IntKind.bits .u64) (wrap .u64 (mb*2^(min (13:Int).toNat (IntKind.bits .u64))))).toNat)) ^^^ BitVec.ofInt (IntKind.bits .u64) (Int.fdiv (wrap .u64 ((BitVec.ofInt (IntKind.bits .u64) mb ^^^ BitVec.ofInt (IntKind.bits .u64) (wrap .u64 (mb*2^(min (13:Int).toNat (IntKind.bits .u64))))).toNat)) (2^(min (7:Int).toNat (IntKind.bits .u64))))).toNat))*2^(min (17:Int).toNat (IntKind.bits .u64))))).toNat))]
theorem auA {mb:Int} {r:Option LV} (h:ahI CC mb=r):CC M5 [.int .u64 mb]=r:=bj (L:=bm) an h
def ahJ (C:ae) (length:Int):Option LV:=
 (C Gy [.int .u64 (wrap .u64 length)]).bind fun r1=>
 bif decide (0≤((V.nth r1 0).toInt)) then
  some [.int .u64 (wrap .u64 (1*2^(min ((V.nth r1 0).toInt).toNat (IntKind.bits .u64))))]
 else none
theorem auB {length:Int} {r:Option LV} (h:ahJ CC length=r):CC M4 [V.int .i64 length]=r:=bj (L:=bm) an h
def ahK (C:ae) (x:Int):Option LV:=
 (C GB [.int .u64 x]).bind fun r1=>
 some [V.int .i64 ((V.nth r1 0).toInt)]
theorem auC {x:Int} {r:Option LV} (h:ahK CC x=r):CC Gy [.int .u64 x]=r:=bj (L:=bm) an h
def AY (C:ae) (x n:Int) (t4:Bool) {β:Type} (kr:(Int×Int)→Option β):Option β:=
 bif t4 then
  kr (Int.fdiv x (2^(min (32:Int).toNat (IntKind.bits .u64))),32)
 else
  kr (x,n)
def AZ (C:ae) (x n:Int) (t8:Bool) {β:Type} (kr:(Int×Int)→Option β):Option β:=
 bif t8 then
  kr (Int.fdiv x (2^(min (16:Int).toNat (IntKind.bits .u64))),wrap .i64 (n+16))
 else
  kr (x,n)
def ahL (C:ae):cE:=gH 79 Vt [[0,0]] (@AY C) (gH 143 Vu [[0,0]] (@AZ C) bm)
theorem auD (C:ae):aW C (ahL C) 115 (Cd 4 [1,0,1,0] [1,0,1,1] 115):=gG Vt [[0,0]] (@AY C) (aG an) (aG an)
theorem auE (C:ae):aW C (ahL C) 115 (Cd 8 [1,1,0,1,0] [1,1,0,1,1] 115):=gG Vu [[0,0]] (@AZ C) (aG an) (aG an)
def ahM (C:ae) (x:Int):Option LV:=
 AY C x 0 (decide (x≥4294967296)) (un fun (iy:Int) (cv:Int)=>
  AZ C iy cv (decide (iy≥65536)) (un fun (yn:Int) (dL:Int)=>
   bif decide (yn≥256) then
    (bif decide (0≤(wrap .u8 (Int.fdiv yn (2^(min (8:Int).toNat (IntKind.bits .u64)))))) then (Ct[(wrap .u8 (Int.fdiv yn (2^(min (8:Int).toNat (IntKind.bits .u64)))):Int).toNat]?).map fun b=>V.int .u8 b.toNat else none).bind fun x5=>
    some [V.int .i64 (wrap .i64 ((wrap .i64 (dL+8))+(wrap .i64 x5.toInt)))]
   else
    (bif decide (0≤(wrap .u8 yn)) then (Ct[(wrap .u8 yn:Int).toNat]?).map fun b=>V.int .u8 b.toNat else none).bind fun x6=>
    some [V.int .i64 (wrap .i64 (dL+(wrap .i64 x6.toInt)))]))
theorem XS {x:Int} {r:Option LV} (h:ahM CC x=r):CC GB [.int .u64 x]=r:=bj (aU (auD CC) (aU (auE CC) an)) h
end Go.AM
set_option maxRecDepth 100000
set_option maxHeartbeats 4000000
namespace Go.AM
open Go.IntKind (wrap)
open Go.Proofs Go.Sort
variable {α:Type} [au α]
theorem ahN (a b:α):(aE a b=false)= ¬(au.cmp a b<0):=by rw[←ym];simp
theorem DP:SWO (aE (α:=α)):=au.swo
variable [Inhabited α]
def Pz:List UInt8:=Ct
theorem auF:(List.range 256).all (fun y=>match Pz[y]? with|some b=>decide (b.toNat≤8)&&(Nat.beq y 0||(decide (1≤b.toNat)&&decide (2^(b.toNat-1)≤y)))|none=>false)=true:=by decide+kernel
theorem ahO {y:Nat} (h:y<256): ∃b,Pz[y]? =some b∧b.toNat≤8∧(0<y→1≤b.toNat∧2^(b.toNat-1)≤y):=by
 have:=gD.1 auF y (jG.2 h);cases hb:Pz[y]? with
 | none=>rw[hb] at this;cases this
 | some b=>
  rw[hb] at this;simp only[aK,Bool.or_eq_true,fo] at this;refine ⟨b,rfl,this.1,fun hy=> ?_⟩;rcases this.2 with h2|h2
  ·have:=D3 h2;omega
  ·exact h2
theorem XT {y t k:Nat} (h:2^(t-1)≤y/2^k) (ht:1≤t):2^(t+k-1)≤y:=by
 have e:t+k-1=(t-1)+k:=by omega
 rw[e,Nat.pow_add];exact kR (eM _ h) (Nat.div_mul_le_self _ _)
def DQ (y n:Int):Option (List V):=
(bif decide ((y:Int)≥256) then
    (bif decide (0≤(wrap .u8 (Int.fdiv y (2^(min (8:Int).toNat (IntKind.bits .u64)))))) then (Ct[(wrap .u8 (Int.fdiv y (2^(min (8:Int).toNat (IntKind.bits .u64)))):Int).toNat]?).map fun b=>V.int .u8 b.toNat else none).bind fun x5=>
    some [V.int .i64 (wrap .i64 ((wrap .i64 (n+8))+(wrap .i64 x5.toInt)))]
   else
    (bif decide (0≤(wrap .u8 y)) then (Ct[(wrap .u8 y:Int).toNat]?).map fun b=>V.int .u8 b.toNat else none).bind fun x6=>
    some [V.int .i64 (wrap .i64 (n+(wrap .i64 x6.toInt)))])
theorem auG {x:Nat} (h:x<2^64): ∃L:Nat,CC GB [.int .u64 (x:Int)]=some [.int .i64 (L:Int)]∧L≤64∧(0<x→1≤L∧2^(L-1)≤x):=by
 have last: ∀y n:Nat,y<65536→n≤48→∃t:Nat,
   DQ (y:Int) (n:Int)=some [V.int .i64 ((n+t:Nat):Int)]∧t≤16∧(0<y→1≤t∧2^(t-1)≤y):=by
  intro y n hy hn;unfold DQ;rw[show Ct=Pz from rfl];by_cases h1:y≥256
  ·have e:Int.fdiv (y:Int) (2^(min (8:Int).toNat (IntKind.bits .u64)))=((y/2^8:Nat):Int):=G1 (m:=8) (by omega);obtain ⟨b,hb,b1,b2⟩:=ahO (y:=y/2^8) (by omega);refine ⟨b.toNat+8,?_,by omega,fun _=> ?_⟩
   ·rw[e,aM,bp,ab6 (by omega) (by omega),aM,bp,Int.toNat_natCast,hb];simp only[Option.map_some,Option.bind_some,V.toInt_int];simp (disch:=omega) only[wrap64];congr 3;omega
   ·obtain ⟨b3,b4⟩:=b2 (by omega);exact ⟨by omega,XT b4 b3⟩
  ·obtain ⟨b,hb,b1,b2⟩:=ahO (y:=y) (by omega);refine ⟨b.toNat,?_,by omega,b2⟩;rw[aM,cf,ab6 (by omega) (by omega),aM,bp,Int.toNat_natCast,hb];simp (disch:=omega) only[Option.map_some,Option.bind_some,V.toInt_int,wrap64];congr 3
 have mid: ∀y n:Nat,y<4294967296→n≤32→∃t:Nat,∀F:Int→Int→Option (List V),
   (∀y n:Nat,y<65536→n≤48→∃t:Nat,F (y:Int) (n:Int)=some [V.int .i64 ((n+t:Nat):Int)]∧t≤16∧(0<y→1≤t∧2^(t-1)≤y))→
   ∃t:Nat,AZ CC (y:Int) (n:Int) (decide (((y:Int):Int)≥65536)) (un F)=some [V.int .i64 ((n+t:Nat):Int)]∧t≤32∧(0<y→1≤t∧2^(t-1)≤y):=by
  intro y n hy hn;refine ⟨0,fun F hF=> ?_⟩;unfold AZ;by_cases h1:y≥65536
  ·have e:Int.fdiv (y:Int) (2^(min (16:Int).toNat (IntKind.bits .u64)))=((y/2^16:Nat):Int):=G1 (m:=16) (by omega);rw[aM,bp,e,dM];obtain ⟨t,h2,h3,h4⟩:=hF (y/2^16) (n+16) (by omega) (by omega);refine ⟨t+16,?_,by omega,fun _=> ?_⟩
   ·rw[show ((n:Int)+16)=((n+16:Nat):Int) by omega];simp only[un];rw[h2];congr 3;omega
   ·obtain ⟨b3,b4⟩:=h4 (by omega);exact ⟨by omega,XT b4 b3⟩
  ·rw[aM,cf];obtain ⟨t,h2,h3,h4⟩:=hF y n (by omega) (by omega);exact ⟨t,h2,by omega,h4⟩
 by_cases h1:x≥4294967296
 ·have e:Int.fdiv (x:Int) (2^(min (32:Int).toNat (IntKind.bits .u64)))=((x/2^32:Nat):Int):=G1 (m:=32) (by omega);obtain ⟨_,hm⟩:=mid (x/2^32) 32 (by omega) (by omega);obtain ⟨t,h2,h3,h4⟩:=hm DQ last;refine ⟨32+t,XS ?_,by omega,fun _=> ?_⟩
  ·show AY CC (x:Int) 0 (decide (((x:Int):Int)≥4294967296)) (un fun (iy:Int) (cv:Int)=>AZ CC iy cv (decide ((iy:Int)≥65536)) (un DQ))=_;unfold AY;rw[aM,bp,e];exact h2
  ·obtain ⟨b3,b4⟩:=h4 (by omega);rw[Nat.add_comm 32 t];exact ⟨by omega,XT b4 b3⟩
 ·obtain ⟨_,hm⟩:=mid x 0 (by omega) (by omega);obtain ⟨t,h2,h3,h4⟩:=hm DQ last;refine ⟨t,XS ?_,by omega,h4⟩;show AY CC (x:Int) 0 (decide (((x:Int):Int)≥4294967296)) (un fun (iy:Int) (cv:Int)=>AZ CC iy cv (decide ((iy:Int)≥65536)) (un DQ))=_;unfold AY;rw[aM,cf];rw[ed] at h2;exact h2
theorem ahP {x:Nat} (h:x<2^64): ∃L:Nat,CC Gy [.int .u64 (x:Int)]=some [.int .i64 (L:Int)]∧L≤64∧(0<x→1≤L∧2^(L-1)≤x):=by
 obtain ⟨L,h1,h2⟩:=auG h;refine ⟨L,auC ?_,h2⟩;unfold ahK;rw[h1];rfl
theorem auH {x:Nat} (h0:0<x) (h:x<1152921504606846976): ∃M:Nat,CC M4 [.int .i64 (x:Int)]=some [.int .u64 (M:Int)]∧1≤M∧M≤2*x:=by
 obtain ⟨L,h1,h2,h3⟩:=ahP (x:=x) (by omega);obtain ⟨h4,h5⟩:=h3 h0;have e:2^L=2*2^(L-1):=by
  obtain ⟨k,rfl⟩: ∃k,L=k+1:=⟨L-1,by omega⟩
  rw[Nat.pow_succ];simp only[Kp];omega
 have hL:L<64:=by
  by_cases hx:L<64
  ·exact hx
  ·have:2^63≤2^(L-1):=sb (by omega) (by omega);omega
 refine ⟨2^L,auB ?_,rY (by simp),by omega⟩;unfold ahJ;rw[s6 (A:=x) (by omega),h1];simp only[Option.bind_some,V.ct,V.toInt_int];rw[aM,bp,Int.toNat_natCast,G0 hL]
theorem auI (r:Int): ∃R:Nat,CC M5 [.int .u64 r]=some [.int .u64 (R:Int),.int .u64 (R:Int)]∧R<2^64:=by
 have h: ∀n:Int,∃R:Nat,wrap .u64 n=(R:Int)∧R<2^64:=fun n=>⟨(wrap .u64 n).toNat,by rw[wrap_u64];omega,by rw[wrap_u64];omega⟩
 obtain ⟨R,h1,h2⟩:=h _;exact ⟨R,auA (by unfold ahI;rw[h1]),h2⟩
theorem PA {d:Array α} {i:Nat} (h:i<d.size):idx (eA d) (i:Int)=some (au.enc (d[i]!)):=by rw[Mo,jX h]
theorem XU {d:Array α} {a b:Nat} {s:Int} (ha:a<d.size) (hb:b<d.size): ∃(x y:Nat) (s':Int),CC ((au.E α).k 10) [.list (au.E α).T (eA d),.int .i64 (a:Int),.int .i64 (b:Int),.int .i64 s]=some [.int .i64 (x:Int),.int .i64 (y:Int),.int .i64 s']∧(x=a∧y=b∨x=b∧y=a):=by
 by_cases h:au.cmp d[b]! d[a]! <0
 ·refine ⟨b,a,_,au.XM (by unfold Pt;rw[PA hb,PA ha];simp only[Option.bind_some,au.re,au.cs,V.ct,V.toInt_int];rw[aM,ah h]),.inr ⟨rfl,rfl⟩⟩
 ·refine ⟨a,b,_,au.XM (by unfold Pt;rw[PA hb,PA ha];simp only[Option.bind_some,au.re,au.cs,V.ct,V.toInt_int];rw[aM,ag h]),.inl ⟨rfl,rfl⟩⟩
theorem XV {d:Array α} {a b c:Nat} {s:Int} (ha:a<d.size) (hb:b<d.size) (hc:c<d.size): ∃(m:Nat) (s':Int),CC ((au.E α).k 8) [.list (au.E α).T (eA d),.int .i64 (a:Int),.int .i64 (b:Int),.int .i64 (c:Int),.int .i64 s]=some [.int .i64 (m:Int),.int .i64 s']∧(m=a∨m=b∨m=c):=by
 obtain ⟨x1,y1,s1,e1,o1⟩:=XU (s:=s) ha hb;obtain ⟨x2,y2,s2,e2,o2⟩:=XU (d:=d) (a:=y1) (b:=c) (s:=s1) (by omega) hc;obtain ⟨x3,y3,s3,e3,o3⟩:=XU (d:=d) (a:=x1) (b:=x2) (s:=s2) (by omega) (by omega);refine ⟨y3,s3,au.ahs ?_,by omega⟩;unfold XG;rw[e1];simp only[Option.bind_some,V.ct,V.vP,V.toInt_int,mq,jZ];rw[e2];simp only[Option.bind_some,V.ct,V.vP,V.toInt_int,mq,jZ];rw[e3];rfl
theorem XW {d:Array α} {a:Nat} {s:Int} (h1:1≤a) (ha:a+1<d.size) (hs:d.size<1152921504606846976): ∃(m:Nat) (s':Int),CC ((au.E α).k 9) [.list (au.E α).T (eA d),.int .i64 (a:Int),.int .i64 s]=some [.int .i64 (m:Int),.int .i64 s']∧a≤m+1∧m≤a+1:=by
 obtain ⟨m,s',e,o⟩:=XV (d:=d) (a:=a-1) (b:=a) (c:=a+1) (s:=s) (by omega) (by omega) (by omega);refine ⟨m,s',au.aht ?_,by omega,by omega⟩;unfold XH;simp (disch:=omega) only[nA,fC,wrap64];rw[e];rfl
theorem XX (n:Nat):Int.tdiv (n:Int) 4=((n/4:Nat):Int):=by
 have:=divC n 4;exact this
theorem mulC (k n:Nat):((k:Nat):Int)*(n:Int)=((k*n:Nat):Int):=(Int.natCast_mul k n).symm
theorem auJ {d:Array α} {a b:Nat} (jr:a+12<b) (hb:b≤d.size) (hs:d.size<1152921504606846976): ∃(p:Nat) (h:Int),CC ((au.E α).k 11) [.list (au.E α).T (eA d),.int .i64 (a:Int),.int .i64 (b:Int)]=some [.int .i64 (p:Int),.int .i64 h]∧a≤p∧p<b:=by
 have fin: ∀(p:Nat) (s:Int),∃h:Int,(bif (s:Int)==0 then some [V.int .i64 (p:Int),V.int .i64 1] else bif (s:Int)==12 then some [V.int .i64 (p:Int),V.int .i64 2] else some [V.int .i64 (p:Int),V.int .i64 0])=some [V.int .i64 (p:Int),V.int .i64 h]:=by
  intro p s;rw[ry];split
  ·exact ⟨1,rfl⟩
  ·rw[ry];split
   ·exact ⟨2,rfl⟩
   ·exact ⟨0,rfl⟩
 have e1:wrap .i64 ((b:Int)-(a:Int))=((b-a:Nat):Int):=by rw[qL (by omega),dM]
 have e2:wrap .i64 (Int.tdiv ((b-a:Nat):Int) 4)=(((b-a)/4:Nat):Int):=by rw[XX,dM]
 have e3: ∀k:Nat,k≤3→wrap .i64 ((a:Int)+wrap .i64 ((k:Int)*(((b-a)/4:Nat):Int)))=((a+k*((b-a)/4):Nat):Int):=by
  intro k hk;have uj:k*((b-a)/4)≤3*((b-a)/4):=eM _ hk;simp (disch:=omega) only[mulC,wrap64,jE]
 have XY:=e3 1 (by omega);have yo:=e3 2 (by omega);have XZ:=e3 3 (by omega);rw[show ((1:Nat):Int)=1 from rfl] at XY;rw[show ((2:Nat):Int)=2 from rfl] at yo;rw[show ((3:Nat):Int)=3 from rfl] at XZ;by_cases h50:b-a≥50
 ·obtain ⟨m1,s1,q1,r1⟩:=XW (d:=d) (a:=a+1*((b-a)/4)) (s:=0) (by omega) (by omega) hs;obtain ⟨m2,s2,q2,r2⟩:=XW (d:=d) (a:=a+2*((b-a)/4)) (s:=s1) (by omega) (by omega) hs;obtain ⟨m3,s3,q3,r3⟩:=XW (d:=d) (a:=a+3*((b-a)/4)) (s:=s2) (by omega) (by omega) hs;obtain ⟨m,s,q,r⟩:=XV (d:=d) (a:=m1) (b:=m2) (c:=m3) (s:=s3) (by omega) (by omega) (by omega);obtain ⟨h,hf⟩:=fin m s;refine ⟨m,h,au.XN ?_,by omega,by omega⟩;unfold Pu Jv Ju;rw[e1,e2,XY,yo,XZ,rO (by omega),cond_true,rO (by omega),cond_true,q1];simp only[Option.bind_some,V.ct,V.vP,V.toInt_int,mq,jZ];rw[q2];simp only[Option.bind_some,V.ct,V.vP,V.toInt_int,mq,jZ];rw[q3];simp only[Option.bind_some,V.ct,V.vP,V.toInt_int,mq,jZ,un];rw[q];exact hf
 ·obtain ⟨m,s,q,r⟩:=XV (d:=d) (a:=a+1*((b-a)/4)) (b:=a+2*((b-a)/4)) (c:=a+3*((b-a)/4)) (s:=0) (by omega) (by omega) (by omega);obtain ⟨h,hf⟩:=fin m s;refine ⟨m,h,au.XN ?_,by omega,by omega⟩;unfold Pu Jv Ju;rw[e1,e2,XY,yo,XZ,rO (by omega),cond_true,wE (by omega),cond_false];simp only[un];rw[q];exact hf
theorem auK {a b M:Nat} (hM1:1≤M) (hM:M≤2*(b-a)) (h8:8≤b-a) (hB:b<1152921504606846976): ∀(n i:Nat) (d:Array α) (r:Int),a+2*((b-a)/4)+2-i=n→a≤i→b≤d.size→d.size<1152921504606846976→
  ∃x y z R,Loop (Ps (au.E α) CC a (b-a:Nat) M) ((i:Int),eA d,r)=some (x,y,eA R,z)∧PermIn a b d R:=by
 have e2:wrap .i64 (Int.tdiv ((b-a:Nat):Int) 4)=(((b-a)/4:Nat):Int):=by rw[XX,dM]
 have yo:wrap .i64 ((a:Int)+wrap .i64 (2*(((b-a)/4:Nat):Int)))=((a+2*((b-a)/4):Nat):Int):=by
  have:=mulC 2 ((b-a)/4);rw[show ((2:Nat):Int)=2 from rfl] at this;rw[this];simp (disch:=omega) only[wrap64,jE]
 intro n
 induction n with
 | zero=>
  intro i d r hn hi hb hs;refine ⟨(i:Int),false,r,d,di ?_,permIn_refl _ _ _⟩;simp only[Ps,Jt,un];rw[e2,yo,fC,dM,wE (by omega),cond_false]
 | succ n ih=>
  intro i d r hn hi hb hs;obtain ⟨R1,q1,q2⟩:=auI r;obtain ⟨o,ho,rl⟩: ∃o:Nat,(o=if R1&&&(M-1)≥b-a then (R1&&&(M-1))-(b-a) else R1&&&(M-1))∧o<b-a:=by
   refine ⟨_,rfl,?_⟩;have:R1&&&(M-1)≤M-1:=Nat.and_le_right;split<;>omega
  have hand:R1&&&(M-1)≤M-1:=Nat.and_le_right;have hP:=swp_permIn (α:=α) d a b i (a+o) hi (by omega) (by omega) (by omega) hb;obtain ⟨x,y,z,R,e,hR⟩:=ih (i+1) (swp d i (a+o)) (R1:Int) (by omega) (by omega) (by rw[size_swp];exact hb) (by rw[size_swp];exact hs);refine ⟨x,y,z,R,(ga ?_).trans e,permIn_trans _ _ _ a b hP hR⟩;simp only[Ps,Jt,un];rw[e2,yo,fC,wrap64 (x:=((a+2*((b-a)/4)+1:Nat):Int)) (by omega) (by omega),rO (by omega),cond_true,q1];simp only[Option.bind_some,V.ct,V.vP,V.toInt_int,mq,jZ];have e5:wrap .u64 ((M:Int)-1)=((M-1:Nat):Int):=by rw[nA hM1,s6 (by omega)]
  rw[e5,u64_and q2 (by omega),wrap64 (x:=((R1&&&(M-1):Nat):Int)) (by omega) (by omega)];have fin: ∀k:Int,k=(o:Int)→(bif (decide (0≤(wrap .i64 ((a:Int)+k))))&&(decide ((wrap .i64 ((a:Int)+k))<((eA d).length:Int))) then
   ((eA d)[(wrap .i64 ((a:Int)+k):Int).toNat]?).bind fun x4=>
   bif (decide (0≤(i:Int)))&&(decide ((i:Int)<((eA d).length:Int))) then
    ((eA d)[((i:Int):Int).toNat]?).bind fun x5=>
    bif (decide (0≤(i:Int)))&&(decide ((i:Int)<((eA d).length:Int))) then
    ((eA d)[((i:Int):Int).toNat]?).bind fun x6=>
    bif (decide (0≤(wrap .i64 ((a:Int)+k))))&&(decide ((wrap .i64 ((a:Int)+k))<(((eA d).set (((i:Int):Int).toNat) (.agg ((au.E α).ex x4))).length:Int))) then
     (((eA d).set (((i:Int):Int).toNat) (.agg ((au.E α).ex x4)))[(wrap .i64 ((a:Int)+k):Int).toNat]?).bind fun x7=>
     some (.inl (wrap .i64 ((i:Int)+1),((eA d).set (((i:Int):Int).toNat) (.agg ((au.E α).ex x4))).set ((wrap .i64 ((a:Int)+k):Int).toNat) (.agg ((au.E α).ex x5)),(R1:Int)))
    else none
    else none
   else none
   else none:Option ((Int×List V×Int) ⊕ (Int×Bool×List V×Int)))=some (.inl (((i+1:Nat):Int),eA (swp d i (a+o)),(R1:Int))):=by
   intro k hk;subst hk;simp (disch:=omega) only[aM,e7,jO,ah,ag,wrap64,fC,jE,Int.toNat_natCast,Option.bind_some,jW,jX,au.re,jD,lD,ku,au.cs,V.ct,V.toInt_int,cond_true,cond_false];rfl
  unfold Pr;by_cases h:R1&&&(M-1)≥b-a
  ·rw[ah h] at ho;rw[rO (by omega),cond_true];exact fin _ (by rw[qL (by omega),dM];omega)
  ·rw[ag h] at ho;rw[wE (by omega),cond_false];exact fin _ (by omega)
theorem auL {a b:Nat} {d:Array α} (jr:a+12<b) (hb:b≤d.size) (hs:d.size<1152921504606846976): ∃R,CC ((au.E α).k 7) [.int .i64 (a:Int),.int .i64 (b:Int),.list (au.E α).T (eA d)]=some [.list (au.E α).T (eA R)]∧PermIn a b d R:=by
 obtain ⟨M,q1,q2,q3⟩:=auH (x:=b-a) (by omega) (by omega);have e1:wrap .i64 ((b:Int)-(a:Int))=((b-a:Nat):Int):=by rw[qL (by omega),dM]
 have e2:wrap .i64 (Int.tdiv ((b-a:Nat):Int) 4)=(((b-a)/4:Nat):Int):=by rw[XX,dM]
 have yo:wrap .i64 ((a:Int)+wrap .i64 (2*(((b-a)/4:Nat):Int)))=((a+2*((b-a)/4):Nat):Int):=by
  have:=mulC 2 ((b-a)/4);rw[show ((2:Nat):Int)=2 from rfl] at this;rw[this];simp (disch:=omega) only[wrap64,jE]
 obtain ⟨x,y,z,R,e,hR⟩:=auK (a:=a) (b:=b) (M:=M) q2 q3 (by omega) (by omega) _ (a+2*((b-a)/4)-1) d (wrap .u64 ((b-a:Nat):Int)) rfl (by omega) hb hs;refine ⟨R,au.ahr ?_,hR⟩;unfold XF;rw[e1,aM,bp,q1];simp only[Option.bind_some,V.ct,V.toInt_int];rw[e2,yo,nA (by omega),wrap64 (x:=((a+2*((b-a)/4)-1:Nat):Int)) (by omega) (by omega),e];rfl
def yp (E:SE) (C:ae) (a b':Int) (ic iG:Bool) (dW iH:Int) (tk:List V) {β:Type} (kn:(Int×Int×Int×Bool×Bool×(List V))→Option β):Option β:=
      bif decide ((a:Int)>0) then
       aq tk (wrap .i64 (a-1)) fun qK=>
       aq tk iH fun ko=>
        (C E.cmp (E.ex qK++E.ex ko)).bind fun fy=>
        bif !(decide ((((V.nth fy 0).toInt):Int)<0)) then
        (C (E.k 5) [.int .i64 a,.int .i64 b',.int .i64 iH,.list E.T tk]).bind fun nv=>
        kn ((V.nth nv 0).toInt,b',dW,ic,iG,(V.nth (nv.drop 1) 0).toList)
        else
        (C (E.k 4) [.int .i64 a,.int .i64 b',.int .i64 iH,.list E.T tk]).bind fun hZ=>
        bif decide (((wrap .i64 (((V.nth hZ 0).toInt)-a)):Int)<(wrap .i64 (b'-((V.nth hZ 0).toInt)))) then
         (C (E.k 12) [.int .i64 a,.int .i64 ((V.nth hZ 0).toInt),.int .i64 dW,.list E.T ((V.nth (hZ.drop 2) 0).toList)]).bind fun DN=>
         kn (wrap .i64 (((V.nth hZ 0).toInt)+1),b',dW,decide (((wrap .i64 (((V.nth hZ 0).toInt)-a)):Int)≥(wrap .i64 (Int.tdiv (wrap .i64 (b'-a)) 8))),(V.nth (hZ.drop 1) 0).toBool,(V.nth DN 0).toList)
        else
         (C (E.k 12) [.int .i64 (wrap .i64 (((V.nth hZ 0).toInt)+1)),.int .i64 b',.int .i64 dW,.list E.T ((V.nth (hZ.drop 2) 0).toList)]).bind fun gM=>
         kn (a,(V.nth hZ 0).toInt,dW,decide (((wrap .i64 (b'-((V.nth hZ 0).toInt))):Int)≥(wrap .i64 (Int.tdiv (wrap .i64 (b'-a)) 8))),(V.nth (hZ.drop 1) 0).toBool,(V.nth gM 0).toList)
      else
       (C (E.k 4) [.int .i64 a,.int .i64 b',.int .i64 iH,.list E.T tk]).bind fun qa=>
       bif decide (((wrap .i64 (((V.nth qa 0).toInt)-a)):Int)<(wrap .i64 (b'-((V.nth qa 0).toInt)))) then
       (C (E.k 12) [.int .i64 a,.int .i64 ((V.nth qa 0).toInt),.int .i64 dW,.list E.T ((V.nth (qa.drop 2) 0).toList)]).bind fun wH=>
       kn (wrap .i64 (((V.nth qa 0).toInt)+1),b',dW,decide (((wrap .i64 (((V.nth qa 0).toInt)-a)):Int)≥(wrap .i64 (Int.tdiv (wrap .i64 (b'-a)) 8))),(V.nth (qa.drop 1) 0).toBool,(V.nth wH 0).toList)
       else
       (C (E.k 12) [.int .i64 (wrap .i64 (((V.nth qa 0).toInt)+1)),.int .i64 b',.int .i64 dW,.list E.T ((V.nth (qa.drop 2) 0).toList)]).bind fun ox=>
       kn (a,(V.nth qa 0).toInt,dW,decide (((wrap .i64 (b'-((V.nth qa 0).toInt))):Int)≥(wrap .i64 (Int.tdiv (wrap .i64 (b'-a)) 8))),(V.nth (qa.drop 1) 0).toBool,(V.nth ox 0).toList)
theorem PB (E:SE) (C:ae) (a b' kN:Int) (ic iG:Bool) (ak:List V) {β:Type} (kn:(Int×Int×Int×Bool×Bool×(List V))→Option β) (kr:(List V)→Option β):
  uU E C a b' kN ic iG ak kn kr=
 bif decide (((wrap .i64 (b'-a)):Int)≤12) then
  (C (E.k 0) [.int .i64 a,.int .i64 b',.list E.T ak]).bind fun r1=>
  kr ((V.nth r1 0).toList)
 else
  bif (kN:Int)==0 then
  (C (E.k 2) [.int .i64 a,.int .i64 b',.list E.T ak]).bind fun r2=>
  kr ((V.nth r2 0).toList)
  else
  DL E C a b' kN ic iG (wrap .i64 (b'-a)) (!ic) ak (un fun (dW:Int) (Jw:List V)=>
   (C (E.k 11) [.list E.T Jw,.int .i64 a,.int .i64 b']).bind fun r6=>
   DM E C a b' dW ic iG (wrap .i64 (b'-a)) ((V.nth r6 0).toInt) ((V.nth (r6.drop 1) 0).toInt) ((((V.nth (r6.drop 1) 0).toInt):Int)==2) Jw (un fun (iH:Int)=>un fun (XJ:Int) (ti:List V)=>
    bif ic then
     bif iG then
     qO E C a b' dW ic iG (wrap .i64 (b'-a)) iH ((XJ:Int)==1) ti (bN (un fun (Hk:Bool) (X0:List V)=>
      kr X0) (fun (tk:List V)=>yp E C a b' ic iG dW iH tk kn))
     else
     qO E C a b' dW ic iG (wrap .i64 (b'-a)) iH false ti (bN (un fun (aqs:Bool) (auM:List V)=>
      kr auM) (fun (auN:List V)=>yp E C a b' ic iG dW iH auN kn))
    else
     qO E C a b' dW ic iG (wrap .i64 (b'-a)) iH false ti (bN (un fun (auO:Bool) (auP:List V)=>
      kr auP) (fun (auQ:List V)=>yp E C a b' ic iG dW iH auQ kn)))):=rfl
section
variable {a b:Nat} {lim:Int} {wb wp:Bool}
theorem auR {d:Array α} (jr:a+12<b) (hb:b≤d.size) (hs:d.size<1152921504606846976) (len:Int) (t:Bool): ∃(l1:Int) (d1:Array α),PermIn a b d d1∧∀(β:Type) (kr:(Int×List V)→Option β),DL (au.E α) CC a b lim wb wp len t (eA d) kr=kr (l1,eA d1):=by
 cases t with
 | true=>
  obtain ⟨R,e,hR⟩:=auL jr hb hs;refine ⟨wrap .i64 (lim-1),R,hR,fun β kr=> ?_⟩;unfold DL;rw[cond_true,e];rfl
 | false=>exact ⟨lim,d,permIn_refl _ _ _,fun β kr=>rfl⟩
theorem auS {d:Array α} (jr:a+12<b) (hb:b≤d.size) (hs:d.size<1152921504606846976) (len h:Int) (t:Bool) {p:Nat} (h1:a≤p) (h2:p<b): ∃(p2:Nat) (h2:Int) (d1:Array α),a≤p2∧p2<b∧PermIn a b d d1∧∀(β:Type) (kr:(Int×Int×List V)→Option β),DM (au.E α) CC a b lim wb wp len p h t (eA d) kr=kr ((p2:Int),h2,eA d1):=by
 cases t with
 | true=>
  refine ⟨b-1-(p-a),1,reverseRange d a b,by omega,by omega,reverseRange_holds d a b (by omega) hb,fun β kr=> ?_⟩;unfold DM;rw[cond_true,aum (by omega) hb hs];simp (disch:=omega) only[Option.bind_some,V.ct,V.ki,nA,qL,wrap64]
 | false=>exact ⟨p,h,d,h1,h2,permIn_refl _ _ _,fun β kr=>rfl⟩
theorem auT {d:Array α} (jr:a+12<b) (hb:b≤d.size) (hs:d.size<1152921504606846976) (hB:Below aE a b d) (len p:Int) (t:Bool): ∃d1:Array α,PermIn a b d d1∧
  ((∀(β:Type) (kr:((Bool×List V) ⊕ List V)→Option β),qO (au.E α) CC a b lim wb wp len p t (eA d) kr=kr (.inr (eA d1)))∨
  (SortedIn aE a b d1∧∀(β:Type) (kr:((Bool×List V) ⊕ List V)→Option β),qO (au.E α) CC a b lim wb wp len p t (eA d) kr=kr (.inl (true,eA d1)))):=by
 cases t with
 | true=>
  have hp:=partialInsertionSort_holds (lt:=aE) DP d a b (by omega) hb hB;refine ⟨_,hp.1,?_⟩;cases h:(partialInsertionSort aE d a b).2 with
  | true=>
   refine .inr ⟨hp.2 h,fun β kr=> ?_⟩;unfold qO;rw[cond_true,ahH (by omega) hb hs,h];rfl
  | false=>
   refine .inl fun β kr=> ?_;unfold qO;rw[cond_true,ahH (by omega) hb hs,h];rfl
 | false=>exact ⟨d,permIn_refl _ _ _,.inl fun β kr=>rfl⟩
end
def PC (a b:Nat) (d:Array α):Prop:= ∀(lim:Int) (wb wp:Bool),∃R,Loop (ahj (au.E α) CC) ((a:Int),(b:Int),lim,wb,wp,eA d)=some (eA R)∧PermIn a b d R∧SortedIn aE a b R
theorem PC.call {a b:Nat} {d:Array α} (h:PC a b d) (lim:Int): ∃R,CC ((au.E α).k 12) [.int .i64 (a:Int),.int .i64 (b:Int),.int .i64 lim,.list (au.E α).T (eA d)]=some [.list (au.E α).T (eA R)]∧PermIn a b d R∧SortedIn aE a b R:=by
 obtain ⟨R,e,h1,h2⟩:=h lim true true;refine ⟨R,au.ahu ?_,h1,h2⟩;unfold XK;rw[e];rfl
theorem auU {a b p:Nat} {d:Array α} (jr:a+12<b) (hb:b≤d.size) (hs:d.size<1152921504606846976) (hB:Below aE a b d) (h1:a≤p) (h2:p<b)
  (ih: ∀(a2 b2:Nat) (d2:Array α),b2-a2<b-a→a2≤b2→b2≤d2.size→d2.size<1152921504606846976→Below aE a2 b2 d2→PC a2 b2 d2) (wb wp:Bool) (lim:Int):
  ∃(a2 b2:Nat) (A0 A1:Bool) (d2:Array α),b2-a2<b-a∧a2≤b2∧b2≤d2.size∧d2.size<1152921504606846976∧Below aE a2 b2 d2∧
   (∀R,PermIn a2 b2 d2 R→SortedIn aE a2 b2 R→PermIn a b d R∧SortedIn aE a b R)∧
   ∀(β:Type) (kn:(Int×Int×Int×Bool×Bool×(List V))→Option β),yp (au.E α) CC a b wb wp lim p (eA d) kn=kn ((a2:Int),(b2:Int),lim,A0,A1,eA d2):=by
 have part: ∃(a2 b2:Nat) (A0 A1:Bool) (d2:Array α),b2-a2<b-a∧a2≤b2∧b2≤d2.size∧d2.size<1152921504606846976∧Below aE a2 b2 d2∧
   (∀R,PermIn a2 b2 d2 R→SortedIn aE a2 b2 R→PermIn a b d R∧SortedIn aE a b R)∧
   ∀(β:Type) (kn:(Int×Int×Int×Bool×Bool×(List V))→Option β),
    ((CC ((au.E α).k 4) [.int .i64 (a:Int),.int .i64 (b:Int),.int .i64 (p:Int),.list (au.E α).T (eA d)]).bind fun hZ=>
        bif decide (((wrap .i64 (((V.nth hZ 0).toInt)-(a:Int))):Int)<(wrap .i64 ((b:Int)-((V.nth hZ 0).toInt)))) then
         (CC ((au.E α).k 12) [.int .i64 (a:Int),.int .i64 ((V.nth hZ 0).toInt),.int .i64 lim,.list (au.E α).T ((V.nth (hZ.drop 2) 0).toList)]).bind fun DN=>
         kn (wrap .i64 (((V.nth hZ 0).toInt)+1),(b:Int),lim,decide (((wrap .i64 (((V.nth hZ 0).toInt)-(a:Int))):Int)≥(wrap .i64 (Int.tdiv (wrap .i64 ((b:Int)-(a:Int))) 8))),(V.nth (hZ.drop 1) 0).toBool,(V.nth DN 0).toList)
        else
         (CC ((au.E α).k 12) [.int .i64 (wrap .i64 (((V.nth hZ 0).toInt)+1)),.int .i64 (b:Int),.int .i64 lim,.list (au.E α).T ((V.nth (hZ.drop 2) 0).toList)]).bind fun gM=>
         kn ((a:Int),(V.nth hZ 0).toInt,lim,decide (((wrap .i64 ((b:Int)-((V.nth hZ 0).toInt))):Int)≥(wrap .i64 (Int.tdiv (wrap .i64 ((b:Int)-(a:Int))) 8))),(V.nth (hZ.drop 1) 0).toBool,(V.nth gM 0).toList))=kn ((a2:Int),(b2:Int),lim,A0,A1,eA d2):=by
  obtain ⟨mid,ap,d4,hx⟩: ∃mid ap d4,partition aE d a b p=(mid,ap,d4):=⟨_,_,_,rfl⟩
  obtain ⟨g1,g2,tp,hBa,hBr,auV,auW⟩:=round_part DP (partition_holds aE) h1 h2 hb hB hx;have hc:=aur (a:=a) (b:=b) (pivot:=p) (d:=d) h2 (by omega) hb hs;rw[hx] at hc;by_cases hl:mid-a<b-mid
  ·obtain ⟨L,e,l1,l2⟩:=(ih a mid d4 (by omega) g1 (by rw[tp];omega) (by rw[tp];exact hs) hBa).call lim;obtain ⟨X1,rL⟩:=auV _ l1 l2;refine ⟨mid+1,b,decide (((wrap .i64 ((mid:Int)-(a:Int))):Int)≥(wrap .i64 (Int.tdiv (wrap .i64 ((b:Int)-(a:Int))) 8))),ap,L,by omega,by omega,by rw[l1.1,tp];exact hb,by rw[l1.1,tp];exact hs,X1,rL,fun β kn=> ?_⟩
   ·rw[hc];simp only[Option.bind_some,V.ct,V.vP,V.toInt_int,V.mE,V.ki,mq,jZ];rw[aM,ah (by rw[qL g1,qL (by omega),wrap64 (by omega) (by omega),wrap64 (by omega) (by omega)];omega),e];simp only[Option.bind_some,V.ct,V.ki];rw[fC,wrap64 (x:=((mid+1:Nat):Int)) (by omega) (by omega)]
  ·obtain ⟨L,e,l1,l2⟩:=(ih (mid+1) b d4 (by omega) (by omega) (by rw[tp];exact hb) (by rw[tp];exact hs) hBr).call lim;obtain ⟨X1,rL⟩:=auW _ l1 l2;refine ⟨a,mid,decide (((wrap .i64 ((b:Int)-(mid:Int))):Int)≥(wrap .i64 (Int.tdiv (wrap .i64 ((b:Int)-(a:Int))) 8))),ap,L,by omega,by omega,by rw[l1.1,tp];omega,by rw[l1.1,tp];exact hs,X1,rL,fun β kn=> ?_⟩
   ·rw[hc];simp only[Option.bind_some,V.ct,V.vP,V.toInt_int,V.mE,V.ki,mq,jZ];rw[aM,ag (by rw[qL g1,qL (by omega),wrap64 (by omega) (by omega),wrap64 (by omega) (by omega)];omega),fC,wrap64 (x:=((mid+1:Nat):Int)) (by omega) (by omega),e];simp only[Option.bind_some,V.ct,V.ki]
 by_cases ha:0<a
 ·by_cases hc:au.cmp d[a-1]! d[p]! <0
  ·obtain ⟨a2,b2,A0,A1,d2,q1,q2,q3,q4,q5,q6,q7⟩:=part;refine ⟨a2,b2,A0,A1,d2,q1,q2,q3,q4,q5,q6,fun β kn=> ?_⟩;rw[←q7 β kn];unfold yp;rw[aM,bp,nA ha,dM,oy (i:=a-1),oy (i:=p)];simp only[au.re,au.cs,Option.bind_some,V.ct,V.toInt_int];rw[jO,aM,ah hc]
  ·obtain ⟨mid,d4,hx⟩: ∃mid d4,partitionEqual aE d a b p=(mid,d4):=⟨_,_,rfl⟩
   obtain ⟨g1,lf,tp,hB4,rL⟩:=round_eq DP (partitionEqual_holds aE) ha h1 h2 hb hB (by rw[ahN];exact hc) hx;have he:=aut (a:=a) (b:=b) (pivot:=p) (d:=d) h2 (by omega) hb hs;rw[hx] at he;refine ⟨mid,b,wb,wp,d4,by omega,lf,by rw[tp];exact hb,by rw[tp];exact hs,hB4,rL,fun β kn=> ?_⟩;unfold yp;rw[aM,bp,nA ha,dM,oy (i:=a-1),oy (i:=p)];simp only[au.re,au.cs,Option.bind_some,V.ct,V.toInt_int];rw[jO,aM,ag hc,he];rfl
 ·obtain ⟨a2,b2,A0,A1,d2,q1,q2,q3,q4,q5,q6,q7⟩:=part;refine ⟨a2,b2,A0,A1,d2,q1,q2,q3,q4,q5,q6,fun β kn=> ?_⟩;rw[←q7 β kn];unfold yp;rw[aM,cf]
theorem auX: ∀(n a b:Nat) (d:Array α),b-a≤n→a≤b→b≤d.size→d.size<1152921504606846976→Below aE a b d→PC a b d:=by
 intro n
 induction n with
 | zero=>
  intro a b d hn jr hb hs hB lim wb wp;have hi:=insertionSort_holds (lt:=aE) DP d a b jr hb;refine ⟨_,di ?_,hi⟩;show uU (au.E α) CC a b lim wb wp (eA d) (fun y=>some (Sum.inl y)) (fun r=>some (Sum.inr r))=_;rw[PB,aM,ah (by rw[qL jr,wrap64 (by omega) (by omega)];omega),ahx hb hs (by omega)];rfl
 | succ n ih=>
  intro a b d hn jr hb hs hB lim wb wp;by_cases h12:b-a≤12
  ·have hi:=insertionSort_holds (lt:=aE) DP d a b jr hb;refine ⟨_,di ?_,hi⟩;show uU (au.E α) CC a b lim wb wp (eA d) (fun y=>some (Sum.inl y)) (fun r=>some (Sum.inr r))=_;rw[PB,aM,ah (by rw[qL jr,wrap64 (by omega) (by omega)];omega),ahx hb hs (by omega)];rfl
  ·have Jy:a+12<b:=by omega
   have zC: ¬(((wrap .i64 ((b:Int)-(a:Int))):Int)≤12):=by rw[qL jr,dM];omega
   by_cases h0:lim=0
   ·have hi:=heapSort_holds (lt:=aE) DP d a b jr hb;refine ⟨_,di ?_,hi⟩;show uU (au.E α) CC a b lim wb wp (eA d) (fun y=>some (Sum.inl y)) (fun r=>some (Sum.inr r))=_;rw[PB,aM,ag zC,ry,ah h0,auk (by omega) hb hs];rfl
   ·obtain ⟨l1,d1,s1,k1⟩:=auR (lim:=lim) (wb:=wb) (wp:=wp) Jy hb hs (wrap .i64 ((b:Int)-(a:Int))) (!wb);have b1:b≤d1.size:=by rw[s1.1];exact hb
    have z1:d1.size<1152921504606846976:=by rw[s1.1];exact hs
    obtain ⟨p,h,c1,p1,p2⟩:=auJ Jy b1 z1;obtain ⟨q,h2,d2,q1,q2,s2,k2⟩:=auS (lim:=l1) (wb:=wb) (wp:=wp) Jy b1 z1 (wrap .i64 ((b:Int)-(a:Int))) h (h==2) p1 p2;have b2:b≤d2.size:=by rw[s2.1];exact b1
    have z2:d2.size<1152921504606846976:=by rw[s2.1];exact z1
    have B2:Below aE a b d2:=(hB.perm hb s1).perm b1 s2;obtain ⟨t,ht⟩: ∃t:Bool,t=(bif wb then (bif wp then (h2==1) else false) else false):=⟨_,rfl⟩
    obtain ⟨d3,s3,k3⟩:=auT (lim:=l1) (wb:=wb) (wp:=wp) Jy b2 z2 B2 (wrap .i64 ((b:Int)-(a:Int))) (q:Int) t;have b3:b≤d3.size:=by rw[s3.1];exact b2
    have z3:d3.size<1152921504606846976:=by rw[s3.1];exact z2
    have B3:Below aE a b d3:=B2.perm b2 s3;have P3:PermIn a b d d3:=permIn_trans _ _ _ a b (permIn_trans _ _ _ a b s1 s2) s3;have step: ∀(β:Type) (kn:(Int×Int×Int×Bool×Bool×(List V))→Option β) (kr:(List V)→Option β),uU (au.E α) CC a b lim wb wp (eA d) kn kr=
      qO (au.E α) CC a b l1 wb wp (wrap .i64 ((b:Int)-(a:Int))) (q:Int) t (eA d2) (bN (un fun (Hk:Bool) (X0:List V)=>kr X0) (fun (tk:List V)=>yp (au.E α) CC a b wb wp l1 q tk kn)):=by
     intro β kn kr;rw[PB,aM,ag zC,ry,ag h0,k1];simp only[un];rw[c1];simp only[Option.bind_some,V.ct,V.vP,V.toInt_int,mq,jZ];rw[k2];simp only[un];rw[ht];cases wb
     ·rfl
     ·cases wp
      ·rfl
      ·rfl
    rcases k3 with k3|⟨k3s,k3⟩
    ·obtain ⟨a4,b4,wb4,wp4,d4,r1,r2,r3,r4,r5,r6,r7⟩:=auU Jy b3 z3 B3 q1 q2 (fun a2 b2 d2 bf h1 h2 h3 h4=>ih a2 b2 d2 (by omega) h1 h2 h3 h4) wb wp l1;obtain ⟨R,e,e1,e2⟩:=ih a4 b4 d4 (by omega) r2 r3 r4 r5 l1 wb4 wp4;obtain ⟨f1,f2⟩:=r6 R e1 e2;refine ⟨R,(ga ?_).trans e,permIn_trans _ _ _ a b P3 f1,f2⟩;show uU (au.E α) CC a b lim wb wp (eA d) (fun y=>some (Sum.inl y)) (fun r=>some (Sum.inr r))=_;rw[step,k3];exact r7 _ (fun y=>some (Sum.inl y))
    ·refine ⟨d3,di ?_,P3,k3s⟩;show uU (au.E α) CC a b lim wb wp (eA d) (fun y=>some (Sum.inl y)) (fun r=>some (Sum.inr r))=_;rw[step,k3];rfl
theorem auY (l:List α) (hs:l.length<1152921504606846976): ∃R:List α,CC ((au.E α).k 13) [.list (au.E α).T (l.map au.enc)]=some [.list (au.E α).T (R.map au.enc)]∧R.Perm l∧R.Pairwise (fun x y=> ¬au.cmp y x<0):=by
 obtain ⟨L,e1,_⟩:=ahP (x:=l.length) (by omega);obtain ⟨R,e2,h1,h2⟩:=(auX _ 0 l.toArray.size l.toArray (az _) (nK _) (az _) (by simpa using hs) (.inl rfl)).call (L:Int);have br:R.size=l.length:=by rw[h1.1];simp
 refine ⟨R.toList,au.ahv ?_,?_,?_⟩
 ·unfold XL;rw[cH,s6 (A:=l.length) (by omega),e1];simp only[Option.bind_some,V.ct,V.toInt_int];have e3:eA l.toArray=l.map au.enc:=by simp[uS]
  rw[e3,show ((l.toArray.size:Nat):Int)=(l.length:Int) by simp,show ((0:Nat):Int)=0 from rfl] at e2;rw[e2];rfl
 ·have h3:=h1.2.2;rw[show l.toArray.size=R.size from h1.1.symm,Array.extract_size,h1.1,Array.extract_size] at h3;exact h3
 ·rw[Bn];intro i j hi hj Rw;have h3:=h2 i j (nK _) Rw (by simpa[←br] using hj);rw[ahN] at h3;have eU:i<R.size:=by simpa using hi
  have jM:j<R.size:=by simpa using hj
  rw[getElem!_pos R i eU,getElem!_pos R j jM] at h3;simpa using h3
end Go.AM
set_option maxRecDepth 100000
namespace Go.AM
open Go.IntKind (wrap)
open Go.Proofs
def ahQ (C:ae) (wy wz wA wB wC wD:Int):Option LV:=
 (C v5 [V.int .i64 wy,V.int .i64 wB]).bind fun r1=>
 (C v5 [V.int .i64 wz,V.int .i64 wC]).bind fun r2=>
 (C v5 [V.int .i64 wA,V.int .i64 wD]).bind fun r3=>
 (C Gu [.list aF ([V.int .i64 ((V.nth r1 0).toInt),V.int .i64 ((V.nth r2 0).toInt),V.int .i64 ((V.nth r3 0).toInt)]:LV)]).bind fun r4=>
 some [V.int .i64 ((V.nth r4 0).toInt)]
theorem auZ {wy wz wA wB wC wD:Int} {r:Option LV} (h:ahQ CC wy wz wA wB wC wD=r):CC cR [V.int .i64 wy,V.int .i64 wz,V.int .i64 wA,V.int .i64 wB,V.int .i64 wC,V.int .i64 wD]=r:=bj (L:=bm) an h
theorem au0 (a b:Ed):CC cR [.int .i64 a.f,.int .i64 a.l,.int .i64 a.t,.int .i64 b.f,.int .i64 b.l,.int .i64 b.t]=some [.int .i64 (rN a b)]:=by
 refine auZ ?_;unfold ahQ;refine bs (Dl _ _) ?_;refine bs (Dl _ _) ?_;refine bs (Dl _ _) ?_;refine bs (agE _ _ _) ?_;rfl
def cI:SE:=⟨bu,cR,fun x1=>[V.int .i64 ((x1.cell 0).toInt),V.int .i64 ((x1.cell 1).toInt),V.int .i64 ((x1.cell 2).toInt)],fun k=>[SG,SQ,SH,SK,SO,SN,SM,SI,SS,SR,SU,SJ,SF,Gt].getD k 0⟩
def ahR (C:ae):cE:=bG 65 U7 [EQ,EQ,EQ,H1,H1] [[1,2,3,0,0,0]] (@Dv cI C) (bG 17 U8 [EQ,EQ,H1,H1] [[1,2,0,0,0]] (@I8 cI C) bm)
theorem au1 (C:ae):aW C (ahR C) 106 (Lp [1,0,0,1,0,0,1,0,0] 106):=bE U7 [EQ,EQ,EQ,H1,H1] [[1,2,3,0,0,0]] (@Dv cI C) (aG an)
theorem au2 (C:ae):aW C (ahR C) 106 (Lp [1,0,0] 106):=bE U8 [EQ,EQ,H1,H1] [[1,2,0,0,0]] (@I8 cI C) (aG (aU (au1 C) an))
theorem au3 {a b':Int} {ak:LV} {r:Option LV} (h:Xv cI CC a b' ak=r):CC SG [V.int .i64 a,V.int .i64 b',.list bu ak]=r:=bj (aU (au2 CC) an) h
def ahS (C:ae):cE:=gH 655 VA [[1,2,3,0,6]] (@AS cI C) (bG 17 VB [EQ,EQ,H1,H1] [[1,2,0,0,0,0],[1,2,0,0,0,0]] (@yi cI C) bm)
theorem au4 (C:ae):aW C (ahS C) 125 (Cd 40 [1,0,0,0,1,1,0,1,0] [1,0,0,0,1,1,0,1,1] 125):=gG VA [[1,2,3,0,6]] (@AS cI C) (aG an) (aG an)
theorem au5 (C:ae):aW C (ahS C) 125 (Lp [1,0,0] 125):=bE VB [EQ,EQ,H1,H1] [[1,2,0,0,0,0],[1,2,0,0,0,0]] (@yi cI C) (aG (aU (au4 C) an))
theorem au6 {lo hi first:Int} {ak:LV} {r:Option LV} (h:Xx cI CC lo hi first ak=r):CC SQ [V.int .i64 lo,V.int .i64 hi,V.int .i64 first,.list bu ak]=r:=bj (aU (au5 CC) an) h
def ahT (C:ae):cE:=bG 65 U9 [EQ,EQ,EQ,H1,H1] [[1,2,3,0,0,0]] (@I9 cI C) (bG 129 Va [EQ,EQ,H1,H1] [[1,2,0,0,0]] (@Ja cI C) bm)
theorem au7 (C:ae):aW C (ahT C) 107 (Lp [1,1,1,0,1,0,0] 107):=bE U9 [EQ,EQ,EQ,H1,H1] [[1,2,3,0,0,0]] (@I9 cI C) (aG an)
theorem au8 (C:ae):aW C (ahT C) 107 (Lp [1,1,1,1,1,0,0] 107):=bE Va [EQ,EQ,H1,H1] [[1,2,0,0,0]] (@Ja cI C) (aG an)
theorem au9 {a b':Int} {ak:LV} {r:Option LV} (h:Xy cI CC a b' ak=r):CC SH [V.int .i64 a,V.int .i64 b',.list bu ak]=r:=bj (aU (au7 CC) (aU (au8 CC) an)) h
def ava (C:ae):cE:=bG 33 Vf [H1,H1,H1] [[0,0,0,0]] (@Dz cI C) bm
theorem avb (C:ae):aW C (ava C) 110 (Lp [1,1,0,0] 110):=bE Vf [H1,H1,H1] [[0,0,0,0]] (@Dz cI C) (aG an)
theorem avc {a b':Int} {ak:LV} {r:Option LV} (h:Xz cI CC a b' ak=r):CC SK [V.int .i64 a,V.int .i64 b',.list bu ak]=r:=bj (aU (avb CC) an) h
def Jz (C:ae):cE:=bG 49 Vo [EQ,H1,EQ,EQ] [[1,0,3,0,4]] (@Jc cI C) (bG 81 Vp [EQ,EQ,H1,EQ] [[1,2,0,0,4]] (@DA cI C) (bG 209 Vq [EQ,H1,EQ,EQ] [[1,0,3,0,4]] (@Je cI C) (bG 241 Vr [EQ,EQ,H1,EQ] [[1,2,0,0,4]] (@DC cI C) (bG 210 Vs [EQ,H1,H1,H1] [[1,0,0,0,0]] (@Jg cI C) bm))))
theorem avd (C:ae):aW C (Jz C) 113 (Lp [1,1,1,0,0,0] 113):=bE Vo [EQ,H1,EQ,EQ] [[1,0,3,0,4]] (@Jc cI C) (aG an)
theorem ave (C:ae):aW C (Jz C) 113 (Lp [1,1,1,1,0,0,0] 113):=bE Vp [EQ,EQ,H1,EQ] [[1,2,0,0,4]] (@DA cI C) (aG an)
theorem avf (C:ae):aW C (Jz C) 113 (Lp [1,1,1,1,1,1,1,1,1,0,0,0,0,0,0,0] 113):=bE Vq [EQ,H1,EQ,EQ] [[1,0,3,0,4]] (@Je cI C) (aG an)
theorem avg (C:ae):aW C (Jz C) 113 (Lp [1,1,1,1,1,1,1,1,1,0,0,0,0,1,0,0,0] 113):=bE Vr [EQ,EQ,H1,EQ] [[1,2,0,0,4]] (@DC cI C) (aG an)
theorem avh (C:ae):aW C (Jz C) 113 (Lp [1,1,1,1,1,1,1,1,1,0,0,0] 113):=bE Vs [EQ,H1,H1,H1] [[1,0,0,0,0]] (@Jg cI C) (aG (aU (avf C) (aU (avg C) an)))
theorem avi {a b' pivot:Int} {ak:LV} {r:Option LV} (h:XA cI CC a b' pivot ak=r):CC SO [V.int .i64 a,V.int .i64 b',V.int .i64 pivot,.list bu ak]=r:=bj (aU (avd CC) (aU (ave CC) (aU (avh CC) an))) h
def X2 (C:ae):cE:=bG 49 Vl [EQ,H1,EQ,EQ] [[1,0,3,0,4]] (@Ji cI C) (bG 81 Vm [EQ,EQ,H1,EQ] [[1,2,0,0,4]] (@DH cI C) (bG 50 Vn [EQ,H1,H1,H1] [[1,0,0,0,0]] (@Jk cI C) bm))
theorem avj (C:ae):aW C (X2 C) 112 (Lp [1,1,1,0,0,0,0,0,0,0] 112):=bE Vl [EQ,H1,EQ,EQ] [[1,0,3,0,4]] (@Ji cI C) (aG an)
theorem avk (C:ae):aW C (X2 C) 112 (Lp [1,1,1,0,0,0,0,1,0,0,0] 112):=bE Vm [EQ,EQ,H1,EQ] [[1,2,0,0,4]] (@DH cI C) (aG an)
theorem avl (C:ae):aW C (X2 C) 112 (Lp [1,1,1,0,0,0] 112):=bE Vn [EQ,H1,H1,H1] [[1,0,0,0,0]] (@Jk cI C) (aG (aU (avj C) (aU (avk C) an)))
theorem avm {a b' pivot:Int} {ak:LV} {r:Option LV} (h:XC cI CC a b' pivot ak=r):CC SN [V.int .i64 a,V.int .i64 b',V.int .i64 pivot,.list bu ak]=r:=bj (aU (avl CC) an) h
def JA (C:ae):cE:=bG 81 Vg [EQ,EQ,H1,EQ,EQ] [[1,2,0,4,0,5]] (@Jl cI C) (bG 225 Vh [EQ,EQ,EQ,EQ,H1,H1] [[1,2,3,4,0,0]] (@Jn cI C) (gH 1055 Vi [[1,2,3,4,0]] (@Pq cI C) (bG 321 Vj [EQ,EQ,EQ,EQ,H1,H1] [[1,2,3,4,0,0]] (@Jp cI C) (bG 49 Vk [EQ,EQ,H1,H1,H1] [[0,0],[1,2,0,0,0,0]] (@Jr cI C) bm))))
theorem avn (C:ae):aW C (JA C) 111 (Lp [1,1,0,1,0,0,1,0,0,0,0,0] 111):=bE Vg [EQ,EQ,H1,EQ,EQ] [[1,2,0,4,0,5]] (@Jl cI C) (aG an)
theorem avo (C:ae):aW C (JA C) 111 (Lp [1,1,0,1,0,0,1,0,0,1,1,1,1,0,1,0,1,0,0] 111):=bE Vh [EQ,EQ,EQ,EQ,H1,H1] [[1,2,3,4,0,0]] (@Jn cI C) (aG an)
theorem avp (C:ae):aW C (JA C) 111 (Cd 65 [1,1,0,1,0,0,1,0,0,1,1,1,1,0,1,0] [1,1,0,1,0,0,1,0,0,1,1,1,1,0,1,1] 111):=gG Vi [[1,2,3,4,0]] (@Pq cI C) (aG (aU (avo C) an)) (aG an)
theorem avq (C:ae):aW C (JA C) 111 (Lp [1,1,0,1,0,0,1,0,0,1,1,1,1,1,1,0,1,0,0] 111):=bE Vj [EQ,EQ,EQ,EQ,H1,H1] [[1,2,3,4,0,0]] (@Jp cI C) (aG an)
theorem avr (C:ae):aW C (JA C) 111 (Lp [1,1,0,1,0,0] 111):=bE Vk [EQ,EQ,H1,H1,H1] [[0,0],[1,2,0,0,0,0]] (@Jr cI C) (aG (aU (avn C) (aU (avp C) (aU (avq C) an))))
theorem avs {a b':Int} {ak:LV} {r:Option LV} (h:XD cI CC a b' ak=r):CC SM [V.int .i64 a,V.int .i64 b',.list bu ak]=r:=bj (aU (avr CC) an) h
def ahU (C:ae):cE:=gH 735 Vb [[1,2,3,4,0,7,8]] (@Pr cI C) (bG 81 Vc [EQ,EQ,EQ,H1,H1,H1] [[1,2,3,0,0,0,0]] (@Jt cI C) bm)
theorem avt (C:ae):aW C (ahU C) 108 (Cd 45 [1,1,0,1,1,1,0,0,1,0,0,1,0,1,0] [1,1,0,1,1,1,0,0,1,0,0,1,0,1,1] 108):=gG Vb [[1,2,3,4,0,7,8]] (@Pr cI C) (aG an) (aG an)
theorem avu (C:ae):aW C (ahU C) 108 (Lp [1,1,0,1,1,1,0,0] 108):=bE Vc [EQ,EQ,EQ,H1,H1,H1] [[1,2,3,0,0,0,0]] (@Jt cI C) (aG (aU (avt C) an))
theorem avv {a b':Int} {ak:LV} {r:Option LV} (h:XF cI CC a b' ak=r):CC SI [V.int .i64 a,V.int .i64 b',.list bu ak]=r:=bj (aU (avu CC) an) h
theorem avw {data:LV} {a b' c gO:Int} {r:Option LV} (h:XG cI CC data a b' c gO=r):CC SS [.list bu data,V.int .i64 a,V.int .i64 b',V.int .i64 c,V.int .i64 gO]=r:=bj (L:=bm) an h
theorem avx {data:LV} {a gO:Int} {r:Option LV} (h:XH cI CC data a gO=r):CC SR [.list bu data,V.int .i64 a,V.int .i64 gO]=r:=bj (L:=bm) an h
theorem avy {data:LV} {a b' gO:Int} {r:Option LV} (h:Pt cI CC data a b' gO=r):CC SU [.list bu data,V.int .i64 a,V.int .i64 b',V.int .i64 gO]=r:=bj (L:=bm) an h
def ahV (C:ae):cE:=gH 591 Vd [[1,0,0,0,0]] (@Ju cI C) (gH 559 Ve [[0,0]] (@Jv cI C) bm)
theorem avz (C:ae):aW C (ahV C) 109 (Cd 36 [1,1,1,1,1,1,0,1,0,0,1,0] [1,1,1,1,1,1,0,1,0,0,1,1] 109):=gG Vd [[1,0,0,0,0]] (@Ju cI C) (aG an) (aG an)
theorem avA (C:ae):aW C (ahV C) 109 (Cd 34 [1,1,1,1,1,1,0,1,0] [1,1,1,1,1,1,0,1,1] 109):=gG Ve [[0,0]] (@Jv cI C) (aG (aU (avz C) an)) (aG an)
theorem avB {data:LV} {a b':Int} {r:Option LV} (h:Pu cI CC data a b'=r):CC SJ [.list bu data,V.int .i64 a,V.int .i64 b']=r:=bj (aU (avA CC) an) h
def PD (C:ae):cE:=gH 639 UX [[1,2,0,4,5,6,0]] (@DL cI C) (gH 911 UY [[1,2,3,4,5,6,0,0,0]] (@DM cI C) (gH 1215 UZ [[1,2,3,4,5,6,7,0,0],[1,2,3,4,5,6,7,0]] (@qO cI C) (bG 33 U0 [H1,H1,H1,H1,H1,H1] [[0]] (@uU cI C) bm)))
theorem avC (C:ae):aW C (PD C) 95 (Cd 39 [1,1,0,0,0,1,1,1,0,1,0] [1,1,0,0,0,1,1,1,0,1,1] 95):=gG UX [[1,2,0,4,5,6,0]] (@DL cI C) (aG an) (aG an)
theorem avD (C:ae):aW C (PD C) 95 (Cd 56 [1,1,0,0,0,1,1,1,1,1,0,1,0] [1,1,0,0,0,1,1,1,1,1,0,1,1] 95):=gG UY [[1,2,3,4,5,6,0,0,0]] (@DM cI C) (aG an) (aG an)
theorem avE (C:ae):aW C (PD C) 95 (Cd 75 [1,1,0,0,0,1,1,1,1,1,1,0,1,0] [1,1,0,0,0,1,1,1,1,1,1,0,1,1] 95):=gG UZ [[1,2,3,4,5,6,7,0,0],[1,2,3,4,5,6,7,0]] (@qO cI C) (aG an) (aG an)
theorem avF (C:ae):aW C (PD C) 95 (Lp [1,1,0,0] 95):=bE U0 [H1,H1,H1,H1,H1,H1] [[0]] (@uU cI C) (aG (aU (avC C) (aU (avD C) (aU (avE C) an))))
theorem avG {a b' kN:Int} {ak:LV} {r:Option LV} (h:XK cI CC a b' kN ak=r):CC SF [V.int .i64 a,V.int .i64 b',V.int .i64 kN,.list bu ak]=r:=bj (aU (avF CC) an) h
theorem avH {xs:LV} {r:Option LV} (h:XL cI CC xs=r):CC Gt [.list bu xs]=r:=bj (L:=bm) an h
end Go.AM
set_option maxRecDepth 100000
namespace Go.AM.SL
open Go.Proofs Go.Sort
abbrev avI:au Ed where
 E:=cI
 enc:=Ed.enc
 cmp:=rN
 re x:=by simp only[cI,Ed.mM,Ed.mN,Ed.mO];exact Ed.re x
 cs a b:=by simp only[cI,Ed.mM,Ed.mN,Ed.mO];exact au0 a b
 swo:=⟨fun x=>by simp only[decide_eq_false_iff_not,Dk];unfold Ed.lt;omega,fun x y z=>by simp only[fo,Dk];unfold Ed.lt;omega,fun x y z=>by simp only[decide_eq_false_iff_not,Dk];unfold Ed.lt;omega⟩
 ahk:=au3
 ahl:=au6
 ahm:=au9
 ahn:=avc
 aho:=avi
 ahp:=avm
 ahq:=avs
 ahr:=avv
 ahs:=avw
 aht:=avx
 XM:=avy
 XN:=avB
 ahu:=avG
 ahv:=avH
theorem avJ (l:List Ed) (hs:l.length<1152921504606846976): ∃R:List Ed,CC Gt [.list bu (l.map Ed.enc)]=some [.list bu (R.map Ed.enc)]∧R.Perm l∧R.Pairwise (fun x y=> ¬y.lt x):=by
 obtain ⟨R,h1,h2,h3⟩:= @auY Ed avI _ l hs;exact ⟨R,h1,h2,h3.imp fun h g=>h ((Dk _ _).2 g)⟩
end Go.AM.SL
set_option maxRecDepth 100000
namespace Go.AM
open Go.IntKind (wrap)
open Go.Proofs
def JB (C:ae) (i x s at':Int) (t57:Bool) (bn aY bh aS:Int) (jC:LV) (cy cz:Int) (mc places:LV) (fW fX:Int) (rows bJ cd bS cN:LV) {β:Type} (kr:((Int×Int×Int×LV×LV×LV) ⊕ (Int×LV×LV))→Option β):Option β:=
 bif t57 then
  bif (mc.length:Int)==512 then
  kr (.inl (3,0,0,([]:LV),([]:LV),([]:LV)))
  else
  bif cw .u64 s&&true then
   bif Nat.ble ((mc.length+([.int .u64 s]:LV).length)*8) aX then
   kr (.inr ((mc.length:Int),mc++([.int .u64 s]:LV),eC (.int .u64 s) (V.int .i64 (mc.length:Int)) places))
   else none
  else none
 else
  kr (.inr (at',mc,places))
def DR (C:ae) (i bn aY bh aS:Int) (jC:LV) (cy cz fW fX:Int) (bJ cd bS cN:LV) (x:Int) (mc places rows:LV) {β:Type} (kn:(Int×LV×LV×LV)→Option β) (kr:((Int×Int×Int×LV×LV×LV) ⊕ (Int×Bool×LV×LV×LV))→Option β):Option β:=
 bif decide (x<bn) then
  aq mc i fun x2=>
  (C xF [V.int .i64 bn,V.int .i64 aY,.int .u64 bh,.int .u64 aS,.list bu jC,.int .u64 x2.toInt,V.int .i64 x]).bind fun r3=>
  bif cw .u64 ((V.nth r3 0).toInt)&&true then
  JB C i x ((V.nth r3 0).toInt) ((fP (.int .u64 ((V.nth r3 0).toInt)) places (V.int .i64 0)).toInt) (!(eB (.int .u64 ((V.nth r3 0).toInt)) places)) bn aY bh aS jC cy cz mc places fW fX rows bJ cd bS cN (bN (un fun kK=>un fun avK=>un fun avL=>un fun (X3:LV)=>un fun (b_8:LV) (avM:LV)=>
   kr (.inl (kK,avK,avL,X3,b_8,avM))) (un fun ahW=>un fun (avN:LV) (avO:LV)=>
   bif Nat.ble ((rows.length+([V.int .i64 ahW]:LV).length)*8) aX then
    kn (wrap .i64 (x+1),avN,avO,rows++([V.int .i64 ahW]:LV))
   else none))
  else none
 else
  kr (.inr (x,decide (x<bn),mc,places,rows))
def A3 (C:ae) (i bn aY bh aS:Int) (jC:LV) (cy cz fW fX:Int) (bJ cd bS cN:LV):=un fun x=>un fun mc=>un fun places rows=>DR C i bn aY bh aS jC cy cz fW fX bJ cd bS cN x mc places rows (fun y=>some (Sum.inl y)) (fun r=>some (Sum.inr r))
def JC (C:ae) (bn aY bh aS:Int) (jC:LV) (cy cz fW fX:Int) (cx bJ:LV) (i:Int) (mc places cd bS:LV) {β:Type} (kn:(Int×LV×LV×LV×LV)→Option β) (kr:((Int×Int×Int×LV×LV×LV) ⊕ (Int×Bool×LV×LV×LV×LV))→Option β):Option β:=
 bif decide (i<(mc.length:Int)) then
  (Loop (A3 C i bn aY bh aS jC cy cz fW fX cx bJ cd bS) (0,mc,places,([]:LV))).bind (bN (un fun oY=>un fun avP=>un fun avQ=>un fun (Xh:LV)=>un fun (qH:LV) (avR:LV)=>
   kr (.inl (oY,avP,avQ,Xh,qH,avR))) (un fun azK=>un fun (Hj:Bool)=>un fun (ahX:LV)=>un fun (avS:LV) (ahY:LV)=>
   bif Nat.ble ((bS.length+([.list aF ahY]:LV).length)*24) aX then
   aq ahX i fun AU=>
   bif Nat.ble ((cd.length+([.bool (((wrap .u64 ((BitVec.ofInt (IntKind.bits .u64) AU.toInt&&&BitVec.ofInt (IntKind.bits .u64) aS).toNat)):Int) != 0)]:LV).length)*1) aX then
    kn (wrap .i64 (i+1),ahX,avS,cd++([.bool (((wrap .u64 ((BitVec.ofInt (IntKind.bits .u64) AU.toInt&&&BitVec.ofInt (IntKind.bits .u64) aS).toNat)):Int) != 0)]:LV),bS++([.list aF ahY]:LV))
   else none
   else none))
 else
  kr (.inr (i,decide (i<(mc.length:Int)),mc,places,cd,bS))
def DS (C:ae) (bn aY bh aS:Int) (jC:LV) (cy cz fW fX:Int) (cx bJ:LV):=un fun i=>un fun mc=>un fun places=>un fun cd bS=>JC C bn aY bh aS jC cy cz fW fX cx bJ i mc places cd bS (fun y=>some (Sum.inl y)) (fun r=>some (Sum.inr r))
def X4 (C:ae):cE:=gH 927 Um [[0,0,0,0,0,0],[1,2,0,6,7,8,9,10,11,12,0,0,15,16,17,18,19,20,21]] (@JB C) (bG 193 Un [EQ,H1,EQ,EQ,EQ,EQ,EQ,EQ,EQ,H1,H1,EQ,EQ,H1,EQ,EQ,EQ,EQ] [[0,0,0,0,0,0],[1,0,0,3,4,5,6,7,8,9,0,0,12,13,0,15,16,17,18]] (@DR C) (bG 129 Uo [H1,EQ,EQ,EQ,EQ,EQ,EQ,EQ,H1,H1,EQ,EQ,EQ,EQ,H1,H1] [[0,0,0,0,0,0],[0,0,2,3,4,5,6,7,8,0,0,11,12,13,14,0,0]] (@JC C) bm))
theorem avT (C:ae):aW C (X4 C) 41 (Cd 57 [1,1,1,1,1,0,1,0,0,1,0,0,1,0,1,0,0,1,0,0,1,1,0,1,0] [1,1,1,1,1,0,1,0,0,1,0,0,1,0,1,0,0,1,0,0,1,1,0,1,1] 41):=gG Um [[0,0,0,0,0,0],[1,2,0,6,7,8,9,10,11,12,0,0,15,16,17,18,19,20,21]] (@JB C) (aG an) (aG an)
theorem avU (C:ae):aW C (X4 C) 41 (Lp [1,1,1,1,1,0,1,0,0,1,0,0,1,0,1,0,0] 41):=bE Un [EQ,H1,EQ,EQ,EQ,EQ,EQ,EQ,EQ,H1,H1,EQ,EQ,H1,EQ,EQ,EQ,EQ] [[0,0,0,0,0,0],[1,0,0,3,4,5,6,7,8,9,0,0,12,13,0,15,16,17,18]] (@DR C) (aG (aU (avT C) an))
theorem avV (C:ae):aW C (X4 C) 41 (Lp [1,1,1,1,1,0,1,0,0] 41):=bE Uo [H1,EQ,EQ,EQ,EQ,EQ,EQ,EQ,H1,H1,EQ,EQ,EQ,EQ,H1,H1] [[0,0,0,0,0,0],[0,0,2,3,4,5,6,7,8,0,0,11,12,13,14,0,0]] (@JC C) (aG (aU (avU C) an))
def X5 (C:ae) (cl cQ cv cW:Int) (dL:LV):Option LV:=
 (C MO [V.int .i64 cl,V.int .i64 cQ,.int .u64 cv,.int .u64 cW,.list bu dL]).bind fun r1=>
 bif (((V.nth r1 0).toInt):Int) != 0 then
  some [V.int .i64 0,V.int .i64 0,V.int .i64 ((V.nth r1 0).toInt),.list ao ([]:LV),.list ar ([]:LV),.list dp ([]:LV)]
 else
  bif cw .u64 cv&&true then
  (Loop (DS C cl cQ cv cW dL 0 0 cl 0 ([]:LV) ([]:LV)) (0,([.int .u64 cv]:LV),eC (.int .u64 cv) (V.int .i64 0) ([]:LV),([]:LV),([]:LV))).bind (bN (un fun Hl=>un fun avW=>un fun avX=>un fun (Wv:LV)=>un fun (Ww:LV) (avY:LV)=>
   some [V.int .i64 avW,V.int .i64 avX,V.int .i64 Hl,.list ao Wv,.list ar Ww,.list dp avY]) (un fun aub=>un fun (V6:Bool)=>un fun (avZ:LV)=>un fun (azL:LV)=>un fun (Hw:LV) (Xi:LV)=>
   some [V.int .i64 cl,V.int .i64 0,V.int .i64 0,.list ao Hw,.list ar Xi,.list dp avZ]))
  else none
theorem ahZ {cl cQ cv cW:Int} {dL:LV} {r:Option LV} (h:X5 CC cl cQ cv cW dL=r):CC F9 [V.int .i64 cl,V.int .i64 cQ,.int .u64 cv,.int .u64 cW,.list bu dL]=r:=bj (aU (avV CC) an) h
def ah0 (C:ae) (cl cQ cv cW:Int) (dL:LV):Option LV:=
 bif decide (cQ>64) then
  some [V.int .i64 0,V.int .i64 0,V.int .i64 3,.list ao ([]:LV),.list ar ([]:LV)]
 else
  (C MH [.list bu dL]).bind fun r1=>
  (C F9 [V.int .i64 cl,V.int .i64 cQ,.int .u64 cv,.int .u64 cW,.list bu ((V.nth r1 0).toList)]).bind fun r2=>
  bif (((V.nth (r2.drop 2) 0).toInt):Int) != 0 then
  some [V.int .i64 0,V.int .i64 0,V.int .i64 ((V.nth (r2.drop 2) 0).toInt),.list ao ([]:LV),.list ar ([]:LV)]
  else
  (C pE [V.int .i64 ((V.nth r2 0).toInt),V.int .i64 ((V.nth (r2.drop 1) 0).toInt),.list ao ((V.nth (r2.drop 3) 0).toList),.list ar ((V.nth ((r2.drop 3).drop 1) 0).toList)]).bind fun r3=>
  some [V.int .i64 ((V.nth r3 0).toInt),V.int .i64 ((V.nth (r3.drop 1) 0).toInt),V.int .i64 0,.list ao ((V.nth (r3.drop 2) 0).toList),.list ar ((V.nth ((r3.drop 2).drop 1) 0).toList)]
theorem av0 {cl cQ cv cW:Int} {dL:LV} {r:Option LV} (h:ah0 CC cl cQ cv cW dL=r):CC MA [V.int .i64 cl,V.int .i64 cQ,.int .u64 cv,.int .u64 cW,.list bu dL]=r:=bj (L:=bm) an h
def ah1 (C:ae) (cl cQ cv cW:Int) (dL:LV):Option LV:=
 (C GA [V.int .i64 cl,V.int .i64 cQ,.int .u64 cv,.int .u64 cW,.list bu dL]).bind fun r1=>
 bif (((V.nth (r1.drop 2) 0).toInt):Int) != 0 then
  some [V.int .i64 0,V.int .i64 0,V.int .i64 ((V.nth (r1.drop 2) 0).toInt),.list ao ([]:LV),.list ar ([]:LV)]
 else
  (C vX [V.int .i64 ((V.nth r1 0).toInt),V.int .i64 ((V.nth (r1.drop 1) 0).toInt),.list ao ((V.nth (r1.drop 3) 0).toList),.list ar ((V.nth ((r1.drop 3).drop 1) 0).toList)]).bind fun r2=>
  some [V.int .i64 ((V.nth r2 0).toInt),V.int .i64 ((V.nth (r2.drop 1) 0).toInt),V.int .i64 0,.list ao ((V.nth (r2.drop 2) 0).toList),.list ar ((V.nth ((r2.drop 2).drop 1) 0).toList)]
theorem av1 {cl cQ cv cW:Int} {dL:LV} {r:Option LV} (h:ah1 CC cl cQ cv cW dL=r):CC Gv [V.int .i64 cl,V.int .i64 cQ,.int .u64 cv,.int .u64 cW,.list bu dL]=r:=bj (L:=bm) an h
def ah2 (C:ae) (bn aY bh aS:Int) (aR:LV):Option LV:=
 (C Gt [.list bu aR]).bind fun r1=>
 (C MU [.list bu ((V.nth r1 0).toList)]).bind fun r2=>
 bif (V.nth r2 0).toBool then
  (C Gv [V.int .i64 bn,V.int .i64 aY,.int .u64 bh,.int .u64 aS,.list bu ((V.nth (r2.drop 1) 0).toList)]).bind fun r3=>
  some [V.int .i64 ((V.nth r3 0).toInt),V.int .i64 ((V.nth (r3.drop 1) 0).toInt),V.int .i64 ((V.nth (r3.drop 2) 0).toInt),V.int .i64 bn,V.int .i64 aY,.int .u64 bh,.int .u64 aS,.list bu ((V.nth (r2.drop 1) 0).toList),.list ao ((V.nth (r3.drop 3) 0).toList),.list ar ((V.nth ((r3.drop 3).drop 1) 0).toList)]
 else
  (C Gv [V.int .i64 bn,V.int .i64 aY,.int .u64 bh,.int .u64 aS,.list bu ((V.nth (r2.drop 1) 0).toList)]).bind fun r4=>
  some [V.int .i64 ((V.nth r4 0).toInt),V.int .i64 ((V.nth (r4.drop 1) 0).toInt),V.int .i64 ((V.nth (r4.drop 2) 0).toInt),V.int .i64 bn,V.int .i64 aY,.int .u64 bh,.int .u64 aS,.list bu ((V.nth (r2.drop 1) 0).toList),.list ao ((V.nth (r4.drop 3) 0).toList),.list ar ((V.nth ((r4.drop 3).drop 1) 0).toList)]
theorem av2 {bn aY bh aS:Int} {aR:LV} {r:Option LV} (h:ah2 CC bn aY bh aS aR=r):CC Gp [V.int .i64 bn,V.int .i64 aY,.int .u64 bh,.int .u64 aS,.list bu aR]=r:=bj (L:=bm) an h
section
variable {n:Nf} {L S:Nat} (h:Nat6 n L S)
include h
theorem ah3 {T U:List Nat} {s:Nat} {i:Nat} (hi:i<T.length) (hs:T[i]=s) (kH:s<2^S) {x:Nat} (hx:x<L) (Di:aJ (sn n.E) T s (x+1) <+: U) (hU:(aJ (sn n.E) T s (x+1)).length≤512) {c1 c2 c3 c4:Int} {l1 l2 l3 l4:List V}:
  A3 CC (i:Int) (L:Int) n.S (n.st:Int) (n.fin:Int) (n.E.map Ed.enc) c1 c2 c3 c4 l1 l2 l3 l4 ((x:Int),U1 (aJ (sn n.E) T s x),uM (aJ (sn n.E) T s x),(tab x fun j=>nV (U.idxOf (sn n.E s j))))=
   some (.inl (((x+1:Nat):Int),U1 (aJ (sn n.E) T s (x+1)),uM (aJ (sn n.E) T s (x+1)),(tab (x+1) fun j=>nV (U.idxOf (sn n.E s j))))):=by
 have h6:=h.l6;have Dq:=h.pow;have jt:=G3 (next:=sn n.E) T s x;have lj:i<(aJ (sn n.E) T s x).length:=gC hi jt.length_le;have Dg:(aJ (sn n.E) T s x)[i]=s:=by rw[←jt.getElem hi,hs]
 have hn:=h.next s x;have fT:=hU;have k1:cw .u64 ((sn n.E s x:Nat):Int)=true:=CT (by omega);have st:=agP n h.ok h.good (set:=s) (by omega) (x:Int);simp only[A3,DR,un];refine bT (cO hx) ?_;refine (eu (Pg lj)).trans ?_;rw[Dg];have st':CC xF [.int .i64 (L:Int),.int .i64 n.S,.int .u64 (n.st:Int),.int .u64 (n.fin:Int),.list bu (n.E.map Ed.enc),.int .u64 (s:Int),.int .i64 (x:Int)]=some [uV (sn n.E s x)]:=(congrArg (fun z=>CC xF [.int .i64 z,.int .i64 n.S,.int .u64 (n.st:Int),.int .u64 (n.fin:Int),.list bu (n.E.map Ed.enc),.int .u64 (s:Int),.int .i64 (x:Int)]) h.hL.symm).trans st;refine bs st' ?_;refine bT (by simp only[uV,V.ct,V.toInt_int];rw[k1];rfl) ?_;simp only[uV,V.ct,V.toInt_int];rw[show (V.int .u64 ((sn n.E s x:Nat):Int))=uV (sn n.E s x) from rfl];have e1:=qG AL (sn n.E s x) (aJ (sn n.E) T s x) 0;unfold JB;rw[show (V.int .u64 ((sn n.E s x:Nat):Int))=uV (sn n.E s x) from rfl,show eB (uV (sn n.E s x)) (uM (aJ (sn n.E) T s x))=_ from e1];have ei:U.idxOf (sn n.E s x)=(dj (aJ (sn n.E) T s x) (sn n.E s x)).idxOf (sn n.E s x):=uB Di uA;rw[CU] at ei;rw[aJ,qz] at fT;by_cases hm:sn n.E s x∈aJ (sn n.E) T s x
 ·have e2:=uH AL (sn n.E s x) (.int .i64 0) (aJ (sn n.E) T s x) 0 hm;rw[ed] at e2;rw[ah hm] at ei;refine bF (by simpa using hm) ?_;rw[show fP (uV (sn n.E s x)) (uM (aJ (sn n.E) T s x)) (.int .i64 0)=_ from e2,V.toInt_int,←ei];simp only[bN,un];refine bT (cap (by rw[db];simp;omega) (by omega)) ?_;rw[cG (by omega),gi,aJ];unfold dj;rw[ah hm];rfl
 ·rw[ag hm] at ei fT;refine bT (by simpa using hm) ?_;refine bF (by rw[ov];simp;omega) ?_;refine bT (by rw[k1];rfl) ?_;refine bT (cap (by rw[ov];simp;omega) (by omega)) ?_;simp only[bN,un];refine bT (cap (by rw[db];simp;omega) (by omega)) ?_;have e2:=uI AL (sn n.E s x) (aJ (sn n.E) T s x) 0 hm;rw[ed] at e2;rw[ov,show eC (uV (sn n.E s x)) _ (uM (aJ (sn n.E) T s x))=_ from e2,←ei,cG (by omega),gi,aJ];unfold dj;rw[ag hm];simp[U1,uM,nV,uV]
theorem av3 {T U:List Nat} {s:Nat} {i:Nat} (hi:i<T.length) (hs:T[i]=s) (kH:s<2^S) (hp:aJ (sn n.E) T s L <+: U) (hU:(aJ (sn n.E) T s L).length≤512) {c1 c2 c3 c4:Int} {l1 l2 l3 l4:List V}:
  Loop (A3 CC (i:Int) (L:Int) n.S (n.st:Int) (n.fin:Int) (n.E.map Ed.enc) c1 c2 c3 c4 l1 l2 l3 l4) (0,U1 T,uM T,([]:List V))=
   some (.inr ((L:Int),false,U1 (aJ (sn n.E) T s L),uM (aJ (sn n.E) T s L),(tab L fun x=>nV (U.idxOf (sn n.E s x))))):=by
 refine (eh L (fun x=>((x:Int),U1 (aJ (sn n.E) T s x),uM (aJ (sn n.E) T s x),(tab x fun j=>nV (U.idxOf (sn n.E s j))))) _ (fun x hx=> ?_) ?_)
 ·have:=(rH (next:=sn n.E) T s (show x+1≤L by omega)).length_le;exact ah3 h hi hs kH hx ((rH T s (show x+1≤L by omega)).trans hp) (by omega)
 ·simp only[A3,DR,un];refine bF (bt (az _)) ?_;rw[bt (az _)]
theorem av4 {T:List Nat} {s:Nat} {i:Nat} (hi:i<T.length) (hs:T[i]=s) (kH:s<2^S) (hT:T.length≤512) (hU:512<(aJ (sn n.E) T s L).length) {c1 c2 c3 c4:Int} {l1 l2 l3 l4:List V}:
  Loop (A3 CC (i:Int) (L:Int) n.S (n.st:Int) (n.fin:Int) (n.E.map Ed.enc) c1 c2 c3 c4 l1 l2 l3 l4) (0,U1 T,uM T,([]:List V))=
   some (.inl (3,0,0,[],[],[])):=by
 obtain ⟨y,hy,L5,X6,X7⟩:=afu hT hU;have h6:=h.l6;have Dq:=h.pow;refine (ab8 (fun x=>((x:Int),U1 (aJ (sn n.E) T s x),uM (aJ (sn n.E) T s x),(tab x fun j=>nV ((aJ (sn n.E) T s y).idxOf (sn n.E s j))))) y (fun x hx=> ?_) ?_)
 ·exact ah3 h hi hs kH (by omega) (rH T s (by omega)) (X7 (x+1) (by omega))
 ·have jt:=G3 (next:=sn n.E) T s y;have lj:i<(aJ (sn n.E) T s y).length:=gC hi jt.length_le;have Dg:(aJ (sn n.E) T s y)[i]=s:=by rw[←jt.getElem hi,hs]
  have hn:=h.next s y;have k1:cw .u64 ((sn n.E s y:Nat):Int)=true:=CT (by omega);have st:=agP n h.ok h.good (set:=s) (by omega) (y:Int);simp only[A3,DR,un];refine bT (cO hy) ?_;refine (eu (Pg lj)).trans ?_;rw[Dg];have st':CC xF [.int .i64 (L:Int),.int .i64 n.S,.int .u64 (n.st:Int),.int .u64 (n.fin:Int),.list bu (n.E.map Ed.enc),.int .u64 (s:Int),.int .i64 (y:Int)]=some [uV (sn n.E s y)]:=(congrArg (fun z=>CC xF [.int .i64 z,.int .i64 n.S,.int .u64 (n.st:Int),.int .u64 (n.fin:Int),.list bu (n.E.map Ed.enc),.int .u64 (s:Int),.int .i64 (y:Int)]) h.hL.symm).trans st;refine bs st' ?_;refine bT (by simp only[uV,V.ct,V.toInt_int];rw[k1];rfl) ?_;simp only[uV,V.ct,V.toInt_int];rw[show (V.int .u64 ((sn n.E s y:Nat):Int))=uV (sn n.E s y) from rfl];have e1:=qG AL (sn n.E s y) (aJ (sn n.E) T s y) 0;unfold JB;rw[show eB (uV (sn n.E s y)) (uM (aJ (sn n.E) T s y))=_ from e1];refine bT (by simpa using X6) ?_;refine bT (by rw[ov];simp;omega) ?_;rfl
theorem av5 {s:Nat} (hs:s<2^S):(((wrap .u64 ((BitVec.ofInt (IntKind.bits .u64) (s:Int)&&&BitVec.ofInt (IntKind.bits .u64) (n.fin:Int)).toNat)):Int) != 0)=sf n.fin s:=by
 have hp:=h.pow;have hf:=h.fin;rw[u64_and (by omega) (by omega)];unfold sf;rw[nL];simp
theorem X8 {i:Nat} (eQ:i<(aj L (sn n.E) n.st i).length) (hlen:(aj L (sn n.E) n.st i).length≤512) {U:List Nat} (hp:aj L (sn n.E) n.st (i+1) <+: U) {l1 l2 l3 l4:List V} (Dd:l3.length≤1000) (WC:l4.length≤1000):
  DS CC (L:Int) n.S (n.st:Int) (n.fin:Int) (n.E.map Ed.enc) 0 0 (L:Int) 0 l1 l2 ((i:Int),U1 (aj L (sn n.E) n.st i),uM (aj L (sn n.E) n.st i),l3,l4)=
   if 512<(aj L (sn n.E) n.st (i+1)).length then some (.inr (.inl (3,0,0,[],[],[])))
   else some (.inl (((i+1:Nat):Int),U1 (aj L (sn n.E) n.st (i+1)),uM (aj L (sn n.E) n.st (i+1)),l3++[V.bool (sf n.fin (aj L (sn n.E) n.st i)[i])],l4++[V.list aF (tab L fun x=>nV (U.idxOf (sn n.E (aj L (sn n.E) n.st i)[i] x)))])):=by
 have h6:=h.l6;have hq:=sub_lt h i _ (ff eQ);have gT:aj L (sn n.E) n.st (i+1)=aJ (sn n.E) (aj L (sn n.E) n.st i) (aj L (sn n.E) n.st i)[i] L:=G4 (cp eQ);simp only[DS,JC,un];refine bT (bU (by rw[ov];omega)) ?_;by_cases pz:512<(aj L (sn n.E) n.st (i+1)).length
 ·rw[ah pz];refine bs (av4 h eQ rfl hq hlen (by rw[←gT];exact pz)) ?_;rfl
 ·rw[ag pz];refine bs (av3 h eQ rfl hq (U:=U) (by rw[←gT];exact hp) (by rw[←gT];omega)) ?_;rw[←gT];simp only[bN,un];have jt:=aep (L:=L) (next:=sn n.E) (a0:=n.st) i;have lj:i<(aj L (sn n.E) n.st (i+1)).length:=gC eQ jt.length_le;refine bT (cap (by simp;omega) (by omega)) ?_;refine (eu (Pg lj)).trans ?_;rw[←jt.getElem eQ];simp only[uV,V.toInt_int];rw[av5 h hq];refine bT (cap (by simp;omega) (by omega)) ?_;rw[cG (by omega)]
theorem av6 (hn: ¬jV n L S): ∃X,CC F9 (ny n [])=some (Ph (ib n L S) 0 (.list dp X)):=by
 have h6:=h.l6;have b9:=h.st;have Dq:=h.pow;have hd:(aj L (sn n.E) n.st (2^S)).length≤2^S:=Dp h _;have hle: ∀i,(aj L (sn n.E) n.st i).length≤(fO n L S).length:=Ot hd;have OK:(fO n L S).length≤512:=by unfold jV at hn;omega
 refine ⟨U1 (fO n L S),ahZ ?_⟩;unfold X5;have hv:=agK n h.ok;rw[h.code] at hv;refine bs hv (bF rfl ?_);refine bT (by rw[CT (show n.st<2^64 by omega)];rfl) ?_;rw[h.hL];have key:Loop (DS CC (L:Int) n.S (n.st:Int) (n.fin:Int) (n.E.map Ed.enc) 0 0 (L:Int) 0 ([]:List V) ([]:List V)) (0,U1 [n.st],uM [n.st],([]:List V),([]:List V))=
   some (.inr (((fO n L S).length:Int),false,U1 (fO n L S),uM (fO n L S),(ib n L S).bI,(ib n L S).bz)):=by
  refine (eh (fO n L S).length (fun i=>((i:Int),U1 (aj L (sn n.E) n.st i),uM (aj L (sn n.E) n.st i),(tab i fun j=>V.bool ((ib n L S).fin j)),(tab i fun j=>ew L ((ib n L S).nx j)))) _ (fun i hi=> ?_) ?_)
  ·have eQ:=xS hd hi;have WE:i<2^S:=gC hi hd;have ta:(aj L (sn n.E) n.st i)[i]=(fO n L S)[i]:=(lq (show i≤2^S by omega)).getElem eQ;have WG:=hle (i+1);have afK:=hle i;have:=X8 h eQ (by omega) (U:=fO n L S) (lq (by omega)) (l1:=[]) (l2:=[]) (l3:=(tab i fun j=>V.bool ((ib n L S).fin j))) (l4:=(tab i fun j=>ew L ((ib n L S).nx j))) (by rw[db];omega) (by rw[db];omega);rw[cf,ta] at this;rw[this,gi,gi];have e1:(ib n L S).fin i=sf n.fin (fO n L S)[i]:=Aj hi;have e2:ew L ((ib n L S).nx i)= .list aF (tab L fun x=>nV ((fO n L S).idxOf (sn n.E (fO n L S)[i] x))):=by
    unfold ew;refine congrArg _ (dR fun x hx=> ?_);rw[show (ib n L S).nx i x=_ from we hi hx];rfl
   rw[e1,e2]
  ·simp only[DS,JC,un];rw[show aj L (sn n.E) n.st (fO n L S).length=fO n L S from Ak hd,ov];refine bF (bt (az _)) ?_;rw[bt (az _)];have e3:(ib n L S).n=(fO n L S).length:=np;unfold Da.bI Da.bz;rw[e3];rfl
 refine bs key ?_;rfl
theorem av7 (hn:jV n L S): ∃X,CC F9 (ny n [])=some (Ph zD 3 (.list dp X)):=by
 have h6:=h.l6;have b9:=h.st;have Dq:=h.pow;obtain ⟨m,WH,lf,OL⟩:=Ov (Ou (show 512<(aj L (sn n.E) n.st (2^S)).length from hn)) (by omega);refine ⟨[],ahZ ?_⟩;unfold X5;have hv:=agK n h.ok;rw[h.code] at hv;refine bs hv (bF rfl ?_);refine bT (by rw[CT (show n.st<2^64 by omega)];rfl) ?_;rw[h.hL];have key: ∃r,Loop (DS CC (L:Int) n.S (n.st:Int) (n.fin:Int) (n.E.map Ed.enc) 0 0 (L:Int) 0 ([]:List V) ([]:List V)) (0,U1 [n.st],uM [n.st],([]:List V),([]:List V))=some r∧r=(.inl (3,0,0,[],[],[])):=by
  refine uE (fun i st=> ∃l3 l4:List V,l3.length=i∧l4.length=i∧st=((i:Int),U1 (aj L (sn n.E) n.st i),uM (aj L (sn n.E) n.st i),l3,l4)) _ m 0 _ (fun i _ hi st b9=> ?_) (fun st b9=> ?_) ⟨[],[],rfl,rfl,rfl⟩
  ·obtain ⟨l3,l4,e3,e4,rfl⟩:=b9;obtain ⟨h1,h2⟩:=lf i (by omega);have h3:=(lf (i+1) (by omega)).2;have:=X8 h h1 h2 (lG _) (l1:=[]) (l2:=[]) (l3:=l3) (l4:=l4) (by omega) (by omega);rw[cf] at this;exact ⟨_,this,_,_,by simp[e3],by simp[e4],rfl⟩
  ·obtain ⟨l3,l4,e3,e4,rfl⟩:=b9;rw[ed] at*
   obtain ⟨h1,h2⟩:=lf m (by omega);have:=X8 h h1 h2 (lG _) (l1:=[]) (l2:=[]) (l3:=l3) (l4:=l4) (by omega) (by omega);rw[bp] at this;exact ⟨_,this,rfl⟩
 obtain ⟨r,h1,rfl⟩:=key;refine bs h1 ?_;rfl
end
instance (n:Nf) (L S:Nat):Decidable (jV n L S):=by unfold jV;infer_instance
def iz (n:Nf) (L S:Nat):Da:=if jV n L S then zD else minD (ib n L S)
def mQ (n:Nf) (L S:Nat):Int:=if jV n L S then 3 else 0
section
variable {n:Nf} {L S:Nat} (h:Nat6 n L S)
include h
theorem av8:CC Gv (ny n [])=some (lX (iz n L S) (mQ n L S)):=by
 refine av1 ?_;unfold ah1 iz mQ;by_cases ho:jV n L S
 ·obtain ⟨X,hX⟩:=atF h ho;rw[ah ho,ah ho];refine bs hX (bT rfl ?_);rfl
 ·obtain ⟨X,hX⟩:=atE h ho;rw[ag ho,ag ho];refine bs hX (bF rfl ?_);refine bs (HV (AN h ho)) ?_;rfl
end
def dZ (L S st fin:Nat) (l:List Ed):Nf:=⟨L,S,st,fin,rR l⟩
structure A4 (L S st fin:Nat) (l:List Ed):Prop where
 l1:1≤L
 l6:L≤6
 uR:S≤64
 st:st<2^S
 fin:fin<2^S
 E: ∀e∈l,e.In L S
 len:l.length≤1000000
theorem uW {L S st fin:Nat} {l:List Ed} (h:A4 L S st fin l):Nat6 (dZ L S st fin l) L S where
 hL:=rfl
 hS:=rfl
 ok:=by
  have EO:=h.l1;have hl6:=h.l6;have hs:=h.uR;have b9:=h.st;have rL:=h.fin;have hp:2^S≤2^64:=sb (by omega) hs;have fu: ∀e∈rR l,e.In L S:=fun e he=>h.E e (yh.1 he);have hlen:=atM (L:=L) (S:=S) (by omega) (by omega) (I4 l) fu;refine ⟨by simp only[dZ];omega,by simp only[dZ];omega,by simp only[dZ];omega,by simp only[dZ];omega,by simp only[dZ];omega,by simp only[dZ];omega,by simp only[dZ];unfold maxLen;omega,fun e he=> ?_⟩;have:=fu e he;unfold Ed.In at this;unfold Ed.Ok;omega
 code:=by
  have EO:=h.l1;have hl6:=h.l6;have hs:=h.uR;unfold Nf.code;rw[ag (by simp only[dZ];omega),ag (by simp only[dZ,Int.toNat_natCast];have:=h.st;have:=h.fin;omega),ah];intro i hi;have fu: ∀e∈rR l,e.In L S:=fun e he=>h.E e (yh.1 he);unfold Nf.ou;simp only[dZ] at*
  refine ⟨by rw[fH hi];exact fu _ (ff hi),fun h0=> ?_⟩;rw[fH hi,fH (show i-1<_ by omega)];exact Bn.1 (I4 l) (i-1) i (by omega) hi (by omega)
theorem av9 {A B:List Ed} (h: ∀x,x∈A↔x∈B):rR A=rR B:=
 Xr (I4 A) (I4 B) fun x=>by rw[yh,yh,h x]
def awa (m:Da) (e:Int) (n:Nf):List V:=[.int .i64 (m.L:Int),.int .i64 (m.st:Int),.int .i64 e,.int .i64 n.L,.int .i64 n.S,.int .u64 (n.st:Int),.int .u64 (n.fin:Int),.list bu (n.E.map Ed.enc),.list ao m.bI,.list ar m.bz]
section
variable {L S st fin:Nat} {l:List Ed} (h:A4 L S st fin l)
include h
theorem awb:CC Gp [.int .i64 (L:Int),.int .i64 (S:Int),.int .u64 (st:Int),.int .u64 (fin:Int),.list bu (l.map Ed.enc)]=some (awa (iz (dZ L S st fin l) L S) (mQ (dZ L S st fin l) L S) (dZ L S st fin l)):=by
 have hl:=h.len;obtain ⟨R,e1,p1,s1⟩:=SL.avJ l (by omega);obtain ⟨b,e2⟩:=at0 (l:=R) (by rw[p1.length_eq];exact hl);obtain ⟨c1,c2⟩:=atX s1;have hc:ma R=rR l:=Xr c1 (I4 l) fun x=>by rw[c2,yh,p1.mem_iff]
 rw[hc] at e2;have e3:=av8 (uW h);refine av2 ?_;unfold ah2;refine bs e1 ?_;refine bs e2 ?_;cases b
 ·refine bF rfl ?_;refine bs e3 ?_;rfl
 ·refine bT rfl ?_;refine bs e3 ?_;rfl
theorem awc:CC MA [.int .i64 (L:Int),.int .i64 (S:Int),.int .u64 (st:Int),.int .u64 (fin:Int),.list bu (l.map Ed.enc)]=some (lX (iz (dZ L S st fin l) L S) (mQ (dZ L S st fin l) L S)):=by
 have hl:=h.len;have hs:=h.uR;have h6:=uW h;refine av0 ?_;unfold ah0 iz mQ;refine bF (cJ (by omega)) ?_;refine bs (atS (by omega)) ?_;by_cases ho:jV (dZ L S st fin l) L S
 ·obtain ⟨X,hX⟩:=av7 h6 ho;rw[ah ho,ah ho];refine bs hX (bT rfl ?_);rfl
 ·obtain ⟨X,hX⟩:=av6 h6 ho;rw[ag ho,ag ho];refine bs hX (bF rfl ?_);refine bs (mL (AN h6 ho)) ?_;rfl
end
def X9 (C:ae) (ay qB:Int):Option LV:=
 bif decide (qB>64) then
  some [V.bool true]
 else
  some [V.bool false,V.int .i64 ay,V.int .i64 qB,.int .u64 0,.int .u64 0,.list bu ([]:LV)]
theorem ah4 {ay qB:Int} {r:Option LV} (h:X9 CC ay qB=r):CC Gk [V.int .i64 ay,V.int .i64 qB]=r:=bj (L:=bm) an h
def ah5 (C:ae) (JD letter to bn aY bh aS:Int) (aR:LV):Option LV:=
 bif Nat.ble ((aR.length+([.agg [V.int .i64 JD,V.int .i64 letter,V.int .i64 to]]:LV).length)*24) aX then
  some [V.int .i64 bn,V.int .i64 aY,.int .u64 bh,.int .u64 aS,.list bu (aR++([.agg [V.int .i64 JD,V.int .i64 letter,V.int .i64 to]]:LV))]
 else none
theorem awd {JD letter to bn aY bh aS:Int} {aR:LV} {r:Option LV} (h:ah5 CC JD letter to bn aY bh aS aR=r):CC Gs [V.int .i64 JD,V.int .i64 letter,V.int .i64 to,V.int .i64 bn,V.int .i64 aY,.int .u64 bh,.int .u64 aS,.list bu aR]=r:=bj (L:=bm) an h
def ah6 (C:ae) (q bn aY bh aS:Int) (aR:LV):Option LV:=
 bif decide (0≤q) then
  some [V.int .i64 bn,V.int .i64 aY,.int .u64 (wrap .u64 ((BitVec.ofInt (IntKind.bits .u64) bh|||BitVec.ofInt (IntKind.bits .u64) (wrap .u64 (1*2^(min q.toNat (IntKind.bits .u64))))).toNat)),.int .u64 aS,.list bu aR]
 else none
theorem awe {q bn aY bh aS:Int} {aR:LV} {r:Option LV} (h:ah6 CC q bn aY bh aS aR=r):CC Gm [V.int .i64 q,V.int .i64 bn,V.int .i64 aY,.int .u64 bh,.int .u64 aS,.list bu aR]=r:=bj (L:=bm) an h
def ah7 (C:ae) (q bn aY bh aS:Int) (aR:LV):Option LV:=
 bif decide (0≤q) then
  some [V.int .i64 bn,V.int .i64 aY,.int .u64 bh,.int .u64 (wrap .u64 ((BitVec.ofInt (IntKind.bits .u64) aS|||BitVec.ofInt (IntKind.bits .u64) (wrap .u64 (1*2^(min q.toNat (IntKind.bits .u64))))).toNat)),.list bu aR]
 else none
theorem awf {q bn aY bh aS:Int} {aR:LV} {r:Option LV} (h:ah7 CC q bn aY bh aS aR=r):CC MT [V.int .i64 q,V.int .i64 bn,V.int .i64 aY,.int .u64 bh,.int .u64 aS,.list bu aR]=r:=bj (L:=bm) an h
def JE (C:ae) (offset:Int) (t8:LV) (t9 t10 bn aY bh aS:Int) (ca:LV) {β:Type} (kn:(Int×Int×Int×Int×Int×LV)→Option β) (kr:(Int×Bool×Int×Int×Int×Int×LV)→Option β):Option β:=
 bif decide (t10<t9) then
  (idx t8 t10).bind fun x1=>
  bif x1.toBool then
  (C MT [V.int .i64 (wrap .i64 (t10+offset)),V.int .i64 bn,V.int .i64 aY,.int .u64 bh,.int .u64 aS,.list bu ca]).bind fun r2=>
  kn (wrap .i64 (t10+1),(V.nth r2 0).toInt,(V.nth (r2.drop 1) 0).toInt,(V.nth ((r2.drop 1).drop 1) 0).toInt,(V.nth (((r2.drop 1).drop 1).drop 1) 0).toInt,(V.nth (r2.drop 4) 0).toList)
  else
  kn (wrap .i64 (t10+1),bn,aY,bh,aS,ca)
 else
  kr (t10,decide (t10<t9),bn,aY,bh,aS,ca)
def Ya (C:ae) (offset:Int) (t8:LV) (t9:Int):=un fun t10=>un fun bn=>un fun aY=>un fun bh=>un fun aS ca=>JE C offset t8 t9 t10 bn aY bh aS ca (fun y=>some (Sum.inl y)) (fun r=>some (Sum.inr r))
def awg (C:ae):cE:=bG 17 UE [EQ,EQ,EQ,H1,H1,H1,H1,H1,H1] [[1,2,3,0,0,0,0,0,0,0]] (@JE C) bm
theorem awh (C:ae):aW C (awg C) 71 (Lp [1,0,0] 71):=bE UE [EQ,EQ,EQ,H1,H1,H1,H1,H1,H1] [[1,2,3,0,0,0,0,0,0,0]] (@JE C) (aG an)
def ah8 (C:ae) (final:LV) (offset bn aY bh aS:Int) (aR:LV):Option LV:=
 (Loop (Ya C offset final (final.length:Int)) (0,bn,aY,bh,aS,aR)).bind (un fun lr=>un fun (kK:Bool)=>un fun PE=>un fun JF=>un fun JG=>un fun (A5:Int) (A6:LV)=>
  some [V.int .i64 PE,V.int .i64 JF,.int .u64 JG,.int .u64 A5,.list bu A6])
theorem awi {final:LV} {offset bn aY bh aS:Int} {aR:LV} {r:Option LV} (h:ah8 CC final offset bn aY bh aS aR=r):CC Gn [.list ao final,V.int .i64 offset,V.int .i64 bn,V.int .i64 aY,.int .u64 bh,.int .u64 aS,.list bu aR]=r:=bj (aU (awh CC) an) h
def JH (C:ae) (offset p:Int) (t11:LV) (t12 t13:Int) (t18:LV) (t19 t20 bn aY bh aS:Int) (ca:LV) {β:Type} (kn:(Int×Int×Int×Int×Int×LV)→Option β) (kr:(Int×Bool×Int×Int×Int×Int×LV)→Option β):Option β:=
 bif decide (t20<t19) then
  (idx t18 t20).bind fun x2=>
  (C Gs [V.int .i64 (wrap .i64 (p+offset)),V.int .i64 t20,V.int .i64 (wrap .i64 (x2.toInt+offset)),V.int .i64 bn,V.int .i64 aY,.int .u64 bh,.int .u64 aS,.list bu ca]).bind fun r3=>
  kn (wrap .i64 (t20+1),(V.nth r3 0).toInt,(V.nth (r3.drop 1) 0).toInt,(V.nth ((r3.drop 1).drop 1) 0).toInt,(V.nth (((r3.drop 1).drop 1).drop 1) 0).toInt,(V.nth (r3.drop 4) 0).toList)
 else
  kr (t20,decide (t20<t19),bn,aY,bh,aS,ca)
def Yb (C:ae) (offset p:Int) (t11:LV) (t12 t13:Int) (t18:LV) (t19:Int):=un fun t20=>un fun bn=>un fun aY=>un fun bh=>un fun aS ca=>JH C offset p t11 t12 t13 t18 t19 t20 bn aY bh aS ca (fun y=>some (Sum.inl y)) (fun r=>some (Sum.inr r))
def JI (C:ae) (offset:Int) (t11:LV) (t12 t13 bn aY bh aS:Int) (ca:LV) {β:Type} (kn:(Int×Int×Int×Int×Int×LV)→Option β) (kr:(Int×Bool×Int×Int×Int×Int×LV)→Option β):Option β:=
 bif decide (t13<t12) then
  (idx t11 t13).bind fun x1=>
  (Loop (Yb C offset t13 t11 t12 t13 x1.toList (x1.toList.length:Int)) (0,bn,aY,bh,aS,ca)).bind (un fun kK=>un fun (og:Bool)=>un fun JF=>un fun JG=>un fun A5=>un fun (JJ:Int) (uQ:LV)=>
   kn (wrap .i64 (t13+1),JF,JG,A5,JJ,uQ))
 else
  kr (t13,decide (t13<t12),bn,aY,bh,aS,ca)
def Yc (C:ae) (offset:Int) (t11:LV) (t12:Int):=un fun t13=>un fun bn=>un fun aY=>un fun bh=>un fun aS ca=>JI C offset t11 t12 t13 bn aY bh aS ca (fun y=>some (Sum.inl y)) (fun r=>some (Sum.inr r))
def ah9 (C:ae):cE:=bG 81 UB [EQ,EQ,EQ,EQ,EQ,EQ,EQ,H1,H1,H1,H1,H1,H1] [[1,2,3,4,5,6,7,0,0,0,0,0,0,0]] (@JH C) (bG 33 UC [EQ,EQ,EQ,H1,H1,H1,H1,H1,H1] [[1,2,3,0,0,0,0,0,0,0]] (@JI C) bm)
theorem awj (C:ae):aW C (ah9 C) 68 (Lp [1,1,0,0,1,1,0,0,1,1,0,0] 68):=bE UB [EQ,EQ,EQ,EQ,EQ,EQ,EQ,H1,H1,H1,H1,H1,H1] [[1,2,3,4,5,6,7,0,0,0,0,0,0,0]] (@JH C) (aG an)
theorem awk (C:ae):aW C (ah9 C) 68 (Lp [1,1,0,0] 68):=bE UC [EQ,EQ,EQ,H1,H1,H1,H1,H1,H1] [[1,2,3,0,0,0,0,0,0,0]] (@JI C) (aG (aU (awj C) an))
def aia (C:ae) (bO bP:Int) (bw bY:LV) (offset bn aY bh aS:Int) (aR:LV):Option LV:=
 (Loop (Yc C offset bY (bY.length:Int)) (0,bn,aY,bh,aS,aR)).bind (un fun xW=>un fun (xX:Bool)=>un fun awl=>un fun awm=>un fun awn=>un fun (awo:Int) (qH:LV)=>
  some [V.int .i64 awl,V.int .i64 awm,.int .u64 awn,.int .u64 awo,.list bu qH])
theorem awp {bO bP:Int} {bw bY:LV} {offset bn aY bh aS:Int} {aR:LV} {r:Option LV} (h:aia CC bO bP bw bY offset bn aY bh aS aR=r):CC Gl [V.int .i64 bO,V.int .i64 bP,.list ao bw,.list ar bY,V.int .i64 offset,V.int .i64 bn,V.int .i64 aY,.int .u64 bh,.int .u64 aS,.list bu aR]=r:=bj (aU (awk CC) an) h
def JK (C:ae) (final:LV) (to t14:Int) (Yd:LV) (t15 bn aY bh aS:Int) (bC:LV) {β:Type} (kn:(Int×Int×Int×Int×Int×LV)→Option β) (kr:(Int×Bool×Int×Int×Int×Int×LV)→Option β):Option β:=
 bif decide (t15<t14) then
  aq Yd t15 fun x1=>
  bif decide ((((x1.cell 2).toInt):Int)<(final.length:Int)) then
  (idx final ((x1.cell 2).toInt)).bind fun x2=>
  bif x2.toBool then
   (C Gs [V.int .i64 ((x1.cell 0).toInt),V.int .i64 ((x1.cell 1).toInt),V.int .i64 to,V.int .i64 bn,V.int .i64 aY,.int .u64 bh,.int .u64 aS,.list bu bC]).bind fun r3=>
   kn (wrap .i64 (t15+1),(V.nth r3 0).toInt,(V.nth (r3.drop 1) 0).toInt,(V.nth ((r3.drop 1).drop 1) 0).toInt,(V.nth (((r3.drop 1).drop 1).drop 1) 0).toInt,(V.nth (r3.drop 4) 0).toList)
  else
   kn (wrap .i64 (t15+1),bn,aY,bh,aS,bC)
  else
  kn (wrap .i64 (t15+1),bn,aY,bh,aS,bC)
 else
  kr (t15,decide (t15<t14),bn,aY,bh,aS,bC)
def Ye (C:ae) (final:LV) (to t14:Int) (Yd:LV):=un fun t15=>un fun bn=>un fun aY=>un fun bh=>un fun aS bC=>JK C final to t14 Yd t15 bn aY bh aS bC (fun y=>some (Sum.inl y)) (fun r=>some (Sum.inr r))
def awq (C:ae):cE:=bG 17 UD [EQ,EQ,EQ,H1,H1,H1,H1,H1,EQ,H1] [[1,2,3,0,0,0,0,0,0,9,0]] (@JK C) bm
theorem awr (C:ae):aW C (awq C) 69 (Lp [1,0,0] 69):=bE UD [EQ,EQ,EQ,H1,H1,H1,H1,H1,EQ,H1] [[1,2,3,0,0,0,0,0,0,9,0]] (@JK C) (aG an)
def aib (C:ae) (final:LV) (to bn aY bh aS:Int) (aR:LV):Option LV:=
 bif Nat.ble (aR.length*24) aX then
  (Loop (Ye C final to (aR.length:Int) aR) (0,bn,aY,bh,aS,aR)).bind (un fun kK=>un fun (og:Bool)=>un fun JF=>un fun JG=>un fun A5=>un fun (JJ:Int) (uQ:LV)=>
   some [V.int .i64 JF,V.int .i64 JG,.int .u64 A5,.int .u64 JJ,.list bu uQ])
 else none
theorem aws {final:LV} {to bn aY bh aS:Int} {aR:LV} {r:Option LV} (h:aib CC final to bn aY bh aS aR=r):CC MP [.list ao final,V.int .i64 to,V.int .i64 bn,V.int .i64 aY,.int .u64 bh,.int .u64 aS,.list bu aR]=r:=bj (aU (awr CC) an) h
def DT (C:ae) (q t18 t19:Int) (t26:Bool) (e9 fB:Int) (gN gz:LV) (cy cz iD iw bn aY bh aS:Int) (bC bQ:LV) {β:Type} (kr:(Int)→Option β):Option β:=
 bif t26 then
  (C xE [V.int .i64 q]).bind fun r3=>
  kr (wrap .u64 ((BitVec.ofInt (IntKind.bits .u64) aS|||BitVec.ofInt (IntKind.bits .u64) ((V.nth r3 0).toInt)).toNat))
 else
  kr aS
def A7 (C:ae) (q t18 t19:Int) (t37:LV) (t38 e9 fB:Int) (gN gz:LV) (cy cz iD iw bn aY bh aS:Int) (bC:LV) (t39:Int) (bQ:LV) {β:Type} (kn:(Int×LV)→Option β) (kr:(Int×Bool×LV)→Option β):Option β:=
 bif decide (t39<t38) then
  (idx t37 t39).bind fun x6=>
  bif Nat.ble ((bQ.length+([.agg [V.int .i64 q,V.int .i64 t39,V.int .i64 x6.toInt]]:LV).length)*24) aX then
  kn (wrap .i64 (t39+1),bQ++([.agg [V.int .i64 q,V.int .i64 t39,V.int .i64 x6.toInt]]:LV))
  else none
 else
  kr (t39,decide (t39<t38),bQ)
def A8 (C:ae) (q t18 t19:Int) (t37:LV) (t38 e9 fB:Int) (gN gz:LV) (cy cz iD iw bn aY bh aS:Int) (bC:LV):=un fun t39 bQ=>A7 C q t18 t19 t37 t38 e9 fB gN gz cy cz iD iw bn aY bh aS bC t39 bQ (fun y=>some (Sum.inl y)) (fun r=>some (Sum.inr r))
def yq (C:ae) (t18 e9 fB:Int) (gN gz:LV) (cy cz iD iw bn aY bh:Int) (bC:LV) (t19 aS:Int) (bQ:LV) {β:Type} (kn:(Int×Int×LV)→Option β) (kr:(Int×Bool×Int×LV)→Option β):Option β:=
 bif decide (t19<t18) then
  (idx gN t19).bind fun x2=>
  DT C t19 t18 t19 x2.toBool e9 fB gN gz cy cz iD iw bn aY bh aS bC bQ (fun jC=>
   (idx gz t19).bind fun x5=>
   (Loop (A8 C t19 t18 t19 x5.toList (x5.toList.length:Int) e9 fB gN gz cy cz iD iw bn aY bh jC bC) (0,bQ)).bind (un fun kL=>un fun (oh:Bool) (A6:LV)=>
    kn (wrap .i64 (t19+1),jC,A6)))
 else
  kr (t19,decide (t19<t18),aS,bQ)
def A9 (C:ae) (t18 e9 fB:Int) (gN gz:LV) (cy cz iD iw bn aY bh:Int) (bC:LV):=un fun t19=>un fun aS bQ=>yq C t18 e9 fB gN gz cy cz iD iw bn aY bh bC t19 aS bQ (fun y=>some (Sum.inl y)) (fun r=>some (Sum.inr r))
def Yf (C:ae):cE:=gH 431 TZ [[1,2,3,5,6,7,8,9,10,11,12,13,14,15,0,17,18]] (@DT C) (bG 129 T4 [EQ,EQ,EQ,EQ,EQ,H1,EQ,EQ,EQ,EQ,EQ,EQ,EQ,EQ,EQ,EQ,EQ,EQ,EQ,H1] [[1,2,3,4,5,0,0,7,8,9,10,11,12,13,14,15,16,17,18,19,0]] (@A7 C) (bG 49 T6 [EQ,H1,EQ,EQ,EQ,EQ,EQ,EQ,EQ,EQ,EQ,EQ,EQ,H1,EQ,H1] [[1,0,0,3,4,5,6,7,8,9,10,11,12,13,0,15,0]] (@yq C) bm))
theorem awt (C:ae):aW C (Yf C) 26 (Cd 26 [1,1,0,1,0,0,1,1,0,0,1,0,1,0] [1,1,0,1,0,0,1,1,0,0,1,0,1,1] 26):=gG TZ [[1,2,3,5,6,7,8,9,10,11,12,13,14,15,0,17,18]] (@DT C) (aG an) (aG an)
theorem awu (C:ae):aW C (Yf C) 26 (Lp [1,1,0,1,0,0,1,1,0,0,1,1,1,0,0] 26):=bE T4 [EQ,EQ,EQ,EQ,EQ,H1,EQ,EQ,EQ,EQ,EQ,EQ,EQ,EQ,EQ,EQ,EQ,EQ,EQ,H1] [[1,2,3,4,5,0,0,7,8,9,10,11,12,13,14,15,16,17,18,19,0]] (@A7 C) (aG an)
theorem awv (C:ae):aW C (Yf C) 26 (Lp [1,1,0,1,0,0] 26):=bE T6 [EQ,H1,EQ,EQ,EQ,EQ,EQ,EQ,EQ,EQ,EQ,EQ,EQ,H1,EQ,H1] [[1,0,0,3,4,5,6,7,8,9,10,11,12,13,0,15,0]] (@yq C) (aG (aU (awt C) (aU (awu C) an)))
def Yg (C:ae) (aO bR:Int) (dc dB:LV):Option LV:=
 (C xE [V.int .i64 bR]).bind fun r1=>
 (Loop (A9 C (dc.length:Int) aO bR dc dB 0 0 0 0 aO (dc.length:Int) ((V.nth r1 0).toInt) ([]:LV)) (0,0,([]:LV))).bind (un fun xV=>un fun (xW:Bool)=>un fun (Yh:Int) (xZ:LV)=>
  some [V.int .i64 aO,V.int .i64 (dc.length:Int),.int .u64 ((V.nth r1 0).toInt),.int .u64 Yh,.list bu xZ])
theorem aic {aO bR:Int} {dc dB:LV} {r:Option LV} (h:Yg CC aO bR dc dB=r):CC Cv [V.int .i64 aO,V.int .i64 bR,.list ao dc,.list ar dB]=r:=bj (aU (awv CC) an) h
def gI (p x q:Nat):Ed:=⟨(p:Int),(x:Int),(q:Int)⟩
def aN (L S:Nat) (st fin:Nat) (l:List Ed):List V:=[.int .i64 (L:Int),.int .i64 (S:Int),.int .u64 (st:Int),.int .u64 (fin:Int),.list bu (l.map Ed.enc)]
def fm (n:Nat) (g:Nat→List Ed):List Ed:=(List.range n).flatMap g
theorem aid {g:Nat→List Ed}:fm 0 g=[]:=rfl
theorem PF {n:Nat} {g:Nat→List Ed}:fm (n+1) g=fm n g++g n:=by simp[fm,yP]
theorem aie {n:Nat} {g:Nat→List Ed} {e:Ed}:e∈fm n g↔∃i,i<n∧e∈g i:=by simp[fm]
theorem Yi {n k:Nat} {g:Nat→List Ed} (h: ∀i,i<n→(g i).length≤k):(fm n g).length≤n*k:=by
 induction n with
 | zero=>simp[fm]
 | succ n ih=>
  rw[PF,dd,yD];have:=ih fun i hi=>h i (by omega);have:=h n (by omega);omega
theorem yr {X R:Type} {step:X→Option (X ⊕ R)} (n:Nat) (s:Nat→X) (r:R) {x:X} (hx:x=s 0) (h: ∀i,i<n→step (s i)=some (.inl (s (i+1)))) (he:step (s n)=some (.inr r)):Loop step x=some r:=by rw[hx];exact eh n s r h he
theorem qP {a b:Nat} (h:a+b≤1000000000):wrap .i64 ((a:Int)+(b:Int))=((a+b:Nat):Int):=by rw[dM];omega
theorem JL {l:List Ed} {p x q:Nat}:l.map Ed.enc++[V.agg [.int .i64 (p:Int),.int .i64 (x:Int),.int .i64 (q:Int)]]=(l++[gI p x q]).map Ed.enc:=by simp[gI,Ed.enc]
section
variable {L S st fin:Nat} {l:List Ed}
theorem aif {p x q:Nat} (h:l.length≤1000000):CC Gs [.int .i64 (p:Int),.int .i64 (x:Int),.int .i64 (q:Int),.int .i64 (L:Int),.int .i64 (S:Int),.int .u64 (st:Int),.int .u64 (fin:Int),.list bu (l.map Ed.enc)]=some (aN L S st fin (l++[gI p x q])):=by
 refine awd ?_;unfold ah5;refine bT (cap (by simp;omega) (by omega)) ?_;rw[JL];rfl
theorem aih {q:Nat} (hq:q<64) (hs:st<2^64):CC Gm [.int .i64 (q:Int),.int .i64 (L:Int),.int .i64 (S:Int),.int .u64 (st:Int),.int .u64 (fin:Int),.list bu (l.map Ed.enc)]=some (aN L S (st|||2^q) fin l):=by
 refine awe ?_;unfold ah6;refine bT (bU (by omega)) ?_;rw[Int.toNat_natCast,G0 hq,u64_or hs (mW (by omega) hq)];rfl
theorem aww {q:Nat} (hq:q<64) (hs:fin<2^64):CC MT [.int .i64 (q:Int),.int .i64 (L:Int),.int .i64 (S:Int),.int .u64 (st:Int),.int .u64 (fin:Int),.list bu (l.map Ed.enc)]=some (aN L S st (fin|||2^q) l):=by
 refine awf ?_;unfold ah7;refine bT (bU (by omega)) ?_;rw[Int.toNat_natCast,G0 hq,u64_or hs (mW (by omega) hq)];rfl
theorem awx (h:S≤64):CC Gk [.int .i64 (L:Int),.int .i64 (S:Int)]=some (.bool false::aN L S 0 0 []):=by
 refine ah4 ?_;unfold X9;exact bF (cJ (by omega)) rfl
theorem awy (h:64<S):CC Gk [.int .i64 (L:Int),.int .i64 (S:Int)]=some [.bool true]:=by
 refine ah4 ?_;unfold X9;exact bT (bU (by omega)) rfl
def ig (fin:Nat) (f:Nat→Bool) (off:Nat):Nat→Nat
 | 0=>fin
 | i+1=>if f i=true then ig fin f off i|||2^(i+off) else ig fin f off i
theorem Yj {f:Nat→Bool} {off:Nat}: ∀{n j:Nat},(ig fin f off n).testBit j=(fin.testBit j||(decide (off≤j∧j<n+off)&&f (j-off)))
 | 0,j=>by
  rw[yQ];simp[ig]
 | n+1,j=>by
  unfold ig;by_cases hf:f n=true
  ·rw[ah hf,Eh,Yj,yJ];by_cases hj:j=n+off
   ·subst hj;rw[bU (p:=n+off=n+off) rfl,bU (p:=off≤n+off∧n+off<n+1+off) (by omega),show n+off-off=n by omega,hf];simp
   ·rw[cJ (p:=n+off=j) (by omega)];have:(off≤j∧j<n+off)↔(off≤j∧j<n+1+off):=by omega
    simp only[this,Bool.or_false]
  ·rw[ag hf,Yj];by_cases hj:j=n+off
   ·subst hj;rw[show n+off-off=n by omega,Bool.eq_false_iff.2 hf];simp
   ·have:(off≤j∧j<n+off)↔(off≤j∧j<n+1+off):=by omega
    simp only[this]
theorem JM {f:Nat→Bool} {off k:Nat} (hf:fin<2^k): ∀{n:Nat},n+off≤k→ig fin f off n<2^k
 | 0,_=>hf
 | n+1,h=>by
  unfold ig;have ih:=JM (f:=f) (off:=off) hf (n:=n) (by omega);split
  ·exact yM ih (mW (by omega) (by omega))
  ·exact ih
theorem awz {n off:Nat} {f:Nat→Bool} (ho:n+off≤64) (hs:fin<2^64):CC Gn [.list ao (bV n f),.int .i64 (off:Int),.int .i64 (L:Int),.int .i64 (S:Int),.int .u64 (st:Int),.int .u64 (fin:Int),.list bu (l.map Ed.enc)]=some (aN L S st (ig fin f off n) l):=by
 refine awi ?_;unfold ah8;rw[show (bV n f).length=n from db];refine bs (eh n (fun i=>((i:Int),(L:Int),(S:Int),(st:Int),(ig fin f off i:Int),l.map Ed.enc)) ((n:Int),false,(L:Int),(S:Int),(st:Int),(ig fin f off n:Int),l.map Ed.enc) (fun i hi=> ?_) ?_) ?_
 ·simp only[Ya,JE,un];refine bT (cO hi) ?_;refine bs (nr hi) ?_;have bf:=JM (f:=f) (off:=off) hs (n:=i) (by omega);cases hf:f i with
  | true=>
   refine bT rfl ?_;rw[qP (by omega)];refine bs (aww (by omega) bf) ?_;rw[cG (by omega),show ig fin f off (i+1)=ig fin f off i|||2^(i+off) from ah hf];rfl
  | false=>
   refine bF rfl ?_;rw[cG (by omega),show ig fin f off (i+1)=ig fin f off i from ag (by rw[hf];simp)]
 ·simp only[Ya,JE,un];refine bF (bt (az _)) ?_;rw[bt (az _)]
 ·rfl
def qb (a:Da) (off p:Nat):List Ed:=tab a.L fun x=>gI (p+off) x (a.nx p x+off)
def eH (a:Da) (off:Nat):List Ed:=fm a.n (qb a off)
theorem yu {a:Da} {off:Nat} {e:Ed}:e∈eH a off↔∃p x,p<a.n∧x<a.L∧e=gI (p+off) x (a.nx p x+off):=by
 unfold eH qb;rw[aie];constructor
 ·rintro ⟨p,hp,he⟩;obtain ⟨x,hx,rfl⟩:=uD.1 he;exact ⟨p,x,hp,hx,rfl⟩
 ·rintro ⟨p,x,hp,hx,rfl⟩;exact ⟨p,hp,uD.2 ⟨x,hx,rfl⟩⟩
theorem uX {a:Da} (h:a.Ok) {off:Nat} {n:Nat}:(fm n (qb a off)).length≤n*6:=Yi fun p _=>by unfold qb;rw[db];exact h.l6
theorem aii {a:Da} (h:a.Ok) {off:Nat} (ho:off≤1000) (hl:l.length≤100000):CC Gl (dN a [.int .i64 (off:Int),.int .i64 (L:Int),.int .i64 (S:Int),.int .u64 (st:Int),.int .u64 (fin:Int),.list bu (l.map Ed.enc)])=some (aN L S st fin (l++eH a off)):=by
 have hn:=h.cU;have h6:=h.l6;refine awp ?_;unfold aia;rw[show a.bz.length=a.n from db];refine bs (yr a.n (fun i=>((i:Int),(L:Int),(S:Int),(st:Int),(fin:Int),(l++fm i (qb a off)).map Ed.enc)) ((a.n:Int),false,(L:Int),(S:Int),(st:Int),(fin:Int),(l++eH a off).map Ed.enc) (by rw[aid,j4];rfl) (fun p hp=> ?_) ?_) ?_
 ·have hlen:=uX h (off:=off) (n:=p);simp only[Yc,JI,un];refine bT (cO hp) ?_;refine bs (nr hp) ?_;rw[show (ew a.L (a.nx p)).toList=tab a.L fun x=>nV (a.nx p x) from rfl,db];refine bs (yr a.L (fun i=>((i:Int),(L:Int),(S:Int),(st:Int),(fin:Int),((l++fm p (qb a off))++tab i fun x=>gI (p+off) x (a.nx p x+off)).map Ed.enc)) ((a.L:Int),false,(L:Int),(S:Int),(st:Int),(fin:Int),((l++fm p (qb a off))++qb a off p).map Ed.enc) (by rw[Hd,j4];rfl) (fun x hx=> ?_) ?_) ?_
  ·have hq:=h.fN hp hx;simp only[Yb,JH,un];refine bT (cO hx) ?_;refine bs (nr hx) ?_;rw[show (nV (a.nx p x)).toInt=((a.nx p x:Nat):Int) from rfl,qP (by omega),qP (by omega)];refine bs (aif (by rw[dd,dd,db];omega)) ?_;rw[cG (by omega),gi,←fJ];rfl
  ·simp only[Yb,JH,un];refine bF (bt (az _)) ?_;rw[bt (az _)];rfl
  ·simp only[un];rw[cG (by omega),PF,←fJ]
 ·simp only[Yc,JI,un];refine bF (bt (az _)) ?_;rw[bt (az _)];rfl
 ·rfl
def o5 (n:Nat) (f:Nat→Bool) (to:Nat) (l:List Ed):List Ed:=l.flatMap fun e=>if e.t.toNat<n∧f e.t.toNat=true then [⟨e.f,e.l,(to:Int)⟩] else []
theorem aij {n to:Nat} {f:Nat→Bool} {e:Ed}:e∈o5 n f to l↔∃e'∈l,e'.t.toNat<n∧f e'.t.toNat=true∧e=⟨e'.f,e'.l,(to:Int)⟩:=by
 unfold o5;rw[List.mem_flatMap];constructor
 ·rintro ⟨a,ha,h⟩;split at h
  ·next c=>exact ⟨a,ha,c.1,c.2,by simpa using h⟩
  ·cases h
 ·rintro ⟨a,ha,h1,h2,h3⟩;exact ⟨a,ha,by rw[ah ⟨h1,h2⟩];simpa using h3⟩
theorem Yk {n to:Nat} {f:Nat→Bool}: ∀{l:List Ed},(o5 n f to l).length≤l.length
 | []=>by simp[o5]
 | e::l=>by
  have ih:=Yk (n:=n) (to:=to) (f:=f) (l:=l);unfold o5 at*
  rw[yI,dd,List.length_cons];split
  ·rw[List.length_singleton];omega
  ·rw[List.length_nil];omega
theorem awA {n to i:Nat} {f:Nat→Bool} (hi:i<l.length):o5 n f to (l.take (i+1))=o5 n f to (l.take i)++(if l[i].t.toNat<n∧f l[i].t.toNat=true then [⟨l[i].f,l[i].l,(to:Int)⟩] else []):=by
 unfold o5;rw[Kv hi,List.flatMap_append];simp
theorem awB {n to:Nat} {f:Nat→Bool} (hE: ∀e∈l,0≤e.f∧0≤e.l∧0≤e.t) (hl:l.length≤100000) (hn:n≤1000):CC MP [.list ao (bV n f),.int .i64 (to:Int),.int .i64 (L:Int),.int .i64 (S:Int),.int .u64 (st:Int),.int .u64 (fin:Int),.list bu (l.map Ed.enc)]=some (aN L S st fin (l++o5 n f to l)):=by
 refine aws ?_;unfold aib;refine bT (by rw[fp,wc,cH];omega) ?_;rw[cH];refine bs (yr l.length (fun i=>((i:Int),(L:Int),(S:Int),(st:Int),(fin:Int),(l++o5 n f to (l.take i)).map Ed.enc)) ((l.length:Int),false,(L:Int),(S:Int),(st:Int),(fin:Int),(l++o5 n f to l).map Ed.enc) (by rw[List.take_zero,show o5 n f to []=[] from rfl,j4];rfl) (fun i hi=> ?_) ?_) ?_
 ·simp only[Ye,JK,un];refine bT (cO hi) ?_;refine (eu (i:=i) (v:=l[i].enc) (by simp[hi])).trans ?_;obtain ⟨e1,e2,e3⟩:=hE l[i] (ff hi);have hlen:=Yk (n:=n) (to:=to) (f:=f) (l:=l.take i);have akQ:=List.length_take_le i l;rw[Ed.mM,Ed.mN,Ed.mO,awA hi,show (bV n f).length=n from db];obtain ⟨t,ht⟩:=Int.eq_ofNat_of_zero_le e3;obtain ⟨p,hp⟩:=Int.eq_ofNat_of_zero_le e1;obtain ⟨x,hx⟩:=Int.eq_ofNat_of_zero_le e2;rw[ht,hp,hx,Int.toNat_natCast];by_cases c:t<n
  ·refine bT (cO c) ?_;refine bs (nr c) ?_;cases hf:f t with
   | true=>
    refine bT rfl ?_;refine bs (aif (by rw[dd];omega)) ?_;rw[cG (by omega),ah ⟨c,rfl⟩,←fJ];rfl
   | false=>
    refine bF rfl ?_;rw[cG (by omega),ag (by simp),j4]
  ·refine bF (bt (by omega)) ?_;rw[cG (by omega),ag (fun h=>c h.1),j4]
 ·simp only[Ye,JK,un];refine bF (bt (az _)) ?_;rw[bt (az _),u6]
 ·rfl
end
theorem aik {a:Da} (h:a.Ok) (hs:a.n≤64):CC Cv (dh a)=some (aN a.L a.n (2^a.st) (ig 0 a.fin 0 a.n) (eH a 0)):=by
 have h6:=h.l6;have b9:=h.s;refine aic ?_;unfold Yg;refine bs (Pc (by omega)) ?_;rw[show a.bI.length=a.n from db];refine bs (eh a.n (fun i=>((i:Int),(ig 0 a.fin 0 i:Int),(fm i (qb a 0)).map Ed.enc)) ((a.n:Int),false,(ig 0 a.fin 0 a.n:Int),(eH a 0).map Ed.enc) (fun p hp=> ?_) ?_) ?_
 ·have hlen:=uX h (off:=0) (n:=p);simp only[A9,yq,un];refine bT (cO hp) ?_;refine bs (nr hp) ?_;have bf:=JM (f:=a.fin) (off:=0) (fin:=0) (k:=64) (by omega) (n:=p) (by omega);have key: ∀(F:Nat),((idx a.bz (p:Int)).bind fun x5=>
   (Loop (A8 CC (p:Int) (a.n:Int) (p:Int) x5.toList (x5.toList.length:Int) (a.L:Int) (a.st:Int) a.bI a.bz 0 0 0 0 (a.L:Int) (a.n:Int) ((2^a.st:Nat):Int) (F:Int) ([]:List V)) (0,(fm p (qb a 0)).map Ed.enc)).bind (un fun (kL:Int)=>un fun (oh:Bool) (A6:List V)=>
    some (Sum.inl (wrap .i64 ((p:Int)+1),(F:Int),A6):(Int×Int×List V) ⊕ (Int×Bool×Int×List V))))=some (Sum.inl (((p+1:Nat):Int),(F:Int),(fm (p+1) (qb a 0)).map Ed.enc)):=by
   intro F;refine bs (nr hp) ?_;rw[show (ew a.L (a.nx p)).toList=tab a.L fun x=>nV (a.nx p x) from rfl,db];refine bs (yr a.L (fun i=>((i:Int),(fm p (qb a 0)++tab i fun x=>gI (p+0) x (a.nx p x+0)).map Ed.enc)) ((a.L:Int),false,(fm p (qb a 0)++qb a 0 p).map Ed.enc) (by rw[Hd,j4];rfl) (fun x hx=> ?_) ?_) ?_
   ·simp only[A8,A7,un];refine bT (cO hx) ?_;refine bs (nr hx) ?_;refine bT (cap (by rw[cH,dd,db];simp;omega) (by omega)) ?_;rw[show (nV (a.nx p x)).toInt=((a.nx p x:Nat):Int) from rfl,JL,cG (by omega),gi,←fJ];rfl
   ·simp only[A8,A7,un];refine bF (bt (az _)) ?_;rw[bt (az _)];rfl
   ·simp only[un];rw[cG (by omega),PF]
  unfold DT;cases hf:a.fin p with
  | true=>
   refine bT rfl ?_;refine bs (Pc (by omega)) ?_;rw[show (V.nth [V.int .u64 ((2^p:Nat):Int)] 0).toInt=((2^p:Nat):Int) from rfl,u64_or bf (mW (by omega) (by omega)),show ig 0 a.fin 0 (p+1)=ig 0 a.fin 0 p|||2^p from ah hf];exact key _
  | false=>
   refine bF rfl ?_;rw[show ig 0 a.fin 0 (p+1)=ig 0 a.fin 0 p from ag (by rw[hf];simp)];exact key _
 ·simp only[A9,yq,un];refine bF (bt (az _)) ?_;rw[bt (az _)];rfl
 ·rfl
def oz (E:List Ed):Nat→List Nat→Nat→Prop
 | i,[],k=>i=k
 | i,x::w,k=> ∃j,gI i x j∈E∧oz E j w k
theorem oz.ext {A B:List Ed} (h: ∀e,e∈A→e∈B): ∀{w:List Nat} {i k:Nat},oz A i w k→oz B i w k
 | [],_,_,p=>p
 | _::_,_,_,⟨j,h1,h2⟩=>⟨j,h _ h1,oz.ext h h2⟩
theorem oz.app {E:List Ed}: ∀{v w:List Nat} {i k:Nat},oz E i (v++w) k↔∃j,oz E i v j∧oz E j w k
 | [],w,i,k=>by simp[oz]
 | x::v,w,i,k=>by
  simp only[List.cons_append,oz];constructor
  ·rintro ⟨j,h1,h2⟩;obtain ⟨m,h3,h4⟩:=oz.app.1 h2;exact ⟨m,⟨j,h1,h3⟩,h4⟩
  ·rintro ⟨m,⟨j,h1,h3⟩,h4⟩;exact ⟨j,h1,oz.app.2 ⟨m,h3,h4⟩⟩
theorem awC {p x q p' x' q':Nat}:gI p x q=gI p' x' q'↔p=p'∧x=x'∧q=q':=by
 unfold gI;simp only[Ed.mk.injEq];omega
theorem awD {e:Ed} (h1:0≤e.f) (h2:0≤e.l) (h3:0≤e.t):e=gI e.f.toNat e.l.toNat e.t.toNat:=by
 unfold gI;cases e;simp only[Ed.mk.injEq] at*
 omega
theorem Yl {E:List Ed} (hE: ∀e∈E,0≤e.f∧0≤e.l∧0≤e.t): ∀(w:List Nat) (s k:Nat),(w.foldl (sn E) s).testBit k=true↔∃i,s.testBit i=true∧oz E i w k
 | [],s,k=>by simp[oz]
 | x::w,s,k=>by
  rw[List.foldl_cons,Yl hE w];constructor
  ·rintro ⟨j,h1,h2⟩;unfold sn at h1;rw[Iu,yL] at h1;obtain ⟨e,he,h3⟩:=h1;simp only[aK,fo] at h3;obtain ⟨c1,c2,c3⟩:=hE e he;refine ⟨e.f.toNat,h3.2.1,j,?_,h2⟩;have:e=gI e.f.toNat x j:=by
    rw[awD c1 c2 c3];rw[awC];simp only[gI,Int.toNat_natCast];exact ⟨trivial,by omega,h3.2.2⟩
   exact this▸he
  ·rintro ⟨i,h1,j,h2,h3⟩;refine ⟨j,?_,h3⟩;unfold sn;rw[Iu,yL];refine ⟨_,h2,?_⟩;simp only[aK,fo,gI,Int.toNat_natCast];exact ⟨trivial,h1,trivial⟩
theorem awE {fin s:Nat}:sf fin s=true↔∃k,s.testBit k=true∧fin.testBit k=true:=by
 unfold sf;rw[nH,beq_eq_false_iff_ne];constructor
 ·intro h;obtain ⟨k,hk⟩:=Nat.exists_testBit_of_ne_zero h;rw[El,aK] at hk;exact ⟨k,hk⟩
 ·rintro ⟨k,h1,h2⟩ h0;have:(s&&&fin).testBit k=true:=by rw[El,h1,h2];rfl
  rw[h0,Nat.zero_testBit] at this;cases this
def JN (st fin:Nat) (l:List Ed) (w:List Nat):Prop:= ∃i k,st.testBit i=true∧fin.testBit k=true∧oz l i w k
section
variable {L S st fin:Nat} {l:List Ed} (h:A4 L S st fin l)
include h
theorem awF (hn: ¬jV (dZ L S st fin l) L S):(iz (dZ L S st fin l) L S).Ok:=by
 unfold iz;rw[ag hn];exact fc (AN (uW h) hn)
theorem awG (hn: ¬jV (dZ L S st fin l) L S):(iz (dZ L S st fin l) L S).L=L:=by
 unfold iz;rw[ag hn];exact ot (AN (uW h) hn)
theorem awH (hn: ¬jV (dZ L S st fin l) L S) {w:List Nat} (hw:WL L w):(iz (dZ L S st fin l) L S).acc (iz (dZ L S st fin l) L S).st w=true↔JN st fin l w:=by
 have aw:=AN (uW h) hn;unfold iz;rw[ag hn,agb aw hw,show (ib (dZ L S st fin l) L S).st=0 from rfl,atG (uW h) hw];show sf fin (w.foldl (sn (rR l)) st)=true↔_;have hE: ∀e∈rR l,0≤e.f∧0≤e.l∧0≤e.t:=fun e he=>by
  have:=h.E e (yh.1 he);unfold Ed.In at this;exact ⟨this.1,this.2.2.2.2.1,this.2.2.1⟩
 rw[awE];unfold JN;constructor
 ·rintro ⟨k,h1,h2⟩;obtain ⟨i,h3,h4⟩:=(Yl hE w st k).1 h1;exact ⟨i,k,h3,h2,h4.ext fun e he=>yh.1 he⟩
 ·rintro ⟨i,k,h1,h2,h3⟩;exact ⟨k,(Yl hE w st k).2 ⟨i,h1,h3.ext fun e he=>yh.2 he⟩,h2⟩
theorem awI (hS:S≤9): ¬jV (dZ L S st fin l) L S:=fun ho=>by
 have h1:=Dp (uW h) (2^S);have h2:2^S≤2^9:=sb (by omega) hS;have h3:(512:Nat)<(aj L (sn (dZ L S st fin l).E) (dZ L S st fin l).st (2^S)).length:=ho;have h4:(2:Nat)^9=512:=by decide
 omega
end
end Go.AM
