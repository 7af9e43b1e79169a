/-
  Functions of the program, lifted to plain data.
-/
import Derived.Sort.AssemblyPlain
import Derived.Test.YtmknicoledcapaaGreatDoorP9
set_option linter.unusedVariables false
set_option linter.unusedSimpArgs false
set_option linter.unusedSectionVars false
set_option maxRecDepth 100000
namespace Go.AM
open Go.IntKind (wrap)
open Go.Proofs
theorem ach:pb pR:=aS (by kernel_rfl)
theorem amW:pS pR:=aS (by kernel_rfl)
theorem amX:pU pR:=aS (by kernel_rfl)
theorem amY:pV pR:=aS (by kernel_rfl)
theorem amZ:pW pR:=aS (by kernel_rfl)
theorem am0:pX pR:=aS (by kernel_rfl)
theorem am1:iv NP 0 pR.l0 pR.l1 pR.l2 42:=aS (by kernel_rfl)
theorem am2:pY NP 42:=aS (by kernel_rfl)
theorem am3:iv NP 43 pR.r0 pR.r1 pR.r2 74:=aS (by kernel_rfl)
theorem am4:mZ pR:=qW ach amW amX amY amZ am0 (by decide)
theorem am5:nW NP pR:=qX (by decide) am1 am2 am3 (by decide) ach
theorem uH:CC 117 [.str []]=some [vI 0,vI 0,b8 [],vI 0,vI 0,b8 [],vI 0,vI 2]:=aS (by kernel_rfl)
theorem am6:CC 75 []=some [.list 132 zG]:=aS (by kernel_rfl)
theorem am7:∀k,k<14→mZ (idK k):=fun k hk=>by
 rcases(by omega:k=0∨k=1∨k=2∨k=3∨k=4∨k=5∨k=6∨k=7∨k=8∨k=9∨k=10∨k=11∨k=12∨k=13)with rfl|rfl|rfl|rfl|rfl|rfl|rfl|rfl|rfl|rfl|rfl|rfl|rfl|rfl
 ·exact am8
 ·exact am9
 ·exact ana
 ·exact anb
 ·exact anc
 ·exact ane
 ·exact anf
 ·exact ang
 ·exact anh
 ·exact ani
 ·exact anj
 ·exact ank
 ·exact anl
 ·exact am4
theorem aci:NQ zG zH where
 zI:=am6
 len:=rfl
 cls:=fun c hc=>by
  rcases(by omega:c=0∨c=1∨c=2∨c=3∨c=4∨c=5∨c=6∨c=7∨c=8∨c=9∨c=10∨c=11∨c=12∨c=13∨c=14∨c=15∨c=16)with rfl|rfl|rfl|rfl|rfl|rfl|rfl|rfl|rfl|rfl|rfl|rfl|rfl|rfl|rfl|rfl|rfl
  ·exact⟨_,rfl,_,_,_,_,uI anm uH⟩
  ·exact⟨_,rfl,_,_,_,_,uI NR uH⟩
  ·exact⟨_,rfl,_,_,_,_,D8 NR acj⟩
  ·exact⟨_,rfl,_,_,_,_,D8 NR ack⟩
  ·exact⟨_,rfl,_,_,_,_,D8 NR ano⟩
  ·exact⟨_,rfl,_,_,_,_,uI acj uH⟩
  ·exact⟨_,rfl,_,_,_,_,uI ack uH⟩
  ·exact⟨_,rfl,_,_,_,_,D8 acm acn⟩
  ·exact⟨_,rfl,_,_,_,_,uI acm uH⟩
  ·exact⟨_,rfl,_,_,_,_,uI acn uH⟩
  ·exact⟨_,rfl,_,_,_,_,uI anp uH⟩
  ·exact⟨_,rfl,_,_,_,_,D8 aco acp⟩
  ·exact⟨_,rfl,_,_,_,_,uI acp uH⟩
  ·exact⟨_,rfl,_,_,_,_,uI aco uH⟩
  ·exact⟨_,rfl,_,_,_,_,uI anq uH⟩
  ·exact⟨_,rfl,_,_,_,_,D8 anr ans⟩
  ·exact⟨_,rfl,_,_,_,_,uI am5 uH⟩
 ok:=fun c hc d hd=>by
  obtain⟨k,hk,rfl⟩:=gm.1 hd;exact am7 k ((by decide:∀c,c<17→∀k∈Uk c,k<14) c hc k hk)
 il:=fun c hc=>by
  rw[zH,cT];exact(by decide:∀c,c<17→(Uk c).length≤2) c hc
noncomputable def HI(C:af)(t5:Int)(Ul:LV)(t6:Int)(dV:LV){β:Type}(kn:(Int×LV)→Option β)(kr:(Int×Bool×LV)→Option β):Option β:=
 bif decide (t6<t5)then
  aA Ul t6 fun x2=>
  (C 76 [.str ((x2.cell 0).toStr),.bool ((x2.cell 1).toBool),vI ((x2.cell 2).toInt),vI ((x2.cell 3).toInt),.str ((x2.cell 4).toStr),.str ((x2.cell 5).toStr)]).bind fun r3=>
  bif Nat.ble ((dV.length+([.agg [.str (gS r3),.bool (gB (r3.drop 1)),.list 142 (gL (r3.drop 4)),vI (gI ((r3.drop 1).drop 1)),vI (gI (((r3.drop 1).drop 1).drop 1))]]:LV).length)*64) aR then
  kn (wrap .i64 (t6+1),dV++([.agg [.str (gS r3),.bool (gB (r3.drop 1)),.list 142 (gL (r3.drop 4)),vI (gI ((r3.drop 1).drop 1)),vI (gI (((r3.drop 1).drop 1).drop 1))]]:LV))
  else none
 else
  kr (t6,decide (t6<t5),dV)
noncomputable def NS(C:af)(t5:Int)(Ul:LV):=un fun t6 dV=>HI C t5 Ul t6 dV (fun y=>some (Sum.inl y)) (fun r=>some (Sum.inr r))
noncomputable def ant(C:af):cp:=bz 49 Um [Q0,Q1,Q1,Q0] [[1,0,0,0,4]] (@HI C) bh
theorem anu(C:af):bn C (ant C) 46 (Lp [1,1,0,1,0,0] 46):=bA Um [Q0,Q1,Q1,Q0] [[1,0,0,0,4]] (@HI C) (ba an)
noncomputable def acq(C:af):Option LV:=
 (C 75 []).bind fun r1=>
 (Loop (NS C ((gL r1).length:Int) (gL r1)) (0,([]:LV))).bind (un fun mr=>un fun(mu:Bool) (anv:LV)=>
  some [.list 135 anv])
theorem anw{r:Option LV}(h:acq CC=r):CC 46 []=r:=bj (bp (anu CC) an) h
noncomputable def anx(C:af)(eB:Int):Option LV:=
 bif decide (eB≥1)then
  some [.bool (decide (eB≤1048576))]
 else
  some [.bool false]
theorem acr{eB:Int}{r:Option LV}(h:anx CC eB=r):CC 44 [vI eB]=r:=bj (L:=bh) an h
noncomputable def HL(C:af)(eB t33 iS:Int)(dD na lC nc nf:LV)(t34:Int)(xQ:LV){β:Type}(kn:(Int×LV)→Option β)(kr:(Int×Bool×LV)→Option β):Option β:=
 bif decide (t34<t33)then
  (C 47 [vI iS,ah dD,cY na,ab lC,av nc,av nf,vI t34,vI eB]).bind fun r5=>
  bif ((gI (((r5.drop 1).drop 1).drop 1)):Int) != 0 then
  bif Nat.ble ((xQ.length+([vI (wrap .i64 (0-(gI (((r5.drop 1).drop 1).drop 1))))]:LV).length)*8) aR then
   kn (wrap .i64 (t34+1),xQ++([vI (wrap .i64 (0-(gI (((r5.drop 1).drop 1).drop 1))))]:LV))
  else none
  else
  bif (gB r5)then
   bif Nat.ble ((xQ.length+([vI 1]:LV).length)*8) aR then
   kn (wrap .i64 (t34+1),xQ++([vI 1]:LV))
   else none
  else
   bif Nat.ble ((xQ.length+([vI 0]:LV).length)*8) aR then
   kn (wrap .i64 (t34+1),xQ++([vI 0]:LV))
   else none
 else
  kr (t34,decide (t34<t33),xQ)
noncomputable def NU(C:af)(eB t33 iS:Int)(dD na lC nc nf:LV):=un fun t34 xQ=>HL C eB t33 iS dD na lC nc nf t34 xQ (fun y=>some (Sum.inl y)) (fun r=>some (Sum.inr r))
noncomputable def anz(C:af):cp:=bz 177 Un [Q0,Q0,Q1,Q0,Q0,Q0,Q0,Q0,Q0,Q1] [[1,2,0,0,4,5,6,7,8,9,0]] (@HL C) bh
theorem anA(C:af):bn C (anz C) 20 (Lp [1,1,1,1,1,1,0,1,0,0] 20):=bA Un [Q0,Q0,Q1,Q0,Q0,Q0,Q0,Q0,Q0,Q1] [[1,2,0,0,4,5,6,7,8,9,0]] (@HL C) (ba an)
noncomputable def D9(C:af)(cD cE:Int)(cd cH:LV)(eB:Int):Option LV:=
 (C 26 [vI cD,vI cE,av cd,ah cH]).bind fun r1=>
 bif ((gI r1):Int) != 0 then
  some [vI (gI r1),ab ([]:LV)]
 else
  (C 44 [vI eB]).bind fun r2=>
  bif !(gB r2)then
  some [vI 1,ab ([]:LV)]
  else
  (C 45 [vI cD,vI cE,av cd,ah cH]).bind fun r3=>
  bif ((gI (r3.drop 6)):Int) != 0 then
   some [vI (gI (r3.drop 6)),ab ([]:LV)]
  else
   (C 46 []).bind fun r4=>
   (Loop (NU C eB ((gL r4).length:Int) (gI r3) (gL (r3.drop 1)) (gL ((r3.drop 1).drop 1)) (gL (((r3.drop 1).drop 1).drop 1)) (gL ((((r3.drop 1).drop 1).drop 1).drop 1)) (gL (((((r3.drop 1).drop 1).drop 1).drop 1).drop 1))) (0,([]:LV))).bind (un fun jD=>un fun(ng:Bool) (anB:LV)=>
    some [vI 0,ab anB])
theorem acs{cD cE:Int}{cd cH:LV}{eB:Int}{r:Option LV}(h:D9 CC cD cE cd cH eB=r):CC 20 [vI cD,vI cE,av cd,ah cH,vI eB]=r:=bj (bp (anA CC) an) h
noncomputable def Ea(C:af)(cD cE:Int)(cd cH:LV):Option LV:=
 (C 20 [vI cD,vI cE,av cd,ah cH,vI 3000]).bind fun r1=>
 bif ((gI r1):Int) != 0 then
  some [ab ([]:LV),.bool false]
 else
  bif (((gL (r1.drop 1)).length:Int):Int) != 17 then
  some [ab ([]:LV),.bool false]
  else
  bif decide (16≤((gL (r1.drop 1)).length:Int))then
   some [ab (((gL (r1.drop 1)).drop 0).take (16-0)),.bool true]
  else none
theorem acu{cD cE:Int}{cd cH:LV}{r:Option LV}(h:Ea CC cD cE cd cH=r):CC 7 [vI cD,vI cE,av cd,ah cH]=r:=bj (L:=bh) an h
section
variable {rows:LV}{kV:Nat→List ej}(hC:NQ rows kV)
include hC
theorem anC:∃l:LV,l.length=17∧CC 46 []=some [.list 135 l]:=by
 have hl:=hC.len;have key:=nh (step:=NS CC (rows.length:Int) rows) (fun i y=> ∃l:LV,y=((i:Int),l)∧l.length=i) (fun r=> ∃l:LV,l.length=17∧r=((rows.length:Int),false,l)) 17 0 (0,([]:LV)) (fun i _ hi y hy=> ?_) (fun y hy=> ?_) ⟨[],rfl,rfl⟩
 ·obtain⟨r,e,l,h1,rfl⟩:=key;refine⟨l,h1,anw ?_⟩;unfold acq;exact bs hC.zI (bs e rfl)
 ·obtain⟨l,rfl,h1⟩:=hy;obtain⟨x,hx,a,b,e,f,lD⟩:=hC.cls i (by omega);simp only[NS,HI,un];exact⟨_,bT (bt (by omega)) ((bJ hx).trans (bs lD (bT (cap (a:=l.length) (b:=1) (by omega) (by omega)) rfl))),_,dm (bu (by omega)) rfl,by rw[gY,h1];rfl⟩
 ·obtain⟨l,rfl,h1⟩:=hy;simp only[NS,HI,un];rw[hl];exact⟨_,bF rfl rfl,l,by omega,rfl⟩
end
def NV:Nat→Nat
 |0=>1
 |n+1=>(n+1)*NV n
theorem acv:∀n,0<NV n
 |0=>Nat.one_pos
 |n+1=>Nat.mul_pos (Nat.succ_pos n) (acv n)
theorem Uo{p:Nat}(h1:1≤p):∀n,p≤n→p ∣ NV n
 |0,h=>by omega
 |n+1,h=>by
  by_cases c:p=n+1
  ·subst c;exact Nat.dvd_mul_right _ _
  ·exact Nat.dvd_trans (Uo h1 n (by omega)) (Nat.dvd_mul_left _ _)
theorem Up:∃N,400<N∧∀p,1≤p→p≤400→p ∣ N:=
 ⟨NV 401,lZ (Nat.lt_succ_self 400) (Nat.le_of_dvd (acv 401) (Uo (by omega) 401 (aW _))),fun _ h1 h2=>Uo h1 401 (by omega)⟩
noncomputable def eN:Nat:=Classical.choose Up
theorem acw:400<eN:=(Classical.choose_spec Up).1
theorem anD{p:Nat}(h1:1≤p)(h2:p≤400):p ∣ eN:=(Classical.choose_spec Up).2 p h1 h2
theorem anE{K:Nat}{f:Nat→Nat}(h:∀i,f i<K):∃i j,i<j∧j≤K∧f i=f j:=by
 refine Classical.byContradiction fun hn=> ?_;have bE:∀i j,i<j→j≤K→f i≠f j:=fun i j Bp hj e=>hn ⟨i,j,Bp,hj,e⟩;have hd:((List.range (K+1)).map f).Nodup:=by
  refine GG.2 (List.nodup_range.imp_of_mem fun {a b} ha hb sj e=> ?_);grind
 have:=za (l₂:=List.range K) hd fun x hx=>by
  grind
 grind
section
variable {K:Nat}{mul:Nat→Nat→Nat}(h:Tb K mul)(ha:∀i j k,i<K→j<K→k<K→mul (mul i j) k=mul i (mul j k)){x:Nat}(hx:x<K)
include h hx ha
theorem acx:mul (pw mul x (eN-1)) (pw mul x (eN-1))=pw mul x (eN-1):=by
 have h4:=h.k4;have hN:=acw;obtain⟨i,j,Bp,hj,e⟩:=anE (xR h hx);have step:∀n,pw mul x (i+n)=pw mul x (j+n):=fun n=>by
  induction n with
  |zero=>exact e
  |succ n ih=>exact congrArg (fun y=>mul y x) ih
 have Uq:∀c m,i≤m→pw mul x (m+(j-i)*c)=pw mul x m:=fun c=>by
  induction c with
  |zero=>grind
  |succ c ih=>
   intro m hm;have h1:=step (m-i);rw[show i+(m-i)=m by omega,show j+(m-i)=m+(j-i) by omega]at h1;grind
 obtain⟨c,hc⟩:=anD (p:=j-i) (by omega) (by omega);rw[NW h ha hx,show eN-1+(eN-1)+1=(eN-1)+eN by omega];have:=Uq c (eN-1) (by omega);grind
theorem Ur(k:Nat):∀n,pw mul (pw mul x k) n=pw mul x ((k+1)*n+k)
 |0=>by rw[Nat.mul_zero,dP];rfl
 |n+1=>by
  show mul (pw mul (pw mul x k) n) (pw mul x k)=_;rw[Ur k n,NW h ha hx];grind
omit h hx ha in
theorem NX{e:Nat}(he:mul e e=e):∀n,pw mul e n=e
 |0=>rfl
 |n+1=>by
  show mul (pw mul e n) e=e;rw[NX he n,he]
theorem anF{k:Nat}(hk:mul (pw mul x k) (pw mul x k)=pw mul x k):pw mul x k=pw mul x (eN-1):=by
 have hN:=acw;have e1:=Ur h ha hx k (eN-1);have e2:=Ur h ha hx (eN-1) k;rw[NX hk]at e1;rw[NX (acx h ha hx)]at e2;grind
theorem anG{n:Nat}(hn:n≤100):CC 202 [ah (tG K mul),vI (x:Int),vI (n:Int)]=some [vI ((pw mul x (eN-1+n):Nat):Int)]:=by
 have h4:=h.k4;have l1:Loop (Eb CC (tG K mul) (x:Int) (n:Int)) (x:Int)=some (((pw mul x (eN-1):Nat):Int),false):=by
  obtain⟨k,hk⟩:=anH h ha hx;have stop:∀{i:Nat},mul (pw mul x i) (pw mul x i)=pw mul x i→Loop (Eb CC (tG K mul) (x:Int) (n:Int)) ((pw mul x i:Nat):Int)=some (((pw mul x (eN-1):Nat):Int),false):=fun {i} c=>by
   have hl:=xR h hx i;rw[←anF h ha hx c];refine gH ?_;simp only[Eb,HN];refine bs (ou hl) (bs (qY hl) (bF ?_ ?_))
   ·show(((mul (pw mul x i) (pw mul x i):Nat):Int) != ((pw mul x i:Nat):Int))=false;grind
   ·show some (Sum.inr (((pw mul x i:Nat):Int),((mul (pw mul x i) (pw mul x i):Nat):Int) != ((pw mul x i:Nat):Int)))=_;grind
  have key:∀d i,i+d=k→Loop (Eb CC (tG K mul) (x:Int) (n:Int)) ((pw mul x i:Nat):Int)=some (((pw mul x (eN-1):Nat):Int),false):=by
   intro d
   induction d with
   |zero=>
    grind
   |succ d ih=>
    intro i hi;have hl:=xR h hx i;by_cases c:mul (pw mul x i) (pw mul x i)=pw mul x i
    ·grind
    ·refine(gp ?_).trans (ih (i+1) (by omega))
     simp only[Eb,HN];refine bs (ou hl) (bs (qY hl) (bT ?_ (bs (ou hl) (bs (qY hx) rfl))));show(((mul (pw mul x i) (pw mul x i):Nat):Int) != ((pw mul x i:Nat):Int))=true;grind
  exact key k 0 (dP _)
 have l3:Loop (NZ CC (tG K mul) (x:Int) (n:Int)) (((pw mul x (eN-1):Nat):Int),0)=some (((pw mul x (eN-1+n):Nat):Int),(n:Int),false):=by
  refine eZ n (fun i=>(((pw mul x (eN-1+i):Nat):Int),(i:Int))) _ (fun i hi=> ?_) ?_
  ·simp only[NZ,HO,un];refine bT (bt hi) (bs (ou (xR h hx _)) (bs (qY hx) ?_));rw[bu (by omega)];rfl
  ·simp only[NZ,HO,un];grind
 refine anI ?_;unfold acy;refine bs l1 ?_;simp only[un];refine bF zJ ?_;exact bs l3 rfl
end
noncomputable def pT(K:Nat)(mul:Nat→Nat→Nat)(n:Nat):LV:=tab K fun i=>nV (pw mul i (eN-1+n))
def PV(K:Nat)(mul:Nat→Nat→Nat)(n:Nat)(l:LV):Prop:=l=[]∨l=pT K mul n
def sm(K:Nat)(mul:Nat→Nat→Nat)(p:List (Nat×Nat))(k:Nat)(A B:LV):Prop:= ∀j,j<k→j<p.length→(p.getD j (0,0)).1=3→((p.getD j (0,0)).2=0→A=pT K mul 0)∧((p.getD j (0,0)).2=1→B=pT K mul 1)
section
variable {K:Nat}{mul:Nat→Nat→Nat}(h:Tb K mul)(ha:∀i j k,i<K→j<K→k<K→mul (mul i j) k=mul i (mul j k))
include h ha
theorem acz{n:Nat}(hn:n≤1){t18 t24:LV}{t19 t20 t25 t26:Int}{m0 m2 m3 m4 m5 m6 m7 m8 m9 m10 m11 m12:LV}{m1 s0:Int}:Loop (N3 CC (tG K mul) t18 t19 t20 t24 t25 t26 (K:Int) m0 m1 m2 m3 m4 m5 m6 m7 m8 m9 m10 m11 m12 s0 (n:Int)) (0,List.replicate K (vI 0))=some ((K:Int),false,pT K mul n):=by
 have h4:=h.k4;refine vU (fun i a=>((i:Int),a)) K (fun i=>nV (pw mul i (eN-1+n))) (List.replicate K (vI 0)) (by simp) (fun a=>((K:Int),false,a)) (fun i hi a hl=> ?_) ?_
 ·simp only[N3,HP,un,aA,bc];refine bT (bt hi) (bs (anG h ha hi (by omega)) ((tw (by omega)).trans ?_));rw[bu (by omega),Int.toNat_natCast];rfl
 ·simp only[N3,HP,un];grind
theorem acA{p:List (Nat×Nat)}(hp:∀s∈p,tx s)(hl:p.length≤1000){A B:LV}(hA:PV K mul 0 A)(hB:PV K mul 1 B){t18 m0:LV}{t19 t20 m1:Int}:∃A' B',PV K mul 0 A'∧PV K mul 1 B'∧(A=pT K mul 0→A'=pT K mul 0)∧(B=pT K mul 1→B'=pT K mul 1)∧sm K mul p p.length A' B'∧
  Loop (HQ CC (tG K mul) t18 t19 t20 (p.map dA) (p.length:Int) m0 m1) (ov 0 A B)=some ((p.length:Int),false,[],A',B',[],[],[],[],[],[],[],[]):=by
 have h1:=h.k1;have h4:=h.k4;have key:=nh (step:=HQ CC (tG K mul) t18 t19 t20 (p.map dA) (p.length:Int) m0 m1) (fun i y=> ∃A' B',PV K mul 0 A'∧PV K mul 1 B'∧(A=pT K mul 0→A'=pT K mul 0)∧(B=pT K mul 1→B'=pT K mul 1)∧sm K mul p i A' B'∧y=ov (i:Int) A' B')
  (fun r=> ∃A' B',PV K mul 0 A'∧PV K mul 1 B'∧(A=pT K mul 0→A'=pT K mul 0)∧(B=pT K mul 1→B'=pT K mul 1)∧sm K mul p p.length A' B'∧r=((p.length:Int),false,[],A',B',[],[],[],[],[],[],[],[])) p.length 0 (ov 0 A B) (fun i _ hi y hy=> ?_) (fun y hy=> ?_) ⟨A,B,hA,hB,id,id,fun j hj=>(by omega),rfl⟩
 ·grind
 ·obtain⟨A',B',a1,a2,a3,a4,a5,rfl⟩:=hy;have bS:i<p.length:=by omega
  have hs:=hp _ (dw bS);have hg:p.getD i (0,0)=p[i]:=by grind
  have kH:=acB bS;generalize N4:p[i]=s at hs hg kH;obtain⟨k,n⟩:=s;simp only[HQ,HR,un,ov];by_cases ck:k=3
  case neg=>
   refine⟨_,bT (bt bS) (bs kH (bT ?_ rfl)),A',B',a1,a2,a3,a4,fun j hj dt hk=> ?_,?_⟩
   ·show(((k:Nat):Int) != 3)=true;grind
   ·by_cases cj:j=i
    ·grind
    ·exact a5 j (by omega) dt hk
   ·rw[bu (by omega)]
  subst ck;have gg:∀{l:LV} {m:Nat},l=pT K mul m→Nat.beq l.length 0=false:=fun {l m} hl=>by
   rw[hl,pT,en];cases hb:Nat.beq K 0 with
   |false=>rfl
   |true=>simp_all
  rcases hs.2 rfl with Bq|Bq
  ·have Bq:n=0:=Bq;subst Bq;rcases a1 with rfl|hPA
   ·have el:=acz h ha (n:=0) (by omega) (t18:=t18) (t24:=p.map dA) (t19:=t19) (t20:=t20) (t25:=(p.length:Int)) (t26:=(i:Int)) (m0:=m0) (m1:=m1) (m2:=[]) (m3:=[]) (m4:=B') (m5:=[]) (m6:=[]) (m7:=[]) (m8:=[]) (m9:=[]) (m10:=[]) (m11:=[]) (m12:=[]) (s0:=3);have aO:Nat.blt 0 (pT K mul 0).length=true:=by rw[pT,en,nF];omega
    refine⟨ov ((i+1:Nat):Int) (pT K mul 0) B',bT (bt bS) (bs kH (bF rfl (bT rfl (bT rfl (bF rfl ?_))))),pT K mul 0,B',.inr rfl,a2,fun _=>rfl,a4,fun j hj dt hk=> ?_,rfl⟩
    ·rw[tz];refine bT (gP (by omega) (by omega)) ?_;rw[Int.toNat_natCast,xo];refine bs el ?_;simp only[un];refine bT rfl (bT rfl (bT (by grind) ?_));rw[bu (by omega)];rfl
    ·by_cases cj:j=i
     ·grind
     ·exact⟨fun _=>rfl,(a5 j (by omega) dt hk).2⟩
   ·refine⟨ov ((i+1:Nat):Int) A' B',bT (bt bS) (bs kH (bF rfl (bT rfl (bT rfl (bT ?_ ?_))))),A',B',.inr hPA,a2,a3,a4,fun j hj dt hk=> ?_,rfl⟩
    ·show(!(Nat.beq A'.length 0))=true;grind
    ·rw[bu (by omega)];rfl
    ·by_cases cj:j=i
     ·grind
     ·exact a5 j (by omega) dt hk
  ·have Bq:n=1:=Bq;subst Bq;rcases a2 with rfl|hPB
   ·have el:=acz h ha (n:=1) (by omega) (t18:=t18) (t24:=p.map dA) (t19:=t19) (t20:=t20) (t25:=(p.length:Int)) (t26:=(i:Int)) (m0:=m0) (m1:=m1) (m2:=[]) (m3:=A') (m4:=[]) (m5:=[]) (m6:=[]) (m7:=[]) (m8:=[]) (m9:=[]) (m10:=[]) (m11:=[]) (m12:=[]) (s0:=3);have aO:Nat.blt 0 (pT K mul 1).length=true:=by rw[pT,en,nF];omega
    refine⟨ov ((i+1:Nat):Int) A' (pT K mul 1),bT (bt bS) (bs kH (bF rfl (bT rfl (bT rfl (bF rfl ?_))))),A',pT K mul 1,a1,.inr rfl,a3,fun _=>rfl,fun j hj dt hk=> ?_,rfl⟩
    ·rw[tz];refine bT (gP (by omega) (by omega)) ?_;rw[Int.toNat_natCast,xo];refine bs el ?_;simp only[un];refine bT rfl (bT rfl (bT (by grind) ?_));rw[bu (by omega)];rfl
    ·by_cases cj:j=i
     ·grind
     ·exact⟨(a5 j (by omega) dt hk).1,fun _=>rfl⟩
   ·refine⟨ov ((i+1:Nat):Int) A' B',bT (bt bS) (bs kH (bF rfl (bT rfl (bT rfl (bT ?_ ?_))))),A',B',a1,.inr hPB,a3,a4,fun j hj dt hk=> ?_,rfl⟩
    ·show(!(Nat.beq B'.length 0))=true;grind
    ·rw[bu (by omega)];rfl
    ·by_cases cj:j=i
     ·grind
     ·exact a5 j (by omega) dt hk
 ·obtain⟨A',B',a1,a2,a3,a4,a5,rfl⟩:=hy;rw[dP]at*
  simp only[HQ,HR,un,ov];grind
omit h ha in
theorem sm.mono{p:List (Nat×Nat)}{k:Nat}{A B A' B':LV}(hh:sm K mul p k A B)(h1:A=pT K mul 0→A'=pT K mul 0)(h2:B=pT K mul 1→B'=pT K mul 1):sm K mul p k A' B':=fun j hj hl e=>⟨fun e2=>h1 ((hh j hj hl e).1 e2),fun e2=>h2 ((hh j hj hl e).2 e2)⟩
theorem anJ{p q:List (Nat×Nat)}(hp:∀s∈p,tx s)(hq:∀s∈q,tx s)(N5:p.length≤1000)(N6:q.length≤1000){one:Int}:∃A B,PV K mul 0 A∧PV K mul 1 B∧sm K mul p p.length A B∧sm K mul q q.length A B∧
  CC 160 [ah (tG K mul),vI one,.list 242 [cZ (p.map dA),cZ (q.map dA)]]=some (N7 (tG K mul) one A B):=by
 obtain⟨A1,B1,a1,a2,a3,a4,a5,e1⟩:=acA h ha hp N5 (A:=[]) (B:=[]) (.inl rfl) (.inl rfl) (t18:=[cZ (p.map dA),cZ (q.map dA)]) (m0:=tG K mul) (t19:=2) (t20:=0) (m1:=one);obtain⟨A2,B2,b1,b2,b3,b4,b5,e2⟩:=acA h ha hq N6 a1 a2 (t18:=[cZ (p.map dA),cZ (q.map dA)]) (m0:=tG K mul) (t19:=2) (t20:=1) (m1:=one);refine⟨A2,B2,b1,b2,a5.mono b3 b4,b5,anK ?_⟩;unfold acC;have s1:Br CC (tG K mul) [cZ (p.map dA),cZ (q.map dA)] 2 (tG K mul) one (ov 0 [] [])=some (.inl (ov 1 A1 B1)):=by
  simp only[Br,Ec,un,ov];refine bT rfl (bs rfl ?_);rw[V.eo,cT];exact bs e1 rfl
 have s2:Br CC (tG K mul) [cZ (p.map dA),cZ (q.map dA)] 2 (tG K mul) one (ov 1 A1 B1)=some (.inl (ov 2 A2 B2)):=by
  simp only[Br,Ec,un,ov];refine bT rfl (bs rfl ?_);rw[V.eo,cT];exact bs e2 rfl
 have s3:Br CC (tG K mul) [cZ (p.map dA),cZ (q.map dA)] 2 (tG K mul) one (ov 2 A2 B2)=some (.inr (2,false,[],A2,B2,[],[],[],[],[],[],[],[])):=by
  simp only[Br,Ec,un,ov];grind
 exact bs ((gp s1).trans ((gp s2).trans (gH s3))) rfl
end
def pc{α:Type}(one:α)(mul:α→α→α)(po:Nat→α→α)(v:Nat→α)(s:Nat×Nat)(st:List α):Option (List α):=
 if s.1=0 then some (one::st)else if s.1=1 then some (v s.2::st)
 else if s.1=2 then(match st with|b::a::r=>some (mul a b::r)|_=>none)
 else(match st with|a::r=>some (po s.2 a::r)|_=>none)
def eW{α:Type}(one:α)(mul:α→α→α)(po:Nat→α→α)(v:Nat→α):List (Nat×Nat)→List α→Option (List α)
 | [],st=>some st
 |s::p,st=>(pc one mul po v s st).bind (eW one mul po v p)
def SV(st:List Nat)(l:LV):Prop:=l.length=61∧st.length≤60∧∀i,i<st.length→l[st.length-1-i]? =some (nV (st.getD i 0))
theorem SV.tail{x:Nat}{st:List Nat}{l:LV}(h:SV (x::st) l):SV st l:=by
 obtain⟨h1,h2,h3⟩:=h;simp only[List.length_cons]at h2 h3;refine⟨h1,by omega,fun i hi=> ?_⟩;have:=h3 (i+1) (by omega);rwa [show st.length+1-1-(i+1)=st.length-1-i by omega,List.getD_cons_succ]at this
theorem SV.push{st:List Nat}{l:LV}(h:SV st l)(h6:st.length<60)(x:Nat):SV (x::st) (l.set st.length (nV x)):=by
 obtain⟨h1,h2,h3⟩:=h;refine⟨by rw[td,h1],by simp;omega,fun i hi=> ?_⟩;simp only[List.length_cons]at hi⊢;cases i with
 |zero=>
  rw[show st.length+1-1-0=st.length by omega,sa (by omega)];rfl
 |succ i=>
  rw[show st.length+1-1-(i+1)=st.length-1-i by omega,zb (by omega),h3 i (by omega),List.getD_cons_succ]
theorem SV.top{x:Nat}{st:List Nat}{l:LV}(h:SV (x::st) l):l[st.length]? =some (nV x):=by
 have:=h.2.2 0 (by simp);simpa using this
noncomputable def dR(mul:Nat→Nat→Nat)(n x:Nat):Nat:=pw mul x (eN-1+n)
section
variable {K:Nat}{mul:Nat→Nat→Nat}(h:Tb K mul){p:List (Nat×Nat)}(hp:∀s∈p,tx s)(hl:p.length≤1000){A B:LV}(hP:sm K mul p p.length A B)
  {m:Nat} {v:Nat→Nat} (hv:∀i,i<m→v i<K) (hw:ni m p 0=some 1)
include h hp hl hP hv hw
theorem acD:∃y,y<K∧eW 0 mul (dR mul) v p []=some [y]∧CC 163 (cZ (p.map dA)::(N7 (tG K mul) 0 A B++[ab (tab m fun i=>nV (v i))]))=some (vI (y:Int)::(N7 (tG K mul) 0 A B++[ab (tab m fun i=>nV (v i))])):=by
 have h4:=h.k4;have h1:=h.k1;have key:=nh (step:=N8 CC (p.map dA) (p.length:Int) (tG K mul) 0 [] A B [] [] [] [] [] [] [] [] (tab m fun i=>nV (v i)))
  (fun i x=> ∃(st:List Nat) (l:LV),ni m (p.drop i) st.length=some 1∧SV st l∧(∀y∈st,y<K)∧eW 0 mul (dR mul) v p []=eW 0 mul (dR mul) v (p.drop i) st∧x=((st.length:Int),(i:Int),l)) (fun r=> ∃y l,y<K∧SV [y] l∧eW 0 mul (dR mul) v p []=some [y]∧r=(1,(p.length:Int),false,l)) p.length 0 (0,0,List.replicate 61 (vI 0)) (fun i _ hi x hx=> ?_) (fun x hx=> ?_) ⟨([]:List Nat),List.replicate 61 (vI 0),hw,⟨by simp,by simp,fun i hi=>(by cases hi)⟩,fun _ h=>(by cases h),rfl,rfl⟩
 ·obtain⟨r,e,y,l,hy,hs,uL,rfl⟩:=key;have hg:l[0]? =some (nV y):=hs.top;refine⟨y,hy,uL,anL ?_⟩;unfold acE;rw[cT];refine bs e ?_;simp only[un];exact bs hg rfl
 ·obtain⟨st,l,hr,hs,hk,uL,rfl⟩:=hx;have bS:i<p.length:=by omega
  have kH:=acB bS;have cv:=hp _ (dw bS);have hg:p.getD i (0,0)=p[i]:=by rw[Dv,bX bS,Option.getD_some]
  have Us:=hP i bS bS;rw[hg]at Us;rw[ML bS]at hr uL;generalize p[i]=s at*
  obtain⟨k,n⟩:=s;simp only[ni]at hr;have HV:=hs.1;have ht:=hs.2.1;simp only[N8,HW,un];have push:∀{x:Nat},x<K→∀y∈x::st,y<K:=fun hx y hy=>by
   rcases jg.1 hy with rfl|hy
   ·exact hx
   ·exact hk y hy
  rcases(by have:=cv.1;simp only at this;omega:k=0∨k=1∨k=2∨k=3)with rfl|rfl|rfl|rfl
  ·rw[acF]at hr;by_cases c:st.length<60
   ·rw[aF c,Option.bind_some]at hr;refine⟨_,bT (bt bS) (bs kH ?_),0::st,l.set st.length (nV 0),hr,hs.push c 0,push h1,uL,rfl⟩;simp only[zK];refine bT rfl (bT (mW.2 ⟨cB (by omega),cB (by omega)⟩) (bs (bX (by rw[Int.toNat_natCast,HV];omega)) ?_));rw[bu (by omega),bu (by omega)];rfl
   ·rw[aD c]at hr;cases hr
  ·rw[Ut]at hr;by_cases c:st.length<60∧n<m
   ·rw[aF c,Option.bind_some]at hr;have hvg:(tab m fun i=>nV (v i))[n]? =some (nV (v n)):=nj c.2;refine⟨_,bT (bt bS) (bs kH ?_),v n::st,l.set st.length (nV (v n)),hr,hs.push c.1 _,push (hv n c.2),uL,rfl⟩;simp only[zK];refine bF rfl (bT rfl ((bJ (i:=n) hvg).trans (bT (mW.2 ⟨cB (by omega),cB (by omega)⟩) (bs (bX (by rw[Int.toNat_natCast,HV];omega)) ?_))));rw[bu (by omega),bu (by omega)];rfl
   ·rw[aD c]at hr;cases hr
  ·rw[acG]at hr;by_cases c:2≤st.length
   ·rw[aF c,Option.bind_some]at hr;obtain⟨b,a,r,rfl⟩:∃b a r,st=b::a::r:=by
     match st,c with
     |b::a::r,_=>exact⟨b,a,r,rfl⟩
    have hbv:b<K:=hk b (qz ..);have HX:a<K:=hk a (jU _ (qz ..));have hbg:l[r.length+1]? =some (nV b):=hs.top;have cu:l[r.length]? =some (nV a):=hs.tail.top;simp only[List.length_cons]at ht hr c;refine⟨_,bT (bt bS) (bs kH ?_),mul a b::r,l.set r.length (nV (mul a b)),hr,hs.tail.tail.push (by omega) _,fun y hy=> ?_,uL,rfl⟩
    ·simp only[zK];refine bF rfl (bF rfl (bT rfl ?_));rw[N9 (t:=(b::a::r).length) (by simp) (by simp;omega),N9 (t:=(b::a::r).length-1) (by simp) (by simp;omega),show(b::a::r).length-1-1=r.length from rfl,show(b::a::r).length-1=r.length+1 from rfl,Int.toNat_natCast,Int.toNat_natCast];refine bT (mW.2 ⟨cB (by omega),cB (by omega)⟩) (bs cu (bs (ou HX) (bT (mW.2 ⟨cB (by omega),cB (by omega)⟩) (bs hbg (bs (qY hbv) (bT (mW.2 ⟨cB (by omega),cB (by omega)⟩) (bs cu ?_)))))));rw[bu (by omega)];rfl
    ·rcases jg.1 hy with rfl|hy
     ·exact h.lt _ _ HX hbv
     ·exact hk y (jU _ (jU _ hy))
   ·rw[aD c]at hr;cases hr
  ·rw[acH]at hr;by_cases c:1≤st.length
   ·rw[aF c,Option.bind_some]at hr;obtain⟨a,r,rfl⟩:∃a r,st=a::r:=by
     match st,c with
     |a::r,_=>exact⟨a,r,rfl⟩
    have HX:a<K:=hk a (qz ..);have cu:l[r.length]? =some (nV a):=hs.top;simp only[List.length_cons]at ht hr c;have Bs:(decide (0≤(r.length:Int))&&decide ((r.length:Int)<61))=true:=mW.2 ⟨cB (by omega),cB (by omega)⟩;have hpt:∀n,idx (pT K mul n) (a:Int)=some (nV (dR mul n a)):=fun n=>pd HX;have aO:∀n,dR mul n a<K:=fun n=>xR h HX _;have good:∀n,∀y∈dR mul n a::r,y<K:=fun n y hy=>by
     rcases jg.1 hy with rfl|hy
     ·exact aO n
     ·exact hk y (jU _ hy)
    rcases cv.2 rfl with hn|hn
    ·have hn:n=0:=hn;subst hn;have hA:idx A (a:Int)=some (nV (dR mul 0 a)):=by rw[(Us rfl).1 rfl];exact hpt 0
     refine⟨_,bT (bt bS) (bs kH ?_),dR mul 0 a::r,l.set r.length (nV (dR mul 0 a)),hr,hs.tail.push (by omega) _,good 0,uL,rfl⟩;simp only[zK];refine bF rfl (bF rfl (bF rfl (bT rfl (bT rfl (bT rfl ?_)))));rw[N9 (t:=(a::r).length) (by simp) (by simp;omega),show(a::r).length-1=r.length from rfl,Int.toNat_natCast];refine bT Bs (bs cu (bs (a:=nV (dR mul 0 a)) hA (bT Bs (bs cu ?_))));rw[bu (by omega)];rfl
    ·have hn:n=1:=hn;subst hn;have hA:idx B (a:Int)=some (nV (dR mul 1 a)):=by rw[(Us rfl).2 rfl];exact hpt 1
     refine⟨_,bT (bt bS) (bs kH ?_),dR mul 1 a::r,l.set r.length (nV (dR mul 1 a)),hr,hs.tail.push (by omega) _,good 1,uL,rfl⟩;simp only[zK];refine bF rfl (bF rfl (bF rfl (bT rfl (bT rfl (bT rfl ?_)))));rw[N9 (t:=(a::r).length) (by simp) (by simp;omega),show(a::r).length-1=r.length from rfl,Int.toNat_natCast];refine bT Bs (bs cu (bs (a:=nV (dR mul 1 a)) hA (bT Bs (bs cu ?_))));rw[bu (by omega)];rfl
   ·rw[aD c]at hr;cases hr
 ·obtain⟨st,l,hr,hs,hk,uL,rfl⟩:=hx;rw[dP,List.drop_length]at hr uL;have Ba:st.length=1:=by simpa[ni]using hr
  obtain⟨y,rfl⟩:∃y,st=[y]:=by
   match st,Ba with
   | [y],_=>exact⟨y,rfl⟩
  rw[dP];simp only[N8,HW,un];exact⟨_,bF (cL (aW _)) rfl,y,l,hk y (qz ..),hs,uL,dm rfl (dm rfl (dm (cL (aW _)) rfl))⟩
end
theorem Bt{α:Type}{one:α}{mul:α→α→α}{po:Nat→α→α}{v v':Nat→α}{m:Nat}(hv:∀i,i<m→v i=v' i):∀(p:List (Nat×Nat)) (st:List α) (t:Nat),ni m p t=some 1→eW one mul po v p st=eW one mul po v' p st
 | [],_,_,_=>rfl
 |(k,n)::p,st,t,hr=>by
  have e:pc one mul po v (k,n) st=pc one mul po v' (k,n) st:=by
   by_cases c:k=1
   ·subst c;simp only[ni]at hr;rw[Ut]at hr;by_cases c2:t<60∧n<m
    ·show some (v n::st)=some (v' n::st);rw[hv n c2.2]
    ·rw[aD c2]at hr;cases hr
   ·unfold pc;simp only[aD c]
  simp only[ni]at hr;cases hs:zL m t (k,n)with
  |none=>rw[hs]at hr;cases hr
  |some t'=>
   rw[hs,Option.bind_some]at hr;show(pc one mul po v (k,n) st).bind _=(pc one mul po v' (k,n) st).bind _;rw[e];exact congrArg _ (funext fun st'=>Bt hv p st' t' hr)
def rk(len k:Nat→Nat):Nat→Nat
 |0=>0
 |n+1=>rk len k n*len n+k n
theorem acI{len a b:Nat→Nat}:∀{n:Nat},(∀i,i<n→a i=b i)→rk len a n=rk len b n
 |0,_=>rfl
 |n+1,h=>by
  show rk len a n*len n+a n=rk len b n*len n+b n;rw[acI fun i hi=>h i (by omega),h n (by omega)]
theorem acJ{len a b:Nat→Nat}{i:Nat}(h1:∀j,j<i→b j=a j)(h2:b i=a i+1):∀{n:Nat},i<n→(∀j,i<j→j<n→a j+1=len j∧b j=0)→rk len b n=rk len a n+1
 |0,h,_=>by omega
 |n+1,h,h3=>by
  show rk len b n*len n+b n=rk len a n*len n+a n+1;by_cases c:i=n
  ·subst c;rw[acI h1,h2];omega
  ·obtain⟨e1,e2⟩:=h3 n (by omega) (by omega);rw[acJ h1 h2 (by omega) fun j hj hn=>h3 j hj (by omega),e2,kO];omega
theorem acK{len a b:Nat→Nat}:∀{n:Nat},(∀i,i<n→a i+1=len i)→(∀i,i<n→b i<len i)→rk len b n≤rk len a n
 |0,_,_=>aW _
 |n+1,h1,h2=>by
  show rk len b n*len n+b n≤rk len a n*len n+a n;have e1:=h1 n (by omega);have e2:=h2 n (by omega);have:=eT (len n) (acK (fun i hi=>h1 i (by omega)) fun i hi=>h2 i (by omega):rk len b n≤rk len a n);omega
theorem acL{len a b:Nat→Nat}:∀{n:Nat},(∀i,i<n→a i<len i)→(∀i,i<n→b i<len i)→rk len a n=rk len b n→∀i,i<n→a i=b i
 |0,_,_,_=>fun i hi=>by omega
 |n+1,h1,h2,e=>fun i hi=>by
  have e:rk len a n*len n+a n=rk len b n*len n+b n:=e;have l1:=h1 n (by omega);have l2:=h2 n (by omega);have q:rk len a n=rk len b n:=by
   rcases Nat.lt_trichotomy (rk len a n) (rk len b n)with c|c|c
   ·have:=eT (len n) (show rk len a n+1≤rk len b n from c);rw[kO]at this;omega
   ·exact c
   ·have:=eT (len n) (show rk len b n+1≤rk len a n from c);rw[kO]at this;omega
  by_cases c:i=n
  ·subst c;rw[q]at e;omega
  ·exact acL (fun i hi=>h1 i (by omega)) (fun i hi=>h2 i (by omega)) q i (by omega)
def dJ(n:Nat)(k:Nat→Nat):LV:=tab n fun i=>nV (k i)
def gy(R:List (List Nat))(i:Nat):Nat:=(R.getD i []).length
def gz(R:List (List Nat))(k:Nat→Nat)(i:Nat):Nat:=(R.getD i []).getD (k i) 0
section
variable {K:Nat}{R:List (List Nat)}(hR:RG K R){k:Nat→Nat}(hk:∀i,i<R.length→k i<gy R i)
include hR hk
theorem anM{i:Nat}(hi:i<R.length):gz R k i<K:=by
 unfold gz;rw[ep (hk i hi)];exact hR.lt i hi _ (dw _)
omit hR in
theorem acM{i:Nat}(hi:i<R.length):idx (nS (R.getD i [])) (k i:Int)=some (nV (gz R k i)):=by
 unfold gz;rw[ep (hk i hi)];exact iT (hk i hi)
theorem acN{p q:List (Nat×Nat)}{t A B:LV}{one:Int}:CC 122 (qZ p q R t one A B [ab (dJ R.length k)])=some (qZ p q R t one A B [ab (dJ R.length (gz R k)),ab (dJ R.length k)]):=by
 have h10:=hR.rl;have hl:(dJ R.length k).length=R.length:=en;refine anN ?_;unfold acO;rw[hl];refine bT (gP (by omega) (by omega)) ?_;rw[Int.toNat_natCast];refine bs (vU (fun i a=>((i:Int),a)) R.length (fun i=>nV (gz R k i)) (List.replicate R.length (vI 0)) (by simp) (fun a=>((R.length:Int),false,a)) (fun i hi a ha=> ?_) ?_) rfl
 ·have hg:(dJ R.length k)[i]? =some (nV (k i)):=nj hi;simp only[Uu,HZ,un,aA,bc];refine bT (bt hi) ((bJ hg).trans (bs (Ee hi) ?_));rw[V.eo];refine bs (acM hk hi) ((tw (by omega)).trans ?_);rw[bu (by omega),Int.toNat_natCast];rfl
 ·simp only[Uu,HZ,un];refine bF (cL (aW _)) ?_;rw[cL (aW _)]
theorem anO{p q:List (Nat×Nat)}{t A B:LV}{one:Int}:∃(b:Bool) (k':Nat→Nat),(∀i,i<R.length→k' i<gy R i)∧(b=true→rk (gy R) k' R.length=rk (gy R) k R.length+1)∧(b=false→∀i,i<R.length→k i+1=gy R i)∧
  CC 164 (qZ p q R t one A B [ab (dJ R.length k)])=some (.bool b::qZ p q R t one A B [ab (dJ R.length k')]):=by
 have h10:=hR.rl;have hl:(dJ R.length k).length=R.length:=en;have put:∀{f:Nat→Nat} {i v:Nat},(dJ R.length f).set i (nV v)=dJ R.length fun j=>if j=i then v else f j:=fun {f i v}=>by
  unfold dJ;rw[mw];exact dW fun j _=>by by_cases c:j=i<;>simp[c]
 have key:∀(d:Nat),d≤R.length→(∀i,d≤i→i<R.length→k i+1=gy R i)→∃r,Loop (H2 CC (p.map dA) (q.map dA) (RV R) t one [] A B [] [] [] [] [] [] [] []) ((d:Int)-1,dJ R.length fun i=>if i<d then k i else 0)=some r∧
   ((∃k',(∀i,i<R.length→k' i<gy R i)∧rk (gy R) k' R.length=rk (gy R) k R.length+1∧r= .inl (true,dJ R.length k'))∨∃j b,(∀i,i<R.length→k i+1=gy R i)∧r= .inr (j,b,dJ R.length fun _=>0)):=by
  intro d
  induction d with
  |zero=>
   intro _ hd;have e0:(dJ R.length fun i=>if i<0 then k i else 0)=dJ R.length fun _=>0:=dW fun i _=>congrArg nV (aD (Nat.not_lt_zero i));rw[e0];refine⟨_,gH (r:= .inr (((0:Nat):Int)-1,false,dJ R.length fun _=>0)) ?_,.inr ⟨((0:Nat):Int)-1,false,fun i hi=>hd i (nH _) hi,rfl⟩⟩;simp only[H2,Ef,un];exact bF rfl rfl
  |succ i ih=>
   intro hd h2;have hi:i<R.length:=by omega
   have e1:(((i+1:Nat):Int)-1)=(i:Int):=by omega
   rw[e1];have hki:=hk i hi;have hg:(dJ R.length fun j=>if j<i+1 then k j else 0)[i]? =some (nV (k i)):=(nj hi).trans (by simp)
   have Eg:gy R i≤1000:=hR.len i hi;have jK:((dJ R.length fun j=>if j<i+1 then k j else 0).set i (vI ((k i+1:Nat):Int)))[i]? =some (nV (k i+1)):=sa (by rw[dJ,en];exact hi);have w1:wrap .i64 ((nV (k i)).toInt+1)=((k i+1:Nat):Int):=bu (by omega);by_cases c:k i+1<gy R i
   ·have good:∀j,i<j→j<R.length→¬j=i∧¬j<i+1:=fun j h1 _=>⟨by omega,by omega⟩
    refine⟨.inl (true,dJ R.length fun j=>if j=i then k i+1 else if j<i+1 then k j else 0),gH ?_,.inl ⟨_,fun j hj=> ?_,acJ (i:=i) (fun j hj=> ?_) (by simp) hi (fun j h1 h3=>⟨h2 j (by omega) h3,?_⟩),rfl⟩⟩
    ·simp only[H2,Ef,un,aA,bc,Int.toNat_natCast];refine bT (cB (by omega)) ((bJ hg).trans ((bJ hg).trans ?_));simp only[w1];refine(bJ jK).trans (bs (Ee hi) ?_)
     rw[V.eo,dE];refine bT (cB (by show((k i+1:Nat):Int)<_;unfold gy at c;omega)) ?_;rw[←put];rfl
    ·have mn:=hk j hj;by_cases cj:j=i
     ·subst cj;rw[aF rfl];exact c
     ·rw[aD cj];by_cases cj2:j<i+1
      ·rw[aF cj2];exact mn
      ·rw[aD cj2];omega
    ·rw[aD (by omega),aF (by omega)]
    ·rw[aD (by omega),aD (by omega)]
   ·obtain⟨r,e,hr⟩:=ih (by omega) fun j h1 h3=>by
     by_cases cj:j=i
     ·subst cj;omega
     ·exact h2 j (by omega) h3
    refine⟨r,(gp ?_).trans e,hr⟩;simp only[H2,Ef,un,aA,bc,Int.toNat_natCast];refine bT (cB (by omega)) ((bJ hg).trans ((bJ hg).trans ?_));simp only[w1];refine(bJ jK).trans (bs (Ee hi) ?_)
    rw[V.eo,dE];refine bF (dj (by show¬((k i+1:Nat):Int)<_;unfold gy at c;omega)) ((bJ jK).trans ?_);rw[GH];have w2:wrap .i64 ((i:Int)-1)=(i:Int)-1:=wrap64 (by omega) (by omega);have p0:(dJ R.length fun j=>if j<i+1 then k j else 0).set i (vI 0)=dJ R.length fun j=>if j<i then k j else 0:=(put (v:=0)).trans (dW fun j _=>congrArg nV (by
     show(if j=i then 0 else if j<i+1 then k j else 0)=(if j<i then k j else 0)
     by_cases c1:j=i
     ·subst c1;simp
     ·rw[aD c1];by_cases c2:j<i
      ·rw[aF c2,aF (by omega)]
      ·rw[aD c2,aD (by omega)]))
    rw[w2,p0]
 have e0:dJ R.length k=dJ R.length fun i=>if i<R.length then k i else 0:=dW fun i hi=>congrArg nV (aF hi).symm
 obtain⟨r,e,hr⟩:=key R.length (aW _) fun i h1 h2=>(by omega)
 rw[←e0]at e;have w3:wrap .i64 ((R.length:Int)-1)=(R.length:Int)-1:=wrap64 (by omega) (by omega);have fin:∀z,Oa CC (p.map dA) (q.map dA) (RV R) t one [] A B [] [] [] [] [] [] [] [] (dJ R.length k)=z→CC 164 (qZ p q R t one A B [ab (dJ R.length k)])=z:=fun z h=>anP h;rcases hr with⟨k',h1,h2,rfl⟩|⟨j,b,h1,rfl⟩
 ·refine⟨true,k',h1,fun _=>h2,fun e=>(by cases e),fin _ ?_⟩;unfold Oa;rw[hl,w3];exact bs e rfl
 ·refine⟨false,fun _=>0,fun i hi=>Dt (nH _) (hk i hi),fun e=>(by cases e),fun _=>h1,fin _ ?_⟩;unfold Oa;rw[hl,w3];exact bs e rfl
end
section
variable {K:Nat}{mul:Nat→Nat→Nat}(h:Tb K mul){R:List (List Nat)}(hR:RG K R){p q:List (Nat×Nat)}(hp:∀s∈p,tx s)(hq:∀s∈q,tx s)(N5:p.length≤1000)(N6:q.length≤1000){A B:LV}(hP:sm K mul p p.length A B)(hQ:sm K mul q q.length A B)
  (hw:ni R.length p 0=some 1) (Eh:ni R.length q 0=some 1)
include h hR hp hq N5 N6 hP hQ hw Eh
theorem anQ(bE:∀i,i<R.length→0<gy R i){lim:Nat}(aGW:lim≤2000000):∃(s:Int) (b1 b2:Bool) (k':Nat→Nat),(∀i,i<R.length→k' i<gy R i)∧
  (b1=true→eW 0 mul (dR mul) (gz R k') p []≠eW 0 mul (dR mul) (gz R k') q [])∧
  (b1=false→b2=true→∀k,(∀i,i<R.length→k i<gy R i)→eW 0 mul (dR mul) (gz R k) p []=eW 0 mul (dR mul) (gz R k) q [])∧
  CC 121 (vI (lim:Int)::qZ p q R (tG K mul) 0 A B [ab (dJ R.length fun _=>0)])=some (vI s:: .bool b1:: .bool b2::qZ p q R (tG K mul) 0 A B [ab (dJ R.length k')]):=by
 have h10:=hR.rl;have e0:=acN hR bE (p:=p) (q:=q) (t:=tG K mul) (A:=A) (B:=B) (one:=0);have fill:∀{vs:LV} {k:Nat→Nat} {s:Int},vs.length=R.length→(∀i,i<R.length→k i<gy R i)→Loop (Ob CC (lim:Int) s (R.length:Int) (p.map dA) (q.map dA) (RV R) (tG K mul) 0 [] A B [] [] [] [] [] [] [] [] (dJ R.length k)) (0,vs)=some ((R.length:Int),false,dJ R.length (gz R k)):=by
  intro vs k s hv hk;refine vU (fun i a=>((i:Int),a)) R.length (fun i=>nV (gz R k i)) vs hv (fun a=>((R.length:Int),false,a)) (fun i hi a ha=> ?_) ?_
  ·have hg:(dJ R.length k)[i]? =some (nV (k i)):=nj hi;simp only[Ob,H4,un,aA,bc];refine bT (bt hi) ((bJ hg).trans (bs (Ee hi) ?_));rw[V.eo];refine bs (acM hk hi) ((tw (by omega)).trans ?_);rw[bu (by omega),Int.toNat_natCast];rfl
  ·simp only[Ob,H4,un];grind
 have key:=Oc (step:=Ei CC (lim:Int)) (fun x=> ∃(s:Nat) (vs:LV) (k:Nat→Nat),x=((s:Int),p.map dA,q.map dA,RV R,tG K mul,0,[],A,B,[],[],[],[],[],[],[],[],vs,dJ R.length k)∧vs.length=R.length∧(∀i,i<R.length→k i<gy R i)∧(∀k2,(∀i,i<R.length→k2 i<gy R i)→rk (gy R) k2 R.length<rk (gy R) k R.length→eW 0 mul (dR mul) (gz R k2) p []=eW 0 mul (dR mul) (gz R k2) q [])∧s≤lim) (fun x=>lim-x.1.toNat)
  (fun r=>(∃(s:Int) (b1 b2:Bool) (k':Nat→Nat),(∀i,i<R.length→k' i<gy R i)∧
   (b1=true→eW 0 mul (dR mul) (gz R k') p []≠eW 0 mul (dR mul) (gz R k') q [])∧
   (b1=false→b2=true→∀k,(∀i,i<R.length→k i<gy R i)→eW 0 mul (dR mul) (gz R k) p []=eW 0 mul (dR mul) (gz R k) q [])∧r= .inl (s,b1,b2,p.map dA,q.map dA,RV R,tG K mul,0,[],A,B,[],[],[],[],[],[],[],[],dJ R.length k'))∨∃(s:Int) (b:Bool) (vs:LV) (k':Nat→Nat),(∀i,i<R.length→k' i<gy R i)∧r= .inr (s,b,p.map dA,q.map dA,RV R,tG K mul,0,[],A,B,[],[],[],[],[],[],[],[],vs,dJ R.length k'))
  (fun x hx=> ?_) ((0:Int),p.map dA,q.map dA,RV R,tG K mul,0,[],A,B,[],[],[],[],[],[],[],[],dJ R.length (gz R fun _=>0),dJ R.length fun _=>0) ⟨0,_,fun _=>0,rfl,en,bE,fun k2 _ aO=>absurd aO (Nat.not_lt.2 ?_),nH _⟩
 ·obtain⟨r,e,hr⟩:=key;have fin:∀z,Od CC (lim:Int) (p.map dA) (q.map dA) (RV R) (tG K mul) 0 [] A B [] [] [] [] [] [] [] [] (dJ R.length fun _=>0)=z→CC 121 (vI (lim:Int)::qZ p q R (tG K mul) 0 A B [ab (dJ R.length fun _=>0)])=z:=fun z h=>anR h;rcases hr with⟨s,b1,b2,k',h1,h2,h3,rfl⟩|⟨s,b,vs,k',h1,rfl⟩
  ·refine⟨s,b1,b2,k',h1,h2,h3,fin _ ?_⟩;unfold Od;exact bs e0 (bs e rfl)
  ·refine⟨s,false,false,k',h1,fun e=>(by cases e),fun _ e=>(by cases e),fin _ ?_⟩;unfold Od;exact bs e0 (bs e rfl)
 ·obtain⟨s,vs,k,rfl,hv,hk,acP,hs⟩:=hx;have kU:(dJ R.length k).length=R.length:=en;by_cases c:s<lim
  ·have ef:=fill (s:=wrap .i64 ((s:Int)+1)) hv hk;have hvk:∀i,i<R.length→gz R k i<K:=fun i hi=>anM hR hk hi;obtain⟨y1,_,g1,Uv⟩:=acD h hp N5 hP hvk hw;obtain⟨y2,_,g2,Uw⟩:=acD h hq N6 hQ hvk Eh;obtain⟨b,k',dK,ht,hf,ea⟩:=anO hR hk (p:=p) (q:=q) (t:=tG K mul) (A:=A) (B:=B) (one:=0);by_cases cy:((y1:Int) != (y2:Int))=true
   ·refine .inr ⟨.inl (wrap .i64 ((s:Int)+1),true,true,p.map dA,q.map dA,RV R,tG K mul,0,[],A,B,[],[],[],[],[],[],[],[],dJ R.length k),?_,.inl ⟨_,_,_,k,hk,fun _ e=> ?_,fun e=>(by cases e),rfl⟩⟩
    ·simp only[Ei,Bu,un];refine bT (bt c) ?_;rw[kU];exact bs ef (bs Uv (bs Uw (bT cy rfl)))
    grind
   ·have cy:((y1:Int) != (y2:Int))=false:=by grind
    have heq:eW 0 mul (dR mul) (gz R k) p []=eW 0 mul (dR mul) (gz R k) q []:=by
     grind
    have hle:∀k2,(∀i,i<R.length→k2 i<gy R i)→rk (gy R) k2 R.length≤rk (gy R) k R.length→eW 0 mul (dR mul) (gz R k2) p []=eW 0 mul (dR mul) (gz R k2) q []:=fun k2 h2 hle=>by
     rcases Nat.lt_or_eq_of_le hle with c1|c1
     ·grind
     ·have tA:=acL h2 hk c1;have H5:∀i,i<R.length→gz R k2 i=gz R k i:=fun i hi=>by unfold gz;grind
      rw[Bt H5 p [] 0 hw,Bt H5 q [] 0 Eh,heq]
    cases b with
    |false=>
     refine .inr ⟨.inl (wrap .i64 ((s:Int)+1),false,true,p.map dA,q.map dA,RV R,tG K mul,0,[],A,B,[],[],[],[],[],[],[],[],dJ R.length k'),?_,.inl ⟨_,_,_,k',dK,fun e=>(by cases e),fun _ _ k2 h2=>hle k2 h2 (acK (hf rfl) h2),rfl⟩⟩;simp only[Ei,Bu,un];refine bT (bt c) ?_;rw[kU];exact bs ef (bs Uv (bs Uw (bF cy (bs ea (bT rfl rfl)))))
    |true=>
     refine .inl ⟨(((s+1:Nat):Int),p.map dA,q.map dA,RV R,tG K mul,0,[],A,B,[],[],[],[],[],[],[],[],dJ R.length (gz R k),dJ R.length k'),?_,⟨s+1,_,k',rfl,en,dK,fun k2 h2 aO=>hle k2 h2 (by grind),c⟩,?_⟩
     ·simp only[Ei,Bu,un];refine bT (bt c) ?_;rw[kU];refine bs ef (bs Uv (bs Uw (bF cy (bs ea (bF rfl ?_)))));rw[bu (by omega)];rfl
     omega
  ·refine .inr ⟨.inr ((s:Int),false,p.map dA,q.map dA,RV R,tG K mul,0,[],A,B,[],[],[],[],[],[],[],[],vs,dJ R.length k),?_,.inr ⟨_,_,_,k,hk,rfl⟩⟩;simp only[Ei,Bu,un];grind
 ·have z:∀n,rk (gy R) (fun _=>0) n=0:=fun n=>by
   induction n with
   |zero=>rfl
   |succ n ih=>show rk (gy R) (fun _=>0) n*_+0=0;grind
  grind
end
def kW(mul:Nat→Nat→Nat)(cP cQ:Nat→Bool)(i x:Nat):Bool:= !cP i||(cQ i||decide (mul x x=x))
def ow(mul:Nat→Nat→Nat)(cP cQ:Nat→Bool)(Z:List Nat)(nv:Nat):List (List Nat):=(List.range nv).map fun i=>Z.filter (kW mul cP cQ i)
theorem H6{mul:Nat→Nat→Nat}{cP cQ:Nat→Bool}{Z:List Nat}{nv:Nat}:(ow mul cP cQ Z nv).length=nv:=by simp[ow]
theorem Ux{mul:Nat→Nat→Nat}{cP cQ:Nat→Bool}{Z:List Nat}{nv i:Nat}(hi:i<nv):(ow mul cP cQ Z nv).getD i []=Z.filter (kW mul cP cQ i):=by
 rw[Dv,ow,jX,Dw hi];rfl
section
variable {K:Nat}{mul:Nat→Nat→Nat}{Z:List Nat}(hZ:∀z∈Z,z<K)(xS:Z.length≤400)(cP cQ:Nat→Bool){nv:Nat}(hnv:nv≤6)
include hZ xS hnv
theorem anS:Loop (Oe CC (tG K mul) (nS Z) (nv:Int) (cP 0) (cP 1) (cP 2) (cP 3) (cP 4) (cP 5) (cQ 0) (cQ 1) (cQ 2) (cQ 3) (cQ 4) (cQ 5)) (0,List.replicate nv (ab ([]:LV)))=some ((nv:Int),false,RV (ow mul cP cQ Z nv)):=by
 have hO:∀(f:Nat→Bool) (i:Nat),i<6→([.bool (f 0),.bool (f 1),.bool (f 2),.bool (f 3),.bool (f 4),.bool (f 5)]:LV)[0+(((i:Int).toNat)*1)]? =some (.bool (f i)):=by
  grind
 have inner:∀{i:Nat} (hi:i<nv) {R:List (List Nat)} {a b:Int},R.length=nv→R.getD i []=[]→
   Loop (Of CC (tG K mul) (nS Z) (i:Int) a b (nS Z) (Z.length:Int) (cP 0) (cP 1) (cP 2) (cP 3) (cP 4) (cP 5) (cQ 0) (cQ 1) (cQ 2) (cQ 3) (cQ 4) (cQ 5)) (0,RV R)=some ((Z.length:Int),false,RV (R.set i (Z.filter (kW mul cP cQ i)))):=by
  intro i hi R a b Ej hRi;have e0:RV R=RV (R.set i ((Z.take 0).filter (kW mul cP cQ i))):=by
   have:R.set i []=R:=by
    refine uj (by simp) fun k h1 h2=> ?_;grind
   grind
  rw[e0];refine eZ Z.length (fun j=>((j:Int),RV (R.set i ((Z.take j).filter (kW mul cP cQ i))))) _ (fun j hj=> ?_) ?_
  ·have hz:=hZ _ (dw hj);have Ek:(Z.take (j+1)).filter (kW mul cP cQ i)=(Z.take j).filter (kW mul cP cQ i)++(if kW mul cP cQ i Z[j]=true then [Z[j]]else []):=by
    rw[AP hj,GI];grind
   generalize hr:(Z.take j).filter (kW mul cP cQ i)=r at Ek⊢;have h2:r.length≤400:=by
    grind
   have kD:(RV (R.set i r))[i]? =some (ab (nS r)):=by simp[RV,Ej,hi]
   have hlen:(RV (R.set i r)).length=nv:=by rw[Og,td,Ej]
   have jK:(RV (R.set i r)).set i (ab (nS r++[vI (nV Z[j]).toInt]))=RV (R.set i (r++[Z[j]])):=by
    simp only[RV,GJ];rw[GH];simp[nS,nV]
   have Bv:(decide (0≤(i:Int))&&decide ((i:Int)<6))=true:=mW.2 ⟨cB (by omega),cB (by omega)⟩;have app:kW mul cP cQ i Z[j]=true→(bif Nat.ble (((ab (nS r)).toList.length+([vI (nV Z[j]).toInt]:LV).length)*8) aR then
     El (RV (R.set i r)) (i:Int) <| bif (Nat.beq ((i:Int).toNat) ((i:Int).toNat))&&true then
      some (Sum.inl (β:=Int×Bool×LV) (wrap .i64 ((j:Int)+1),bc (RV (R.set i r)) (i:Int) (ab ((ab (nS r)).toList++([vI (nV Z[j]).toInt]:LV)))))
     else none else none)=some (Sum.inl (((j+1:Nat):Int),RV (R.set i ((Z.take (j+1)).filter (kW mul cP cQ i))))):=by
    intro hc;rw[Ek,aF hc,V.eo];refine bT (cap (by rw[dE];simp;omega) (by omega)) ?_;refine bT (ra (by omega)) (bT (by simp) ?_);simp only[bc,Int.toNat_natCast];rw[jK,bu (by omega)]
   have Uy:(RV (R.set i r))[((i:Int).toNat)]? =some (ab (nS r)):=kD;simp only[Of,H7,un];cases ho:cP i with
   |false=>exact bT (bt hj) (bs (iT hj) (bT Bv (bs (hO cP i (by omega)) (bT (by rw[ho];rfl) ((bJ kD).trans (bs Uy (app (by unfold kW;grind))))))))
   |true=>
    cases he:cQ i with
    |true=>exact bT (bt hj) (bs (iT hj) (bT Bv (bs (hO cP i (by omega)) (bF (by rw[ho];rfl) (bT Bv (bs (hO cQ i (by omega)) (bT (by rw[he];rfl) ((bJ kD).trans (bs Uy (app (by unfold kW;grind)))))))))))
    |false=>
     by_cases cm:mul Z[j] Z[j]=Z[j]
     ·refine bT (bt hj) (bs (iT hj) (bT Bv (bs (hO cP i (by omega)) (bF (by rw[ho];rfl) (bT Bv (bs (hO cQ i (by omega)) (bF (by rw[he];rfl) (bs (ou hz) (bs (qY hz) (bT ?_ ((bJ kD).trans (bs Uy (app ?_)))))))))))))
      ·grind
      ·unfold kW;grind
     ·refine bT (bt hj) (bs (iT hj) (bT Bv (bs (hO cP i (by omega)) (bF (by rw[ho];rfl) (bT Bv (bs (hO cQ i (by omega)) (bF (by rw[he];rfl) (bs (ou hz) (bs (qY hz) (bF ?_ ?_))))))))))
      ·show(((mul Z[j] Z[j]:Nat):Int)==((Z[j]:Nat):Int))=false;grind
      ·rw[Ek,aD (by unfold kW;grind),nJ,bu (by omega)]
  ·simp only[Of,H7,un];grind
 have e0:List.replicate nv (ab ([]:LV))=RV ((List.range nv).map fun k=>if k<0 then Z.filter (kW mul cP cQ k)else []):=by
  rw[RV,AQ];refine(List.eq_replicate_iff.2 ⟨by simp,fun b hb=> ?_⟩).symm;obtain⟨k,_,rfl⟩:=gm.1 hb;rfl
 rw[e0];refine eZ nv (fun i=>((i:Int),RV ((List.range nv).map fun k=>if k<i then Z.filter (kW mul cP cQ k)else []))) _ (fun i hi=> ?_) ?_
 ·have e:=inner hi (R:=(List.range nv).map fun k=>if k<i then Z.filter (kW mul cP cQ k)else []) (a:=(nv:Int)) (b:=(i:Int)) (by simp) (by
   grind)
  simp only[Oe,H8,un];refine bT (bt hi) (bs (by rw[dE];exact e) ?_);rw[bu (by omega)];refine congrArg (fun t=>some (Sum.inl (((i+1:Nat):Int),RV t))) (uj (by simp) fun k h1 h2=> ?_);rw[List.getElem_set];grind
 ·simp only[Oe,H8,un];refine bF (cL (aW _)) ?_;rw[cL (aW _)];refine congrArg (fun t=>some (Sum.inr ((nv:Int),false,RV t))) (qA fun k hk=> ?_);grind
end
theorem anT{R:List (List Nat)}(hl:R.length≤10)(hlen:∀i,i<R.length→(R.getD i []).length≤1000){p q:List (Nat×Nat)}{t A B:LV}{one:Int}{l:LV}:∃b,CC 120 (qZ p q R t one A B [ab l])=some (.bool b::qZ p q R t one A B [ab l])∧(b=false→∀i,i<R.length→0<(R.getD i []).length)∧(b=true→∃i,i<R.length∧(R.getD i []).length=0):=by
 have key:∃r,Loop (Oh CC (RV R) (R.length:Int)) 0=some r∧((∃i:Nat,(i<R.length∧(R.getD i []).length=0)∧r= .inl (i:Int))∨(r= .inr ((R.length:Int),false)∧∀j,j<R.length→0<(R.getD j []).length)):=by
  refine zM (fun i x=>x=(i:Int)∧∀j,j<i→0<(R.getD j []).length) (fun(r:Int ⊕ (Int×Bool))=>(∃i:Nat,(i<R.length∧(R.getD i []).length=0)∧r= .inl (i:Int))∨(r= .inr ((R.length:Int),false)∧∀j,j<R.length→0<(R.getD j []).length)) R.length (fun i hi x hx=> ?_) (fun x hx=> ?_) R.length 0 0 (dP _) ⟨rfl,fun j hj=>(by omega)⟩
  ·obtain⟨rfl,hx⟩:=hx;have e1:CC 162 [ab (nS (R.getD i []))]=some [.bool ((((R.getD i []).length:Nat):Int)==0)]:=by
    refine anU ?_;unfold acQ;rw[dE]
   simp only[Oh,H9];by_cases c:0<(R.getD i []).length
   ·refine .inl ⟨_,bT (bt hi) (bs (Ee hi) (bs (by rw[V.eo];exact e1) (bF ?_ rfl))),by rw[bu (by omega)],fun j hj=> ?_⟩
    ·show((((R.getD i []).length:Nat):Int)==0)=false;grind
    grind
   ·refine .inr ⟨_,bT (bt hi) (bs (Ee hi) (bs (by rw[V.eo];exact e1) (bT ?_ rfl))),.inl ⟨i,⟨hi,by omega⟩,rfl⟩⟩;simp_all
  ·obtain⟨rfl,hx⟩:=hx;simp only[Oh,H9];grind
 have fin:∀b,CC 161 [ah (RV R)]=some [.bool b]→CC 120 (qZ p q R t one A B [ab l])=some (.bool b::qZ p q R t one A B [ab l]):=fun b hb=>by
  have anV:∀z,Uz CC (p.map dA) (q.map dA) (RV R) t one [] A B [] [] [] [] [] [] [] [] l=z→CC 120 (qZ p q R t one A B [ab l])=z:=fun z h=>anW h;refine anV _ ?_;unfold Uz;exact bs hb rfl
 obtain⟨r,e,hr⟩:=key;rcases hr with⟨i,hi,rfl⟩|⟨rfl,hr⟩
 ·refine⟨true,fin _ (acR ?_),fun e=>(by cases e),fun _=>⟨i,hi⟩⟩;unfold UA;refine bs (a:=[vI (i:Int)]) (acS ?_) ?_
  ·unfold UB;rw[Og];exact bs e rfl
  simp_all
 ·refine⟨false,fin _ (acR ?_),fun _=>hr,fun e=>(by cases e)⟩;unfold UA;refine bs (a:=[vI (-1)]) (acS ?_) rfl;unfold UB;rw[Og];exact bs e rfl
def En(mul:Nat→Nat→Nat)(Z:List Nat)(d:ej)(v:Nat→Nat):Prop:= ∀i,i<d.nv→v i∈Z∧kW mul d.cP d.cQ i (v i)=true
section
variable {K:Nat}{mul:Nat→Nat→Nat}(h:Tb K mul)(ha:∀i j k,i<K→j<K→k<K→mul (mul i j) k=mul i (mul j k))(ae:∀j,j<K→mul 0 j=j∧mul j 0=j){Z:List Nat}(hZ:∀z∈Z,z<K)(xS:Z.length≤400){d:ej}(hd:mZ d)
include hZ xS hd
theorem anX:RG K (ow mul d.cP d.cQ Z d.nv):=by
 have hn:=hd.nv;refine⟨fun i hi x hx=> ?_,fun i hi=> ?_,by rw[H6];omega⟩
 ·rw[H6]at hi;rw[Ux hi]at hx;grind
 ·rw[H6]at hi;rw[Ux hi];grind
theorem anY:CC 159 (ah (tG K mul)::ab (nS Z)::iw d)=some [ah (RV (ow mul d.cP d.cQ Z d.nv))]:=by
 have hn:=hd.nv;have e:=anS (mul:=mul) hZ xS d.cP d.cQ hd.nv;have fin:∀z,UC CC (tG K mul) (nS Z) d.l0 d.l1 d.l2 d.r0 d.r1 d.r2=z→CC 159 (ah (tG K mul)::ab (nS Z)::iw d)=z:=fun z h=>anZ h;refine fin _ ?_;unfold UC;refine bs hd.v1 (bs hd.v2 (bs hd.vars (bT (gP (by omega) (by omega)) ?_)));rw[show(gI [vI (d.nv:Int)])=(d.nv:Int)from rfl,Int.toNat_natCast,xo];exact bs e rfl
include h ha ae
theorem an0:(CC 119 (ah (tG K mul)::ab (nS Z)::iw d)=some [.bool true,vI 1])∨∃A B,sm K mul d.p d.p.length A B∧sm K mul d.q d.q.length A B∧
  CC 119 (ah (tG K mul)::ab (nS Z)::iw d)=some (.bool false::qZ d.p d.q (ow mul d.cP d.cQ Z d.nv) (tG K mul) 0 A B [ab (dJ (ow mul d.cP d.cQ Z d.nv).length fun _=>0)]):=by
 have hn:=hd.nv;have fin:∀z,Oj CC (tG K mul) (nS Z) d.l0 d.l1 d.l2 d.r0 d.r1 d.r2=z→CC 119 (ah (tG K mul)::ab (nS Z)::iw d)=z:=fun z h=>an1 h;obtain⟨b,hc⟩:=an2 h hZ xS;cases b with
 |false=>
  refine .inl (fin _ ?_);unfold Oj;exact bs (UD h ha) (bF rfl (bs hc (bT rfl rfl)))
 |true=>
  have er:=anY (mul:=mul) hZ xS hd;obtain⟨A,B,_,_,hP,hQ,em⟩:=anJ h ha hd.okp hd.okq hd.lp hd.lq (one:=0);refine .inr ⟨A,B,hP,hQ,fin _ ?_⟩;unfold Oj;refine bs (UD h ha) (bF rfl (bs hc (bF rfl (bs hd.val (bF rfl (bs (an3 h ha ae) (bF rfl (bs hd.cl (bs hd.cr (bs er (bs em ?_)))))))))));have hl:((gL [ah (RV (ow mul d.cP d.cQ Z d.nv))]).length:Int)=((ow mul d.cP d.cQ Z d.nv).length:Int):=by show((RV _).length:Int)=_;rw[Og]
  simp only[hl];refine bT (gP (by rw[H6];omega) (by omega)) ?_;rw[Int.toNat_natCast,show List.replicate (ow mul d.cP d.cQ Z d.nv).length (vI 0)=dJ (ow mul d.cP d.cQ Z d.nv).length fun _=>0 from p5];rfl
theorem an4(eB:Int):∃(s e:Int) (l:LV),CC 78 (ah (tG K mul)::ab (nS Z)::(iw d++[vI eB]))=some [vI s,vI e,ab l]∧
  (e=0→∃v,En mul Z d v∧eW 0 mul (dR mul) v d.p []≠eW 0 mul (dR mul) v d.q [])∧(e=9→∀v,En mul Z d v→eW 0 mul (dR mul) v d.p []=eW 0 mul (dR mul) v d.q [])∧(e=0∨e=9∨e=1∨e=7):=by
 have hk:=h.k1;have hn:=hd.nv;have fin:∀z,xT CC (tG K mul) (nS Z) d.l0 d.l1 d.l2 d.r0 d.r1 d.r2 eB=z→CC 78 (ah (tG K mul)::ab (nS Z)::(iw d++[vI eB]))=z:=fun z h=>an5 h;rcases an0 h ha ae hZ xS hd with e0|⟨A,B,hP,hQ,e0⟩
 ·refine⟨0,1,[],fin _ ?_,fun e=>(by cases e),fun e=>(by cases e),.inr (.inr (.inl rfl))⟩;unfold xT;exact bs e0 (bT rfl (bT rfl rfl))
 ·by_cases c1:eB<1
  ·refine⟨0,1,[],fin _ ?_,fun e=>(by cases e),fun e=>(by cases e),.inr (.inr (.inl rfl))⟩;unfold xT;exact bs e0 (bF rfl (bT (cB c1) rfl))
  by_cases c2:eB>1048576
  ·refine⟨0,1,[],fin _ ?_,fun e=>(by cases e),fun e=>(by cases e),.inr (.inr (.inl rfl))⟩;unfold xT;exact bs e0 (bF rfl (bF (dj c1) (bT (cB c2) rfl)))
  have hR:RG K (ow mul d.cP d.cQ Z d.nv):=anX hZ xS hd;have Ej:(ow mul d.cP d.cQ Z d.nv).length=d.nv:=H6;have an6:∀i,i<d.nv→(ow mul d.cP d.cQ Z d.nv).getD i []=Z.filter (kW mul d.cP d.cQ i):=fun i hi=>Ux hi;generalize ow mul d.cP d.cQ Z d.nv=R at*
  obtain⟨b,e1,hb,fh⟩:=anT (R:=R) (by omega) hR.len (p:=d.p) (q:=d.q) (t:=tG K mul) (A:=A) (B:=B) (one:=0) (l:=dJ R.length fun _=>0);cases b with
  |true=>
   refine⟨0,9,[],fin _ ?_,fun e=>(by cases e),fun _ v hv=> ?_,.inr (.inl rfl)⟩
   ·unfold xT;exact bs e0 (bF rfl (bF (dj c1) (bF (dj c2) (bs e1 (bT rfl rfl)))))
   ·obtain⟨i,hi,h0⟩:=fh rfl;obtain⟨v1,v2⟩:=hv i (by omega);simp_all
  |false=>
   have bE:∀i,i<R.length→0<gy R i:=hb rfl;obtain⟨lim,rfl⟩:=MM (show 0≤eB by omega);have hwp:ni R.length d.p 0=some 1:=by rw[Ej];exact hd.wp
   have hwq:ni R.length d.q 0=some 1:=by rw[Ej];exact hd.wq
   obtain⟨s,b1,b2,k',dK,uN,qT,e2⟩:=anQ h hR hd.okp hd.okq hd.lp hd.lq hP hQ hwp hwq bE (lim:=lim) (by omega);cases b1 with
   |true=>
    have e3:=acN hR dK (p:=d.p) (q:=d.q) (t:=tG K mul) (A:=A) (B:=B) (one:=0);refine⟨s,0,dJ R.length (gz R k'),fin _ ?_,fun _=>⟨gz R k',fun i hi=> ?_,uN rfl⟩,fun e=>(by cases e),.inl rfl⟩
    ·unfold xT;exact bs e0 (bF rfl (bF (dj c1) (bF (dj c2) (bs e1 (bF rfl (bs e2 (bT rfl (bs e3 rfl))))))))
    ·have aO:=dK i (by omega);unfold gy at aO;have hm:gz R k' i∈R.getD i []:=by
      unfold gz;grind
     grind
   |false=>
    cases b2 with
    |true=>
     refine⟨s,9,[],fin _ ?_,fun e=>(by cases e),fun _ v hv=> ?_,.inr (.inl rfl)⟩
     ·unfold xT;exact bs e0 (bF rfl (bF (dj c1) (bF (dj c2) (bs e1 (bF rfl (bs e2 (bF rfl (bT rfl rfl))))))))
     ·have hex:∀i,∃j,i<R.length→j<gy R i∧(R.getD i []).getD j 0=v i:=fun i=>by
       by_cases c:i<R.length
       ·have hm:=AR.2 (hv i (by omega));rw[←an6 i (by omega)]at hm;obtain⟨j,hj,e⟩:=List.mem_iff_getElem.1 hm;exact⟨j,fun _=>⟨hj,by grind⟩⟩
       grind
      obtain⟨k,hk⟩:=MN hex;have:=qT rfl rfl k fun i hi=>(hk i hi).1;have H5:∀i,i<R.length→gz R k i=v i:=fun i hi=>(hk i hi).2;rwa [Bt H5 d.p [] 0 hwp,Bt H5 d.q [] 0 hwq]at this
    |false=>
     refine⟨0,7,[],fin _ ?_,fun e=>(by cases e),fun e=>(by cases e),.inr (.inr (.inr rfl))⟩;unfold xT;exact bs e0 (bF rfl (bF (dj c1) (bF (dj c2) (bs e1 (bF rfl (bs e2 (bF rfl (bF rfl rfl))))))))
end
def gA(rows:LV)(c:Nat):Bool:=((rows.getD c (.bool false)).cell 1).toBool
def rb(m:Da)(S:List (List Nat))(j:Nat):Bool:=if j=0 then xU m.L m.gT S S.length else true
def Er(m:Da)(S:List (List Nat))(mo:Bool):List Nat:=(List.range S.length).filter fun z=>rb m S z||mo
def rf(m:Da)(S:List (List Nat))(mo:Bool)(ids:List ej):Prop:= ∀d∈ids,∀v,En (cx S) (Er m S mo) d v→eW 0 (cx S) (dR (cx S)) v d.p []=eW 0 (cx S) (dR (cx S)) v d.q []
section
variable {rows:LV}{kV:Nat→List ej}(hC:NQ rows kV){m:Da}{S:List (List Nat)}{f:Nat→List UInt8}(hm:m.Ok)(hS:sq m S)(hV:CC 118 (sr m S f)=some [vI 0]){c:Nat}(hc:c<17)
include hC hS hV hc
omit hS in
theorem an7(hle:S.length≤400):CC 77 (sr m S f++[vI (c:Int)])=some [vI 0,ab (nS (Er m S (gA rows c)))]:=by
 obtain⟨x,hx,_⟩:=hC.cls c hc;have hl:=hC.len;have ox:gA rows c=(x.cell 1).toBool:=by
  unfold gA;rw[Dv,hx];rfl
 have pl:(kI m.L m.gT S S.length).length=S.length:=en;have fin:∀z,UE CC (m.L:Int) (rh S) (tab S.length fun j=> .str (f j)) (nk m S) (oy m S) (kI m.L m.gT S S.length) (c:Int)=z→CC 77 (sr m S f++[vI (c:Int)])=z:=fun z h=>an8 h;refine fin _ ?_;unfold UE;rw[pl];refine bs hV (bF rfl (bs hC.zI (bF zJ (bF ?_ (bs (eZ S.length (fun i=>((i:Int),nS ((List.range i).filter fun z=>rb m S z||gA rows c))) ((S.length:Int),false,nS (Er m S (gA rows c))) (fun i hi=> ?_) ?_) rfl)))))
 ·show decide ((c:Int)≥(rows.length:Int))=false;rw[hl];exact dj (by omega)
 ·have hb:idx (kI m.L m.gT S S.length) (i:Int)=some (.bool (rb m S i)):=pd hi;have jq:((List.range i).filter fun z=>rb m S z||gA rows c).length≤i:=by
   have:=List.length_filter_le (fun z=>rb m S z||gA rows c) (List.range i);rwa [lk]at this
  have app:(rb m S i||gA rows c)=true→(bif Nat.ble (((nS ((List.range i).filter fun z=>rb m S z||gA rows c)).length+([vI (i:Int)]:LV).length)*8) aR then some (Sum.inl (β:=Int×Bool×LV) (wrap .i64 ((i:Int)+1),nS ((List.range i).filter fun z=>rb m S z||gA rows c)++([vI (i:Int)]:LV)))else none)=some (.inl (((i+1:Nat):Int),nS ((List.range (i+1)).filter fun z=>rb m S z||gA rows c))):=by
   intro hc;refine bT (cap (by rw[dE];simp;omega) (by omega)) ?_;rw[bu (by omega),zc,GI];simp[nS,nV,hc]
  simp only[UF,Ic,un];cases Ie:rb m S i with
  |true=>exact bT (bt hi) (bs hb (bT Ie (app (by rw[Ie];rfl))))
  |false=>
   cases kJ:(x.cell 1).toBool with
   |true=>exact bT (bt hi) (bs hb (bF Ie ((bJ hx).trans (bT kJ (app (by rw[ox,kJ,Bool.or_true]))))))
   |false=>
    refine bT (bt hi) (bs hb (bF Ie ((bJ hx).trans (bF kJ ?_))));rw[bu (by omega),zc,GI];simp[Ie,ox,kJ]
 ·simp only[UF,Ic,un];refine bF (cL (aW _)) ?_;rw[cL (aW _)];rfl
include hm
theorem an9{bud:Int}(hb:1≤bud∧bud≤1048576):∃(b:Bool) (i j e:Int) (l:LV),CC 47 (sr m S f++[vI (c:Int),vI bud])=some [.bool b,vI i,vI j,vI e,ab l]∧
  (e=0→b=true→rf m S (gA rows c) (kV c))∧(e=0→b=false→¬rf m S (gA rows c) (kV c))∧(e=0∨e=1∨e=7):=by
 have hle:=hS.le;have eE:=an7 hC hV hc hle;have hZ:∀z∈Er m S (gA rows c),z<S.length:=fun z hz=>gn.1 (AR.1 hz).1;have xS:(Er m S (gA rows c)).length≤S.length:=by
  have:=List.length_filter_le (fun z=>rb m S z||gA rows c) (List.range S.length);rwa [lk]at this
 unfold rf;generalize Er m S (gA rows c)=Z at*
 obtain⟨x,hx,a,b,e,f',lD⟩:=hC.cls c hc;have ri:=hC.il c hc;have ao:=hC.ok c hc;generalize kV c=ids at lD ri ao⊢;have hT:Tb S.length (cx S):=⟨hS.pos,hS.le,fun _ _ hi hj=>UG hm hS hi hj⟩
 have hA:∀i j k,i<S.length→j<S.length→k<S.length→cx S (cx S i j) k=cx S i (cx S j k):=fun _ _ _ hi hj hk=>acT hm hS hi hj hk;have ae:∀j,j<S.length→cx S 0 j=j∧cx S j 0=j:=fun j hj=>by
  obtain⟨w,hw,rfl⟩:=vV hS hj;have e0:vl m S []=0:=Ol hS;refine⟨?_,?_⟩
  ·rw[←e0,vW hm hS WL.nil hw];rfl
  ·rw[←e0,vW hm hS hw WL.nil,nJ]
 have key:=zM (step:=Om CC bud (ids.length:Int) (m.L:Int) (rh S) (tab S.length fun j=> .str (f j)) (nk m S) (oy m S) (kI m.L m.gT S S.length) (nS Z) (ids.map fun d=> .agg (iw d)))
  (fun i y=>(∃t:Int,y=(t,(i:Int)))∧∀j (hj:j<ids.length),j<i→∀v,En (cx S) Z ids[j] v→eW 0 (cx S) (dR (cx S)) v ids[j].p []=eW 0 (cx S) (dR (cx S)) v ids[j].q [])
  (fun(r:(Bool×Int×Int×Int×LV) ⊕ (Int×Int×Bool))=>(∃i j e l,r= .inl (false,i,j,e,l)∧(e=0∨e=1∨e=7)∧(e=0→∃d∈ids,∃v,En (cx S) Z d v∧eW 0 (cx S) (dR (cx S)) v d.p []≠eW 0 (cx S) (dR (cx S)) v d.q []))∨((∃t i b,r= .inr (t,i,b))∧∀d∈ids,∀v,En (cx S) Z d v→eW 0 (cx S) (dR (cx S)) v d.p []=eW 0 (cx S) (dR (cx S)) v d.q [])) ids.length (fun i hi y hy=> ?_) (fun y hy=> ?_) ids.length 0 (0,0) (dP _) ⟨⟨0,rfl⟩,fun j _ hj=>(by omega)⟩
 ·obtain⟨r,el,hr⟩:=key;have fin:∀z,On CC (m.L:Int) (rh S) (tab S.length fun j=> .str (f j)) (nk m S) (oy m S) (kI m.L m.gT S S.length) (c:Int) bud=z→CC 47 (sr m S f++[vI (c:Int),vI bud])=z:=fun z h=>aoa h;have hl:((ids.map fun d=>V.agg (iw d)).length:Int)=(ids.length:Int):=by grind
  rw[←hl]at el;rcases hr with⟨i,j,e,l,rfl,he,hv⟩|⟨⟨t,i,b,rfl⟩,xV⟩
  ·refine⟨false,i,j,e,l,fin _ ?_,fun _ h=>(by cases h),fun h0 _ hn=> ?_,he⟩
   ·unfold On;refine bs eE (bF rfl (bF (dj (by omega)) (bF (dj (by omega)) (bs hC.zI ((bJ hx).trans (bs lD ?_))))));exact bs el rfl
   grind
  ·refine⟨true,-1,t,0,[],fin _ ?_,fun _ _=>xV,fun _ h=>(by cases h),.inl rfl⟩;unfold On;refine bs eE (bF rfl (bF (dj (by omega)) (bF (dj (by omega)) (bs hC.zI ((bJ hx).trans (bs lD ?_))))));exact bs el rfl
 ·obtain⟨⟨t,rfl⟩,acP⟩:=hy;have kH:(ids.map fun d=>V.agg (iw d))[i]? =some (.agg (iw ids[i])):=by simp[hi]
  obtain⟨s,e2,l,hv,UH,hv9,hve⟩:=an4 hT hA ae hZ (by omega) (ao _ (dw hi)) (wrap .i64 (bud-t));simp only[Om,Ig,un];by_cases ct:(t==bud)=true
  ·exact .inr ⟨.inl (false,0,0,7,[]),bT (bt hi) ((bJ kH).trans (bT ct rfl)),.inl ⟨0,0,7,[],rfl,.inr (.inr rfl),fun h=>(by cases h)⟩⟩
  have ct:(t==bud)=false:=by grind
  by_cases c0:e2=0
  ·exact .inr ⟨_,bT (bt hi) ((bJ kH).trans (bF ct (bs hv (bT (by simp_all) rfl)))),.inl ⟨(i:Int),wrap .i64 (t+s),0,l,rfl,.inl rfl,fun _=>⟨_,dw hi,UH c0⟩⟩⟩
  have c0':(e2==0)=false:=by grind
  by_cases c9:e2=9
  ·refine .inl ⟨(wrap .i64 (t+s),((i+1:Nat):Int)),bT (bt hi) ((bJ kH).trans (bF ct (bs hv (bF c0' (bT (by simp_all) ?_))))),⟨_,rfl⟩,fun j hj hji=> ?_⟩
   ·rw[bu (by omega)];rfl
   grind
  ·have c9':(e2==9)=false:=by grind
   exact .inr ⟨_,bT (bt hi) ((bJ kH).trans (bF ct (bs hv (bF c0' (bF c9' rfl))))),.inl ⟨0,0,e2,[],rfl,by omega,fun h=>absurd h c0⟩⟩
 ·obtain⟨⟨t,rfl⟩,acP⟩:=hy;simp only[Om,Ig,un];refine⟨.inr (t,(ids.length:Int),decide ((ids.length:Int)<(ids.length:Int))),bF (cL (aW _)) rfl,.inr ⟨⟨t,(ids.length:Int),decide ((ids.length:Int)<(ids.length:Int)),rfl⟩,fun d hd=> ?_⟩⟩;obtain⟨j,hj,rfl⟩:=List.mem_iff_getElem.1 hd;grind
end
section
variable {rows:LV}{kV:Nat→List ej}(hC:NQ rows kV)
include hC
theorem aob{a:Da}(ha:a.Ok)(nn:(minD a).n≤32):∃(z:Int) (l:LV),CC 20 (uO a [vI 3000])=some [vI z,ab l]∧(z≠0∨(z=0∧l.length=17∧∃S,sq (minD a) S∧∀c,c<17→∃n:Int,l[c]? =some (vI n)∧(n=1→rf (minD a) S (gA rows c) (kV c))∧(n=0→¬rf (minD a) S (gA rows c) (kV c)))):=by
 have A:∀{a:Da} z,D9 CC (a.L:Int) (a.st:Int) a.dN a.dX 3000=z→CC 20 (uO a [vI 3000])=z:=fun z h=>acs h;have Oo:CC 44 [vI 3000]=some [.bool true]:=acr rfl;rcases aoc ha nn with⟨eO,_⟩|⟨S,f,eO,hS⟩
 ·refine⟨3,[],A _ ?_,.inl (by omega)⟩;unfold D9;exact bs (su ha) (bF rfl (bs Oo (bF rfl (bs eO (bT rfl rfl)))))
 ·obtain⟨cl,lD,eC⟩:=anC hC;have hm:=sw ha;have hV:=aod ha hS eO;have key:=nh (step:=NU CC 3000 (17:Int) ((minD a).L:Int) (rh S) (tab S.length fun j=> .str (f j)) (nk (minD a) S) (oy (minD a) S) (kI (minD a).L (minD a).gT S S.length))
   (fun i y=> ∃l:LV,l.length=i∧(∀c,c<i→∃n:Int,l[c]? =some (vI n)∧(n=1→rf (minD a) S (gA rows c) (kV c))∧(n=0→¬rf (minD a) S (gA rows c) (kV c)))∧y=((i:Int),l))
   (fun r=> ∃l:LV,l.length=17∧(∀c,c<17→∃n:Int,l[c]? =some (vI n)∧(n=1→rf (minD a) S (gA rows c) (kV c))∧(n=0→¬rf (minD a) S (gA rows c) (kV c)))∧r=(17,false,l)) 17 0 (0,([]:LV)) (fun i _ hi y hy=> ?_) (fun y hy=> ?_) ⟨[],rfl,fun c hc=>(by omega),rfl⟩
  ·obtain⟨r,el,l,h1,h2,rfl⟩:=key;have aoe:((gL [V.list 135 cl]).length:Int)=17:=by simp_all
   refine⟨0,l,A _ ?_,.inr ⟨rfl,h1,S,hS,h2⟩⟩;unfold D9;refine bs (su ha) (bF rfl (bs Oo (bF rfl (bs eO (bF rfl (bs eC ?_))))));rw[aoe];exact bs el rfl
  ·obtain⟨l,h1,h2,rfl⟩:=hy;obtain⟨b',i',j',e',l',hM,ht,hf,he⟩:=an9 hC hm hS hV (c:=i) (by omega) (bud:=3000) (by omega);have bO:∀v:V,Nat.ble ((l.length+([v]:LV).length)*8) aR=true:=fun v=>cap (by simp;omega) (by omega);have ext:∀n:Int,(n=1→rf (minD a) S (gA rows i) (kV i))→(n=0→¬rf (minD a) S (gA rows i) (kV i))→∀c,c<i+1→∃n':Int,(l++[vI n])[c]? =some (vI n')∧(n'=1→rf (minD a) S (gA rows c) (kV c))∧(n'=0→¬rf (minD a) S (gA rows c) (kV c)):=fun n k1 k2 c hc=>by
    grind
   simp only[NU,HL,un];by_cases c:e'=0
   ·have c':(e' != 0)=false:=by rw[c];rfl
    cases b' with
    |true=>
     refine⟨(((i+1:Nat):Int),l++[vI 1]),bT (cB (by omega)) (bs hM (bF c' (bT rfl (bT (bO _) ?_)))),_,by simp[h1],ext 1 (fun _=>ht c rfl) (fun h=>(by omega)),rfl⟩;rw[bu (by omega)]
    |false=>
     refine⟨(((i+1:Nat):Int),l++[vI 0]),bT (cB (by omega)) (bs hM (bF c' (bF rfl (bT (bO _) ?_)))),_,by simp[h1],ext 0 (fun h=>(by omega)) (fun _=>hf c rfl),rfl⟩;rw[bu (by omega)]
   ·have c':(e' != 0)=true:=by grind
    refine⟨(((i+1:Nat):Int),l++[vI (0-e')]),bT (cB (by omega)) (bs hM (bT c' (bT (bO _) ?_))),_,by simp[h1],ext (0-e') (fun h=>(by omega)) (fun h=>(by omega)),rfl⟩;rw[bu (by omega)];have w:wrap .i64 (0-e')=0-e':=wrap64 (by omega) (by omega);simp_all
  ·obtain⟨l,h1,h2,rfl⟩:=hy;simp only[NU,HL,un];grind
end
end Go.AM
set_option maxRecDepth 100000
namespace Go.AM
open Go.IntKind (wrap)
open Go.Proofs
namespace Da
theorem Ih.reach{d:Da}(h1:1≤d.L)(h:d.Ih):∀t,t≤d.n*d.L→∀q,q<d.mt t→∃w,WL d.L w∧d.run 0 w=q
 |0,_,q,hq=>⟨[],WL.nil,by have:q<1:=hq;show 0=q;omega⟩
 |t+1,ht,q,hq=>by
  have ih:=h.reach h1 t (by omega);rcases jG q (d.mt t)with c|c
  ·grind
  ·have e:d.pos t=q:=by
    unfold mt at hq;grind
   have hx:t %d.L<d.L:=AS _ (by omega);have hp:t/d.L<d.n:=by rw[MO (by omega)];omega
   have h2:=h.row _ hp;have h3:=d.Oq (Nat.div_mul_le_self t d.L);obtain⟨w,hw,hr⟩:=ih (t/d.L) (by omega);refine⟨w++[t %d.L],WL.app.2 ⟨hw,WL.nil.cons hx⟩,?_⟩;rw[acU,hr];exact e
end Da
theorem UI{a:Da}(h:a.Ok){q:Nat}(hq:q<(minD a).n):∃w,WL a.L w∧(minD a).run (minD a).st w=q:=by
 have hc:=vX h;obtain⟨w,hw,hr⟩:=hc.num.reach (sw h).l1 _ (aW _) q (by rw[hc.num.all];exact hq);exact⟨w,by rw[tB h]at hw;exact hw,by rw[acW h];exact hr⟩
theorem acX{f:Nat→Nat}{n:Nat}(h:∀p q,p<n→q<n→f p=f q→p=q):((List.range n).map f).Nodup:=by
 refine GG.2 (List.nodup_range.imp_of_mem fun {a b} ha hb bE e=>bE ?_);grind
theorem UJ{a:Da}(h:a.Ok):(minD a).n≤a.n:=by
 have hc:=vX h;have hL:=tB h;have hex:∀q:Nat,∃w,q<(minD a).n→WL a.L w∧(minD a).run (minD a).st w=q:=fun q=>by
  by_cases c:q<(minD a).n
  ·obtain⟨w,h1,h2⟩:=UI h c;grind
  ·exact⟨[],fun c2=>absurd c2 c⟩
 obtain⟨W,hW⟩:=MN hex;have key:=za (l₁:=(List.range (minD a).n).map fun q=>a.run a.st (W q)) (l₂:=List.range a.n) (acX fun p q hp hq e=> ?_) fun x hx=> ?_
 ·grind
 ·obtain⟨p1,p2⟩:=hW p hp;obtain⟨q1,q2⟩:=hW q hq;refine hc.red p q hp hq fun w hw=> ?_;rw[hL]at hw;rw[←p2,←q2,←Da.vY,←Da.vY,zO h (WL.app.2 ⟨p1,hw⟩),zO h (WL.app.2 ⟨q1,hw⟩),Da.vY,Da.vY,e]
 ·obtain⟨q,hq,rfl⟩:=gm.1 hx;exact gn.2 (h.vZ _ h.s (hW q (gn.1 hq)).1)
end Go.AM
set_option maxRecDepth 100000
namespace Go.AM
open Go.IntKind (wrap)
open Go.Proofs
def jM(w:List Nat):Nat→List Nat
 |0=>w
 |k+1=>jM w k++w
noncomputable def bd(n:Nat)(w:List Nat):List Nat:=jM w (eN-1+n)
noncomputable def uW(d:ej)(t:Nat→List Nat)(i:Nat):List Nat:=if(d.cP i&& !d.cQ i)=true then bd 0 (t i)else t i
noncomputable def uP(u:Nat→List Nat)(p:List (Nat×Nat)):Option (List (List Nat)):=eW [] (fun a b=>a++b) bd u p []
def fM(L:Nat)(P:List Nat→Bool)(mo:Bool)(d:ej):Prop:= ∀t:Nat→List Nat,(∀i,WL L (t i)∧(mo=true∨t i≠[]))→∀l r,WL L l→WL L r→uP (uW d t) d.p=some [l]→uP (uW d t) d.q=some [r]→∀x y,WL L x→WL L y→P (x++(l++y))=P (x++(r++y))
theorem xW{L:Nat}{w:List Nat}(h:WL L w):∀k,WL L (jM w k)
 |0=>h
 |k+1=>WL.app.2 ⟨xW h k,h⟩
theorem acY{w:List Nat}(h:w≠[]):∀k,jM w k≠[]
 |0=>h
 |k+1=>fun e=>acY h k (List.append_eq_nil_iff.1 e).1
theorem UK{α:Type}{one:α}{mul:α→α→α}{po:Nat→α→α}{v:Nat→α}{m:Nat}:∀(p:List (Nat×Nat)) (st:List α),ni m p st.length=some 1→∃y,eW one mul po v p st=some [y]
 | [],st,hr=>by
  have h1:st.length=1:=by simpa[ni]using hr
  match st,h1 with
  | [y],_=>exact⟨y,rfl⟩
 |(k,n)::p,st,hr=>by
  simp only[ni]at hr;cases hs:zL m st.length (k,n)with
  |none=>grind
  |some t'=>
   rw[hs,Option.bind_some]at hr;have si:∃st',pc one mul po v (k,n) st=some st'∧st'.length=t':=by
    by_cases k0:k=0
    ·subst k0;rw[acF]at hs;by_cases c:st.length<60
     ·rw[aF c]at hs;exact⟨one::st,rfl,by grind⟩
     grind
    by_cases k1:k=1
    ·subst k1;rw[Ut]at hs;by_cases c:st.length<60∧n<m
     ·rw[aF c]at hs;exact⟨v n::st,rfl,by grind⟩
     grind
    by_cases k2:k=2
    ·subst k2;rw[acG]at hs;by_cases c:2≤st.length
     ·rw[aF c]at hs
      match st,c with
      |b::a::r,_=>exact⟨mul a b::r,rfl,by grind⟩
     grind
    ·by_cases k3:k=3
     ·subst k3;rw[acH]at hs;by_cases c:1≤st.length
      ·rw[aF c]at hs
       match st,c with
       |a::r,_=>exact⟨po n a::r,rfl,by grind⟩
      grind
     ·simp[zL,k0,k1,k2,k3]at hs
   obtain⟨st',e1,e2⟩:=si;rw[←e2]at hr;obtain⟨y,hy⟩:=UK p st' hr;exact⟨y,by show(pc one mul po v (k,n) st).bind _=_;rw[e1];exact hy⟩
section
variable {m:Da}(hm:m.Ok){S:List (List Nat)}(hS:sq m S)
include hm hS
theorem UL{w:List Nat}(hw:WL m.L w):∀k,vl m S (jM w k)=pw (cx S) (vl m S w) k
 |0=>rfl
 |k+1=>by
  show vl m S (jM w k++w)=cx S (pw (cx S) (vl m S w) k) (vl m S w);rw[←UL hw k,vW hm hS (xW hw k) hw]
theorem aof{u:Nat→List Nat}(hu:∀i,WL m.L (u i))(s:Nat×Nat)(st:List (List Nat))(cv:∀w∈st,WL m.L w):
  pc 0 (cx S) (dR (cx S)) (fun i=>vl m S (u i)) s (st.map (vl m S))=(pc [] (fun a b=>a++b) bd u s st).map (List.map (vl m S))∧∀st',pc [] (fun a b=>a++b) bd u s st=some st'→∀w∈st',WL m.L w:=by
 obtain⟨k,n⟩:=s;have cons:∀{w:List Nat} {r:List (List Nat)},WL m.L w→(∀x∈r,WL m.L x)→∀x∈w::r,WL m.L x:=fun hw hr x hx=>by
  grind
 unfold pc;by_cases k0:k=0
 ·simp only[k0,qv];refine⟨?_,fun st' e=> ?_⟩
  ·show some (0::st.map (vl m S))=some (vl m S []::st.map (vl m S));rw[Ol hS]
  ·cases e;exact cons WL.nil cv
 by_cases k1:k=1
 ·grind
 by_cases k2:k=2
 ·simp only[k0,k1,k2,ta,qv]
  match st,cv with
  | [],_=>grind
  | [_],_=>grind
  |b::a::r,cv=>
   have hb:=cv b (qz ..);have ha:=cv a (jU _ (qz ..));refine⟨?_,fun st' e=>by cases e;exact cons (WL.app.2 ⟨ha,hb⟩) fun x hx=>cv x (jU _ (jU _ hx))⟩;show some (cx S (vl m S a) (vl m S b)::r.map (vl m S))=some (vl m S (a++b)::r.map (vl m S));rw[vW hm hS ha hb]
 ·simp only[k0,k1,k2,ta]
  match st,cv with
  | [],_=>grind
  |a::r,cv=>
   have ha:=cv a (qz ..);refine⟨?_,fun st' e=>by cases e;exact cons (xW ha _) fun x hx=>cv x (jU _ hx)⟩;show some (dR (cx S) n (vl m S a)::r.map (vl m S))=some (vl m S (bd n a)::r.map (vl m S));unfold dR bd;rw[UL hm hS ha]
theorem acZ{u:Nat→List Nat}(hu:∀i,WL m.L (u i)):∀(p:List (Nat×Nat)) (st:List (List Nat)),(∀w∈st,WL m.L w)→
  eW 0 (cx S) (dR (cx S)) (fun i=>vl m S (u i)) p (st.map (vl m S))=(eW [] (fun a b=>a++b) bd u p st).map (List.map (vl m S))∧∀st',eW [] (fun a b=>a++b) bd u p st=some st'→∀w∈st',WL m.L w
 | [],st,cv=>⟨rfl,fun st' e=>by cases e;exact cv⟩
 |s::p,st,cv=>by
  obtain⟨e1,h1⟩:=aof hm hS hu s st cv;show(pc 0 (cx S) (dR (cx S)) (fun i=>vl m S (u i)) s (st.map (vl m S))).bind _=((pc [] (fun a b=>a++b) bd u s st).bind _).map _∧∀st',(pc [] (fun a b=>a++b) bd u s st).bind _=some st'→_;rw[e1];cases hs:pc [] (fun a b=>a++b) bd u s st with
  |none=>grind
  |some kX=>exact acZ hu p kX (h1 kX hs)
theorem Ot{u:Nat→List Nat}(hu:∀i,WL m.L (u i)){p:List (Nat×Nat)}{l:List Nat}(h:uP u p=some [l]):eW 0 (cx S) (dR (cx S)) (fun i=>vl m S (u i)) p []=some [vl m S l]∧WL m.L l:=by
 obtain⟨e1,h1⟩:=acZ hm hS hu p [] fun _ h=>by cases h
 refine⟨?_,h1 [l] h l (qz ..)⟩;have h:eW [] (fun a b=>a++b) bd u p []=some [l]:=h;grind
omit hm in
theorem aog{j:Nat}(hj:j<S.length)(hp:rb m S j=true):∃w,WL m.L w∧vl m S w=j∧w≠[]:=by
 by_cases c:j=0
 ·subst c;have hp:xU m.L m.gT S S.length=true:=hp;obtain⟨a,ha,h0⟩:=Gz hp;obtain⟨w,hw,rfl⟩:=vV hS ha;rw[zP hS hw]at h0;obtain⟨x,hx,e⟩:=List.mem_iff_getElem.1 h0;have hxL:x<m.L:=by simpa[e7]using hx
  refine⟨w++[x],WL.app.2 ⟨hw,WL.cons hxL WL.nil⟩,?_,by simp⟩;rw[←ac0 (m:=m) hxL,ep hx,e]
 ·obtain⟨w,hw,e⟩:=vV hS hj;refine⟨w,hw,e,fun h=>c ?_⟩;rw[←e,h,Ol hS]
omit hm in
theorem aoh{w:List Nat}(hw:WL m.L w)(bE:w≠[]):rb m S (vl m S w)=true:=by
 unfold rb;by_cases c:vl m S w=0
 ·rw[aF c];obtain⟨w',x,rfl⟩:∃w' x,w=w'++[x]:=⟨w.dropLast,w.getLast bE,(List.dropLast_concat_getLast bE).symm⟩
  obtain⟨h1,h2⟩:=WL.app.1 hw;have hx:x<m.L:=h2.head;refine cB ⟨vl m S w',Bw hS h1,?_⟩;rw[zP hS h1];have e:=ac0 (m:=m) (S:=S) (w:=w') hx;rw[c]at e;have hlen:x<(e7 m.L m.gT S (lE m w')).length:=by simpa[e7]using hx
  rw[ep hlen]at e;rw[←e];exact dw _
 ·rw[aD c]
end
section
variable {a:Da}(ha:a.Ok){S:List (List Nat)}(hS:sq (minD a) S)
include ha hS
theorem ac1{l r:List Nat}(hl:WL a.L l)(hr:WL a.L r):vl (minD a) S l=vl (minD a) S r↔∀x y,WL a.L x→WL a.L y→a.acc a.st (x++(l++y))=a.acc a.st (x++(r++y)):=by
 have hm:=sw ha;have hL:=tB ha;have hc:=vX ha;have e:∀{x w y:List Nat},WL a.L x→WL a.L w→WL a.L y→a.acc a.st (x++(w++y))=(minD a).acc ((minD a).run ((minD a).run (minD a).st x) w) y:=fun hx hw hy=>by
  rw[←zO ha (WL.app.2 ⟨hx,WL.app.2 ⟨hw,hy⟩⟩),Da.vY,Da.vY]
 rw[aoi hm hS (by grind) (by grind)];constructor
 ·intro h x y hx hy;rw[e hx hl hy,e hx hr hy,h _ (hm.vZ _ hm.s (by grind))]
 ·intro h q hq;obtain⟨x,hx,rfl⟩:=UI ha hq;refine hc.red _ _ (hm.vZ _ (hm.vZ _ hm.s (by grind)) (by grind)) (hm.vZ _ (hm.vZ _ hm.s (by grind)) (by grind)) fun y hy=> ?_;grind
theorem aoj{mo:Bool}{ids:List ej}(ao:∀d∈ids,mZ d):rf (minD a) S mo ids↔∀d∈ids,fM a.L (a.acc a.st) mo d:=by
 have hm:=sw ha;have hL:=tB ha;have hT:Tb S.length (cx S):=⟨hS.pos,hS.le,fun _ _ hi hj=>UG hm hS hi hj⟩
 have hA:∀i j k,i<S.length→j<S.length→k<S.length→cx S (cx S i j) k=cx S i (cx S j k):=fun _ _ _ hi hj hk=>acT hm hS hi hj hk;have Ou:∀{w:List Nat},WL (minD a).L w→vl (minD a) S (bd 0 w)=pw (cx S) (vl (minD a) S w) (eN-1):=fun hw=>UL hm hS hw _;constructor
 ·intro h d hd t ht l r _ _ e1 e2 x y hx hy;have hu:∀i,WL (minD a).L (uW d t i):=fun i=>by
   rw[hL];unfold uW;by_cases c:(d.cP i&& !d.cQ i)=true
   ·rw[aF c];exact xW (ht i).1 _
   grind
  obtain⟨g1,w1⟩:=Ot hm hS hu e1;obtain⟨g2,w2⟩:=Ot hm hS hu e2;rw[hL]at w1 w2;have hv:=h d hd (fun i=>vl (minD a) S (uW d t i)) fun i hi=>⟨?_,?_⟩
  ·rw[g1,g2]at hv;have hv:vl (minD a) S l=vl (minD a) S r:=by grind
   exact(ac1 ha hS w1 w2).1 hv x y hx hy
  ·refine AR.2 ⟨gn.2 (Bw hS (hu i)),?_⟩;rcases(ht i).2 with h1|h1
   ·grind
   ·rw[aoh hS (hu i) (by
     unfold uW;by_cases c:(d.cP i&& !d.cQ i)=true
     ·rw[aF c];exact acY h1 _
     grind),Bool.true_or]
  ·unfold kW;cases ho:d.cP i with
   |false=>rfl
   |true=>
    cases he:d.cQ i with
    |true=>rfl
    |false=>
     have UM:WL (minD a).L (t i):=by grind
     have e3:uW d t i=bd 0 (t i):=by unfold uW;grind
     have:=acx hT hA (Bw hS UM);grind
 ·intro h d hd v hv;have hk:=ao d hd;have hex:∀i,∃w,(WL a.L w∧(mo=true∨w≠[]))∧(i<d.nv→vl (minD a) S w=v i):=fun i=>by
   by_cases c:i<d.nv
   ·obtain⟨hz,hb⟩:=AR.1 (hv i c).1;have aO:=gn.1 hz;cases ox:mo with
    |true=>
     obtain⟨w,hw,e⟩:=vV hS aO;grind
    |false=>
     rw[ox,Bool.or_false]at hb;obtain⟨w,hw,e,bE⟩:=aog hS aO hb;grind
   ·exact⟨[0],⟨WL.cons ha.l1 WL.nil,.inr (by simp)⟩,fun c2=>absurd c2 c⟩
  obtain⟨t,ht⟩:=MN hex;have hu:∀i,WL (minD a).L (uW d t i):=fun i=>by
   rw[hL];unfold uW;by_cases c:(d.cP i&& !d.cQ i)=true
   ·rw[aF c];exact xW (ht i).1.1 _
   grind
  have Ii:∀i,i<d.nv→v i=vl (minD a) S (uW d t i):=fun i hi=>by
   have UM:WL (minD a).L (t i):=by grind
   unfold uW;by_cases c:(d.cP i&& !d.cQ i)=true
   ·rw[aF c,Ou UM,(ht i).2 hi];obtain⟨c1,c2⟩:=mW.1 c;have hr:=(hv i hi).2;unfold kW at hr;rw[c1,(show d.cQ i=false by grind)]at hr;exact(NX (Gz (show decide (cx S (v i) (v i)=v i)=true from hr)) _).symm
   grind
  rw[Bt Ii d.p [] 0 hk.wp,Bt Ii d.q [] 0 hk.wq];obtain⟨l,e1⟩:=UK (one:=[]) (mul:=fun a b=>a++b) (po:=bd) (v:=uW d t) d.p [] hk.wp;obtain⟨r,e2⟩:=UK (one:=[]) (mul:=fun a b=>a++b) (po:=bd) (v:=uW d t) d.q [] hk.wq;obtain⟨g1,w1⟩:=Ot hm hS hu e1;obtain⟨g2,w2⟩:=Ot hm hS hu e2;rw[hL]at w1 w2;rw[g1,g2,(ac1 ha hS w1 w2).2 fun x y hx hy=>h d hd t (fun i=>(ht i).1) l r w1 w2 e1 e2 x y hx hy]
end
inductive zQ(mul:Nat→Nat→Nat)(G:List Nat):Nat→Prop
 |one {g:Nat}:g∈G→zQ mul G g
 |more {x g:Nat}:zQ mul G x→g∈G→zQ mul G (mul x g)
theorem zQ.mono{mul:Nat→Nat→Nat}{G H:List Nat}(h:∀g∈G,g∈H){x:Nat}(hx:zQ mul G x):zQ mul H x:=by
 induction hx with
 |one hg=>exact .one (h _ hg)
 |more _ hg ih=>exact .more ih (h _ hg)
structure ClI(K:Nat)(mul:Nat→Nat→Nat)(G M:List Nat):Prop where
 gd:oz K M
 sub:∀g∈G,g∈M
 pr:∀x∈M,zQ mul G x
 cl:∀x∈M,∀g∈G,mul x g∈M
 gl:G.length≤M.length
end Go.AM
set_option maxRecDepth 100000
namespace Go.AM
open Go.IntKind (wrap)
open Go.Proofs Go.Sort
end Go.AM
set_option maxRecDepth 100000
namespace Go.AM
open Go.IntKind (wrap)
open Go.Proofs
noncomputable def ac2(C:af)(x:Int):Option LV:=
 some [.bool (x != x)]
theorem aok{x:Int}{r:Option LV}(h:ac2 CC x=r):CC 92 [vI x]=r:=bj (L:=bh) an h
structure ac3(K:Nat)(mul:Nat→Nat→Nat)(G Z:List Nat):Prop where
 asc:Z.Pairwise (· < ·)
 lt:∀x∈Z,x<K
 sub:∀g∈G,g∈Z
 pr:∀x∈Z,zQ mul G x
 cl:∀x∈Z,∀y∈Z,mul x y∈Z
theorem aol{Z:List Nat}(h:Z.Pairwise (· < ·)):Z.Nodup:=h.imp fun h=>by omega
section
variable {K:Nat}{mul:Nat→Nat→Nat}{G Z:List Nat}(h:Tb K mul)(ha:∀i j k,i<K→j<K→k<K→mul (mul i j) k=mul i (mul j k))(hZ:ac3 K mul G Z)
include hZ
theorem ac3.le:Z.length≤K:=oz.le ⟨aol hZ.asc,hZ.lt⟩
include h
end
end Go.AM
set_option maxRecDepth 100000
namespace Go.AM
open Go.IntKind (wrap)
open Go.Proofs
namespace Da
def pre(a:Da)(k:Nat)(g:Nat→List Nat):Da:=⟨k,a.st,a.F,tab a.n fun q=>tab k fun x=>a.run q (g x)⟩
theorem Ok.pre{a:Da}(h:a.Ok){k:Nat}{g:Nat→List Nat}(h1:1≤k)(h6:k≤6)(hg:∀x,x<k→WL a.L (g x)):(a.pre k g).Ok:=⟨h1,h6,by simp[Da.pre,n],fun r hr=>by
 obtain⟨q,hq,rfl⟩:=zR.1 hr;refine⟨by simp[Da.pre],fun s hs=> ?_⟩;obtain⟨x,hx,rfl⟩:=zR.1 hs;exact h.vZ _ hq (hg x hx),h.s,h.eb⟩
end Da
end Go.AM
set_option maxRecDepth 100000
namespace Go.AM
open Go.IntKind (wrap)
open Go.Proofs
section
variable {m:Da}(hm:m.Ok){S:List (List Nat)}(hS:sq m S){k:Nat}(h1:1≤k)(h6:k≤6){g:Nat→List Nat}(hg:∀x,x<k→WL m.L (g x)){S2:List (List Nat)}(hS2:sq (minD (m.pre k g)) S2)
def vals(m:Da)(S:List (List Nat))(k:Nat)(g:Nat→List Nat):List Nat:=0::(List.range k).map fun x=>vl m S (g x)
end
def j9(L:Nat)(P:List Nat→Bool)(c:Nat):Prop:= ∀d∈zH c,fM L P (gA zG c) d
def Ov(L:Nat)(P:List Nat→Bool)(l:LV):Prop:=l.length=16∧∀c,c<16→∃n:Int,l[c]? =some (vI n)∧(n=1→j9 L P c)∧(n=0→¬j9 L P c)
theorem aom{a:Da}(ha:a.Ok)(nn:(minD a).n≤32):CC 7 (eu a)=some [ab [],.bool false]∨∃l,CC 7 (eu a)=some [ab l,.bool true]∧Ov a.L (a.acc a.st) l:=by
 obtain⟨z,l,e,h⟩:=aob aci ha nn;have A:∀{a:Da} z,Ea CC (a.L:Int) (a.st:Int) a.dN a.dX=z→CC 7 (eu a)=z:=fun z h=>acu h;rcases h with hz|⟨rfl,hl,S,hS,hv⟩
 ·refine .inl (A _ ?_);unfold Ea;exact bs e (bT (by show(z != 0)=true;rw[bne_iff_ne];exact hz) rfl)
 ·refine .inr ⟨l.take 16,A _ ?_,by rw[nK,hl];rfl,fun c hc=> ?_⟩
  ·unfold Ea;refine bs e (bF rfl (bF ?_ (bT ?_ rfl)))
   ·show((l.length:Int) != 17)=false;rw[hl];rfl
   ·show decide ((16:Int)≤(l.length:Int))=true;exact cB (by omega)
  ·obtain⟨n,h1,h2,h3⟩:=hv c (by omega);have hh:=aoj ha hS (mo:=gA zG c) (ids:=zH c) fun d hd=>aci.ok c (by omega) d hd;exact⟨n,by rw[List.getElem?_take,aF hc];exact h1,fun e=>hh.1 (h2 e),fun e hn=>h3 e (hh.2 hn)⟩
theorem j9.quo{L:Nat}{P Q:List Nat→Bool}{c:Nat}(h:j9 L P c){u v:List Nat}(hu:WL L u)(hv:WL L v)(e:∀w,WL L w→Q w=P (u++(w++v))):j9 L Q c:=fun d hd t ht l r hl hr e1 e2 x y hx hy=>by
 rw[e _ (WL.app.2 ⟨hx,WL.app.2 ⟨hl,hy⟩⟩),e _ (WL.app.2 ⟨hx,WL.app.2 ⟨hr,hy⟩⟩)];have:=h d hd t ht l r hl hr e1 e2 (u++x) (y++v) (WL.app.2 ⟨hu,hx⟩) (WL.app.2 ⟨hy,hv⟩);simpa only[eY]using this
theorem aon{a:Da}(ha:a.Ok)(h:32<(minD a).n):CC 7 (eu a)=some [ab [],.bool false]:=by
 have hm:=sw ha;have aGX:=hm.eb;have aoo:CC 73 (uO (minD a) [vI 0])=some [vI 3,vI 0,ah [],sx []]:=by
  refine ac4 ?_;unfold UN;rw[Da.Et,show wrap .i64 (0+((minD a).n:Int))=((minD a).n:Int)from by rw[lF]<;>omega];exact bT (cB (by omega)) rfl
 have eO:CC 45 (eu a)=some (syZ 3):=by
  have fin:∀z,xX CC (a.L:Int) (a.st:Int) a.dN a.dX=z→CC 45 (eu a)=z:=fun z h=>Ow h;refine fin _ ?_;unfold xX;exact bs (su ha) (bF rfl (bs (Bx ha) (bs aoo (bT rfl rfl))))
 have Oo:CC 44 [vI 3000]=some [.bool true]:=acr rfl;have eC:CC 20 (uO a [vI 3000])=some [vI 3,ab []]:=by
  have fin:∀z,D9 CC (a.L:Int) (a.st:Int) a.dN a.dX 3000=z→CC 20 (uO a [vI 3000])=z:=fun z h=>acs h;refine fin _ ?_;unfold D9;exact bs (su ha) (bF rfl (bs Oo (bF rfl (bs eO (bT rfl rfl)))))
 have fin:∀z,Ea CC (a.L:Int) (a.st:Int) a.dN a.dX=z→CC 7 (eu a)=z:=fun z h=>acu h;refine fin _ ?_;unfold Ea;exact bs eC (bT rfl rfl)
theorem ac5{a:Da}(ha:a.Ok):CC 7 (eu a)=some [ab [],.bool false]∨∃l,CC 7 (eu a)=some [ab l,.bool true]∧Ov a.L (a.acc a.st) l:=by
 by_cases h:(minD a).n≤32
 ·exact aom ha h
 ·exact .inl (aon ha (by omega))
theorem j9.bool{L:Nat}{P Q R:List Nat→Bool}{c:Nat}(h:j9 L P c)(h2:j9 L Q c){f:Bool→Bool→Bool}(e:∀w,WL L w→R w=f (P w) (Q w)):j9 L R c:=fun d hd t ht l r hl hr e1 e2 x y hx hy=>by
 rw[e _ (WL.app.2 ⟨hx,WL.app.2 ⟨hl,hy⟩⟩),e _ (WL.app.2 ⟨hx,WL.app.2 ⟨hr,hy⟩⟩),h d hd t ht l r hl hr e1 e2 x y hx hy,h2 d hd t ht l r hl hr e1 e2 x y hx hy]
structure Ed where
 f:Int
 l:Int
 t:Int
deriving DecidableEq,Inhabited
namespace Ed
def enc(e:Ed):V:= .agg [vI e.f,vI e.l,vI e.t]
@[simp] theorem Eu (e:Ed):(e.enc.cell 0).toInt=e.f:=by simp[enc]
@[simp] theorem Ev (e:Ed):(e.enc.cell 1).toInt=e.l:=by simp[enc]
@[simp] theorem Ew (e:Ed):(e.enc.cell 2).toInt=e.t:=by simp[enc]
theorem re(e:Ed):V.agg [vI e.f,vI e.l,vI e.t]=e.enc:=rfl
def lt(a b:Ed):Prop:=a.f<b.f∨a.f=b.f∧(a.l<b.l∨a.l=b.l∧a.t<b.t)
instance (a b:Ed):Decidable (lt a b):=by unfold lt;infer_instance
def Ok(e:Ed):Prop:= -9223372036854775808≤e.f∧e.f≤9223372036854775807∧ -9223372036854775808≤e.l∧e.l≤9223372036854775807∧ -9223372036854775808≤e.t∧e.t≤9223372036854775807
def In(L S:Int)(e:Ed):Prop:=0≤e.f∧e.f<S∧0≤e.t∧e.t<S∧0≤e.l∧e.l<L
instance (L S:Int)(e:Ed):Decidable (e.In L S):=by unfold In;infer_instance
end Ed
structure Nf where
 L:Int
 S:Int
 st:Nat
 fin:Nat
 E:List Ed
def p6(n:Nf)(rest:List V):List V:=vI n.L::vI n.S:: .int .u64 (n.st:Int):: .int .u64 (n.fin:Int)::ec (n.E.map Ed.enc)::rest
namespace Nf
structure Ok(n:Nf):Prop where
 L1: -9223372036854775808≤n.L
 L2:n.L≤9223372036854775807
 S1: -9223372036854775808≤n.S
 S2:n.S≤9223372036854775807
 st:n.st<2^64
 fin:n.fin<2^64
 len:n.E.length≤maxLen
 E:∀e∈n.E,e.Ok
def v5(n:Nf)(i:Nat):Prop:=(n.E.getD i default).In n.L n.S∧(0<i→(n.E.getD (i-1) default).lt (n.E.getD i default))
instance (n:Nf):DecidablePred n.v5:=fun i=>by unfold v5;infer_instance
def code(n:Nf):Int:=
 if n.L<1∨n.L>6∨n.S<0∨n.S>64 then 1
 else if¬(n.st<2^n.S.toNat∧n.fin<2^n.S.toNat)then 4
 else if∀i,i<n.E.length→n.v5 i then 0 else 4
structure Good(n:Nf):Prop where
 L1:1≤n.L
 L6:n.L≤6
 S0:0≤n.S
 S64:n.S≤64
 st:n.st<2^n.S.toNat
 fin:n.fin<2^n.S.toNat
 E:∀e∈n.E,e.In n.L n.S
theorem aop{n:Nf}(h:n.code=0):n.Good:=by
 unfold code at h;split at h
 ·omega
 rename_i h1;split at h
 ·omega
 rename_i h2;split at h
 ·rename_i h3;have h2':=Classical.not_not.1 h2;refine⟨by omega,by omega,by omega,by omega,h2'.1,h2'.2,fun e he=> ?_⟩;obtain⟨i,hi,rfl⟩:=GK he;have:=(h3 i hi).1;grind
 ·omega
end Nf
theorem ac6{n:Nat}(h:n≤64):wrap .u64 (wrap .u64 (1*2^(min n (IntKind.bits .u64)))-1)=((2^n-1:Nat):Int):=by
 rw[wrap_u64,wrap_u64];have e:min n (IntKind.bits .u64)=n:=GL h;rw[e];by_cases hn:n=64
 ·grind
 ·have h1:2^n<2^64:=xp (by omega) (by omega);grind
theorem Ox{a n:Nat}:a<2^n↔∀i,n≤i→a.testBit i=false:=by
 constructor
 ·intro h i hi;exact Nat.testBit_lt_two_pow (lZ h (zd (by omega) hi))
 ·intro h;exact Nat.lt_pow_two_of_testBit a h
theorem UO{a n:Nat}(ha:a<2^64)(hn:n≤64):
  (wrap .u64 ((BitVec.ofInt (IntKind.bits .u64) (a:Int)&&& ~~~ BitVec.ofInt (IntKind.bits .u64) ((2^n-1:Nat):Int)).toNat)=0)↔a<2^n:=by
 obtain⟨D,h1,h2,h3⟩:=u64_andNot (2^n-1) ha;rw[h3,Ox];constructor
 ·grind
 ·intro h;have:D=0:=by
   apply MP;grind
  omega
theorem ac7{a b n:Nat}:a|||b<2^n↔a<2^n∧b<2^n:=by
 rw[Ox,Ox,Ox];grind
def xY(set:Nat)(l:Int)(a:Nat)(e:Ed):Nat:=if e.l=l∧set.testBit e.f.toNat=true then a|||2^e.t.toNat else a
def my(E:List Ed)(set:Nat)(l:Int):Nat:=E.foldl (xY set l) 0
theorem aoq{set a k:Nat}{l:Int}{e:Ed}(ha:a<2^k)(he:e.t.toNat<k):xY set l a e<2^k:=by
 unfold xY;split
 ·exact GM ha (xp (by omega) he)
 ·exact ha
theorem ac8{set k:Nat}{l:Int}:∀(E:List Ed) (a:Nat),a<2^k→(∀e∈E,e.t.toNat<k)→E.foldl (xY set l) a<2^k
 | [],a,ha,_=>ha
 |e::E,a,ha,h=>ac8 E _ (aoq ha (h e (by simp))) (fun e' he=>h e' (by simp[he]))
theorem UP{set k:Nat}{l:Int}{E:List Ed}(h:∀e∈E,e.t.toNat<k):my E set l<2^k:=
 ac8 E 0 (GB (by simp)) h
theorem Ed.In.nat{L S:Int}{e:Ed}(h:e.In L S)(hS:S≤64):∃f t:Nat,e.f=(f:Int)∧e.t=(t:Int)∧f<64∧t<64∧f<S.toNat∧t<S.toNat:=by
 unfold Ed.In at h;exact⟨e.f.toNat,e.t.toNat,by omega,by omega,by omega,by omega,by omega,by omega⟩
theorem ac9{set:Nat}{l:Int}{j:Nat}:∀(E:List Ed) (a:Nat),(E.foldl (xY set l) a).testBit j=(a.testBit j||E.any fun e=>decide (e.l=l)&&(set.testBit e.f.toNat&&decide (e.t.toNat=j)))
 | [],a=>by simp
 |e::E,a=>by
  rw[List.foldl_cons,ac9 E,List.any_cons];unfold xY;by_cases h1:e.l=l
  ·cases hb:set.testBit e.f.toNat with
   |true=>simp[h1,Dx,Bool.or_assoc]
   |false=>simp[h1]
  ·simp[h1]
theorem Il{E:List Ed}{set:Nat}{l:Int}{j:Nat}:(my E set l).testBit j=E.any fun e=>decide (e.l=l)&&(set.testBit e.f.toNat&&decide (e.t.toNat=j)):=by
 unfold my;rw[ac9];simp
end Go.AM
namespace Go.AM
open Go.IntKind (wrap)
theorem aor:∀(x:Nat),x≠0→∃k m,x=2^k*(2*m+1):=by
 intro x
 induction x using Nat.strongRecOn with
 |ind x ih=>
  intro hx;by_cases h:x %2=1
  ·exact⟨0,x/2,by simp;omega⟩
  ·obtain⟨k,m,hm⟩:=ih (x/2) (by omega) (by omega);refine⟨k+1,m,?_⟩;rw[Nat.pow_succ,Nat.mul_assoc,ze 2 (2*m+1),←Nat.mul_assoc,←hm];omega
theorem Oy{k m j:Nat}:(2^k*(2*m+1)).testBit j=(decide (j=k)||(decide (k<j)&&m.testBit (j-k-1))):=by
 rw[Nat.testBit_two_pow_mul];by_cases h:j<k
 ·grind
 ·by_cases h2:j=k
  ·grind
  ·have h3:k<j:=by omega
   obtain⟨d,hd⟩:∃d,j-k=d+1:=⟨j-k-1,by omega⟩
   grind
theorem ada{k m j:Nat}:(2^k*(2*m)).testBit j=(decide (k<j)&&m.testBit (j-k-1)):=by
 rw[Nat.testBit_two_pow_mul];by_cases h:j<k
 ·grind
 ·by_cases h2:j=k
  ·grind
  ·have h3:k<j:=by omega
   obtain⟨d,hd⟩:∃d,j-k=d+1:=⟨j-k-1,by omega⟩
   grind
theorem Oz{k m:Nat}(h:2^k*(2*m+1)<2^64):k<64∧m<2^(63-k):=by
 have h1:2^k≤2^k*(2*m+1):=Nat.le_mul_of_pos_right _ (by omega);have hk:k<64:=(Nat.pow_lt_pow_iff_right (by omega:1<2)).1 (Dt h1 h);refine⟨hk,?_⟩;have h2:2^64=2^k*(2*2^(63-k)):=by
  have h4:2*2^(63-k)=2^(63-k+1):=by omega
  rw[h4,←Nat.pow_add];grind
 rw[h2]at h;have:=Nat.lt_of_mul_lt_mul_left h;omega
theorem aos{k m:Nat}(h:2^k*(2*m+1)<2^64):2^64-2^k*(2*m+1)=2^k*(2*(2^(63-k)-(m+1))+1):=by
 obtain⟨hk,hm⟩:=Oz h;have h2:2^64=2^k*(2*2^(63-k)):=by
  have h4:2*2^(63-k)=2^(63-k+1):=by omega
  rw[h4,←Nat.pow_add];grind
 rw[h2,←Nat.mul_sub];grind
theorem aot{k m:Nat}(h:2^k*(2*m+1)<2^64):(2^k*(2*m+1))&&&(2^64-2^k*(2*m+1))=2^k:=by
 obtain⟨hk,hm⟩:=Oz h;rw[aos h];apply MP;intro j;rw[Nat.testBit_and,Oy,Oy,Dx,Nat.testBit_two_pow_sub_succ hm];grind
theorem aou{k m:Nat}:(2^k*(2*m+1))&&&(2^k*(2*m+1)-1)=2^k*(2*m):=by
 have e:2^k*(2*m+1)-1=2^k*(2*m)+(2^k-1):=by
  grind
 rw[e];apply MP;intro j;have aO:2^k-1<2^k:=by grind
 rw[Nat.testBit_and,Oy,ada,Nat.testBit_two_pow_mul_add _ aO,Nat.testBit_two_pow_sub_one];by_cases h1:j<k
 ·grind
 ·by_cases h2:j=k
  ·grind
  ·have h3:k<j:=by omega
   obtain⟨d,hd⟩:∃d,j-k=d+1:=⟨j-k-1,by omega⟩
   grind
def mem(s:Nat):List Nat:=(List.range 64).filter s.testBit
theorem aov{p q:Nat→Bool}{k:Nat}(hp:p k=true)(hq:∀j,j≤k→q j=false)(aGY:∀j,j<k→p j=false)(heq:∀j,k<j→p j=q j):
  ∀n,k<n→(List.range n).filter p=k::(List.range n).filter q:=by
 have hz:∀n,n≤k→(List.range n).filter p=[]∧(List.range n).filter q=[]:=by
  intro n hn;constructor<;>rw[List.filter_eq_nil_iff]<;>intro j hj<;>rw[gn]at hj
  all_goals grind
 intro n
 induction n with
 |zero=>omega
 |succ n ih=>
  intro hk;rw[zc,GI,GI];grind
theorem aow:mem 0=[]:=by
 unfold mem;rw[List.filter_eq_nil_iff];intro j _;simp
theorem aox{k m:Nat}(hk:k<64):mem (2^k*(2*m+1))=k::mem (2^k*(2*m)):=by
 unfold mem;refine aov ?_ ?_ ?_ ?_ 64 hk
 ·grind
 ·grind
 ·grind
 ·intro j hj;rw[Oy,ada];grind
theorem mem_iff{s j:Nat}(hs:s<2^64):j∈mem s↔s.testBit j=true:=by
 unfold mem;rw[AR,gn];refine⟨fun h=>h.2,fun h=>⟨?_,h⟩⟩;by_cases hj:j<64
 ·exact hj
 ·have:s.testBit j=false:=Nat.testBit_lt_two_pow (lZ hs (zd (by omega) (by omega)));grind
theorem adb(s:Nat):(mem s).length≤64:=by
 unfold mem;grind
end Go.AM
set_option maxRecDepth 100000
namespace Go.AM
open Go.IntKind (wrap)
open Go.Proofs
noncomputable def ade(C:af)(x:Int):Option LV:=
 bif x==0 then
  some [vI 64]
 else
  bif (decide (0≤(Int.fdiv (wrap .u64 (285870213051353865*(wrap .u64 ((BitVec.ofInt (IntKind.bits .u64) x&&&BitVec.ofInt (IntKind.bits .u64) (wrap .u64 (0-x))).toNat)))) (2^(min (58:Int).toNat (IntKind.bits .u64))))))&&(decide ((Int.fdiv (wrap .u64 (285870213051353865*(wrap .u64 ((BitVec.ofInt (IntKind.bits .u64) x&&&BitVec.ofInt (IntKind.bits .u64) (wrap .u64 (0-x))).toNat)))) (2^(min (58:Int).toNat (IntKind.bits .u64))))<64))then
  (((By).drop ((Int.fdiv (wrap .u64 (285870213051353865*(wrap .u64 ((BitVec.ofInt (IntKind.bits .u64) x&&&BitVec.ofInt (IntKind.bits .u64) (wrap .u64 (0-x))).toNat)))) (2^(min (58:Int).toNat (IntKind.bits .u64))):Int).toNat*1))[0]?).bind fun x1=>
  bif fJ Tryz.prog 5 x1 then
   some [vI (wrap .i64 x1.toInt)]
  else none
  else none
theorem aoy{x:Int}{r:Option LV}(h:ade CC x=r):CC 112 [.int .u64 x]=r:=bj (L:=bh) an h
def Im(k:Nat):Nat:=285870213051353865*2^k %18446744073709551616/288230376151711744
theorem aoz:(List.range 64).map (fun k=>(By.drop (Im k*1))[0]?)=(List.range 64).map (fun k:Nat=>some (V.int .u8 (k:Int))):=by kernel_rfl
theorem aoA:(List.range 64).all (fun k=>Nat.blt (Im k) 64)=true:=by kernel_rfl
theorem aoB{k:Nat}(hk:k<64):(By.drop (Im k*1))[0]? =some (V.int .u8 (k:Int)):=by
 have h:=congrArg (·[k]?) aoz;simpa[hk]using h
theorem aoC{k:Nat}(hk:k<64):Im k<64:=by
 have h:=im.1 aoA k (gn.2 hk);simpa[nF]using h
theorem aoD(z:Int):fJ Tryz.prog 5 (.int .u8 z)=true:=by kernel_rfl
theorem aoE{k m:Nat}(h:2^k*(2*m+1)<2^64):CC 112 [.int .u64 ((2^k*(2*m+1):Nat):Int)]=some [vI (k:Int)]:=by
 obtain⟨hk,hm⟩:=Oz h;have gg:0<2^k*(2*m+1):=Nat.mul_pos (GB (by simp)) (by omega);refine aoy ?_;unfold ade;generalize hx:2^k*(2*m+1)=x at*
 have e1:wrap .u64 (0-(x:Int))=((2^64-x:Nat):Int):=by rw[wrap_u64];omega
 have e2:x&&&(2^64-x)=2^k:=by rw[←hx];exact aot (by rw[hx];exact h)
 have Bz:2^k<2^64:=xp (by omega) hk;have e3:wrap .u64 (285870213051353865*((2^k:Nat):Int))=((285870213051353865*2^k %18446744073709551616:Nat):Int):=by rw[wrap_u64];omega
 have e4:Int.fdiv ((285870213051353865*2^k %18446744073709551616:Nat):Int) (2^(min (58:Int).toNat (IntKind.bits .u64)))=((Im k:Nat):Int):=by
  have:=aoF (A:=285870213051353865*2^k %18446744073709551616) (m:=58) (by omega);exact this
 rw[aoG,fZ,e1,u64_and h (by omega),e2,e3,e4,Int.toNat_natCast,aoB hk];have hb:=aoC hk;rw[v7,fT,dG,fT,dG];simp only[Option.bind_some,aoD,cond_true,V.toInt_int];rw[lF]
noncomputable def Io(C:af)(cf:Int)(Ip:LV){β:Type}(kn:(Int×LV)→Option β)(kr:(Int×Bool×LV)→Option β):Option β:=
 bif cf != 0 then
  (C 112 [.int .u64 cf]).bind fun r1=>
  bif Nat.ble ((Ip.length+([vI (gI r1)]:LV).length)*8) aR then
  kn (wrap .u64 ((BitVec.ofInt (IntKind.bits .u64) cf&&&BitVec.ofInt (IntKind.bits .u64) (wrap .u64 (cf-1))).toNat),Ip++([vI (gI r1)]:LV))
  else none
 else
  kr (cf,cf != 0,Ip)
noncomputable def Iq(C:af):=un fun cf Ip=>Io C cf Ip (fun y=>some (Sum.inl y)) (fun r=>some (Sum.inr r))
noncomputable def aoH(C:af):cp:=bz 33 UQ [true,true] [[0,0,0]] (@Io C) bh
theorem aoI(C:af):bn C (aoH C) 124 (Lp [1,1,0,0,0] 124):=bA UQ [true,true] [[0,0,0]] (@Io C) (ba an)
noncomputable def adf(C:af)(cf:Int):Option LV:=
 (Loop (Iq C) (cf,([]:LV))).bind (un fun aGZ=>un fun(iU:Bool) (aoJ:LV)=>
  some [ab aoJ])
theorem aoK{cf:Int}{r:Option LV}(h:adf CC cf=r):CC 124 [.int .u64 cf]=r:=bj (bp (aoI CC) an) h
def rj(l:List Nat):List V:=l.map fun(k:Nat)=>vI (k:Int)
theorem aoL:∀(s:Nat),s<2^64→∀acc:List V,acc.length+(mem s).length≤64→Loop (Iq CC) ((s:Int),acc)=some (0,false,acc++rj (mem s)):=by
 intro s
 induction s using Nat.strongRecOn with
 |ind s ih=>
  intro hs acc hl;by_cases h0:s=0
  ·subst h0;refine gH ?_;simp[Iq,Io,un,aow,rj]
  ·obtain⟨k,m,rfl⟩:=aor s h0;obtain⟨hk,hm⟩:=Oz hs;have gg:0<2^k:=GB (by simp);have aO:2^k*(2*m)<2^k*(2*m+1):=Nat.mul_lt_mul_of_pos_left (by omega) gg;have xZ:=aox (m:=m) hk;rw[xZ,List.length_cons]at hl;have hp:((2^k*(2*m+1):Nat):Int)-1=((2^k*(2*m+1)-1:Nat):Int):=by omega
   have cv:Iq CC (((2^k*(2*m+1):Nat):Int),acc)=some (.inl (((2^k*(2*m):Nat):Int),acc++[vI (k:Int)])):=by
    simp only[Iq,Io,un];rw[Ex,fZ,aoE hs];simp only[Option.bind_some,V.sy,V.toInt_int,gI,gL,gB,gS];rw[hp,Ir (A:=2^k*(2*m+1)-1) (by omega),u64_and hs (by omega),aou,UR,aF (by rw[Is];simp only[List.length_cons,List.length_nil];omega)]
   rw[gp cv,ih _ aO (by omega) _ (by simp only[gY,List.length_cons,List.length_nil];omega),xZ];simp[rj]
theorem aoM{s:Nat}(hs:s<2^64):CC 124 [.int .u64 (s:Int)]=some [ab (rj (mem s))]:=by
 refine aoK ?_;unfold adf;have:=aoL s hs [] (by simpa using adb s);rw[this];simp[un]
noncomputable def It(C:af)(r':LV)(t17:Int)(US:LV)(image t18:Int){β:Type}(kn:(Int×Int)→Option β)(kr:(Int×Int×Bool)→Option β):Option β:=
 bif decide (t18<t17)then
  aA US t18 fun x4=>
  (idx r' x4.toInt).bind fun x5=>
  kn (wrap .u64 ((BitVec.ofInt (IntKind.bits .u64) image|||BitVec.ofInt (IntKind.bits .u64) x5.toInt).toNat),wrap .i64 (t18+1))
 else
  kr (image,t18,decide (t18<t17))
noncomputable def Iu(C:af)(r':LV)(t17:Int)(US:LV):=un fun image t18=>It C r' t17 US image t18 (fun y=>some (Sum.inl y)) (fun r=>some (Sum.inr r))
noncomputable def aoN(C:af):cp:=bz 81 UT [Q0,Q1,Q0,Q1,Q0] [[1,0,3,0,0,5]] (@It C) bh
theorem aoO(C:af):bn C (aoN C) 81 (Lp [1,1,1,0,1,0,0] 81):=bA UT [Q0,Q1,Q0,Q1,Q0] [[1,0,3,0,0,5]] (@It C) (ba an)
noncomputable def adg(C:af)(r':LV)(cf:Int):Option LV:=
 (C 123 [ew r']).bind fun r1=>
 bif !(gB r1)then
  some [.int .u64 0]
 else
  (C 125 [vI (r'.length:Int)]).bind fun r2=>
  (C 124 [.int .u64 (wrap .u64 ((BitVec.ofInt (IntKind.bits .u64) cf&&&BitVec.ofInt (IntKind.bits .u64) (gI r2)).toNat))]).bind fun r3=>
  (Loop (Iu C r' ((gL r3).length:Int) (gL r3)) (0,0)).bind (un fun aoP=>un fun(ng:Int) (v8:Bool)=>
   some [.int .u64 aoP])
theorem aoQ{r':LV}{cf:Int}{r:Option LV}(h:adg CC r' cf=r):CC 81 [ew r',.int .u64 cf]=r:=bj (bp (aoO CC) an) h
noncomputable def Iw(C:af)(r' t8:LV)(t9 t10:Int){β:Type}(kn:Int→Option β)(kr:((Bool) ⊕ (Int×Bool))→Option β):Option β:=
 bif decide (t10<t9)then
  (idx t8 t10).bind fun x1=>
  (C 125 [vI (r'.length:Int)]).bind fun r2=>
  bif ((wrap .u64 ((BitVec.ofInt (IntKind.bits .u64) x1.toInt&&& ~~~ BitVec.ofInt (IntKind.bits .u64) (gI r2)).toNat)):Int) != 0 then
  kr (.inl false)
  else
  kn (wrap .i64 (t10+1))
 else
  kr (.inr (t10,decide (t10<t9)))
noncomputable def Ix(C:af)(r' t8:LV)(t9:Int):=fun t10=>Iw C r' t8 t9 t10 (fun y=>some (Sum.inl y)) (fun r=>some (Sum.inr r))
noncomputable def aoR(C:af):cp:=bz 65 UU [Q0,Q0,Q0,Q1] [[0],[1,2,3,0,0]] (@Iw C) bh
theorem aoS(C:af):bn C (aoR C) 123 (Lp [1,1,0,1,0,0] 123):=bA UU [Q0,Q0,Q0,Q1] [[0],[1,2,3,0,0]] (@Iw C) (ba an)
noncomputable def adh(C:af)(r':LV):Option LV:=
 bif decide ((r'.length:Int)>64)then
  some [.bool false]
 else
  (Loop (Ix C r' r' (r'.length:Int)) 0).bind (ed (fun(iU:Bool)=>
   some [.bool iU]) (un fun(mr:Int) (mu:Bool)=>
   some [.bool true]))
theorem aoT{r':LV}{r:Option LV}(h:adh CC r'=r):CC 123 [ew r']=r:=bj (bp (aoS CC) an) h
noncomputable def adi(C:af)(n:Int):Option LV:=
 bif decide (0≤n)then
  some [.int .u64 (wrap .u64 ((wrap .u64 (1*2^(min n.toNat (IntKind.bits .u64))))-1))]
 else none
theorem aoU{n:Int}{r:Option LV}(h:adi CC n=r):CC 125 [vI n]=r:=bj (L:=bh) an h
def U1(R:List Nat):List V:=R.map fun(x:Nat)=>V.int .u64 (x:Int)
def U2(T:List (List Nat)):List V:=T.map fun R=>ew (U1 R)
theorem adj:Tryz.prog.underlying 64=some (.slice 39):=by kernel_rfl
theorem UW:bW Tryz.prog 64=false:=by kernel_rfl
theorem adk{P:Program}{e e1:TypeId}{l:List V}(hu:P.underlying e=some (.slice e1))(ha:bW P e=false):parts P e (.list e1 l)=[.list e1 l]:=by
 unfold parts;rw[ha];simp only[cond_false,iq,hu,V.eo]
theorem aoV{T:List (List Nat)}{i:Nat}{R:List Nat}(h:T[i]? =some R):ez Tryz.prog 64 (U2 T) [(i,0)]=some (ew (U1 R)):=by
 have e:(U2 T)[i]? =some (ew (U1 R)):=by unfold U2;rw[jX,h];rfl
 simp only[ez,e,Option.bind_some];rw[adk adj UW];rfl
theorem aoW{T:List (List Nat)}{i:Nat}{R R':List Nat}(h:T[i]? =some R):setRow Tryz.prog (U1 R') 64 (U2 T) [(i,0)]=U2 (T.set i R'):=by
 have e:(U2 T)[i]? =some (ew (U1 R)):=by unfold U2;rw[jX,h];rfl
 simp only[setRow,e];rw[adk adj UW];simp only[List.getElem?_cons_zero,List.set_cons_zero,dy,UW,cond_false,V.sy,gI,gL,gB,gS];exact(GJ (f:=fun R=>ew (U1 R))).symm
theorem UX{R:List Nat}{i a:Nat}(h:R[i]? =some a):(U1 R)[i]? =some (.int .u64 (a:Int)):=by unfold U1;grind
theorem aoX(R:List Nat)(i a:Nat):(U1 R).set i (.int .u64 (a:Int))=U1 (R.set i a):=(GJ (f:=fun(x:Nat)=>V.int .u64 (x:Int))).symm
@[simp] theorem ya (R:List Nat):(U1 R).length=R.length:=by simp[U1]
@[simp] theorem aG0 (T:List (List Nat)):(U2 T).length=T.length:=by simp[U2]
theorem adl{g:Nat→Nat}{j:Nat}:∀(l:List Nat) (a:Nat),(l.foldl (fun a p=>a|||g p) a).testBit j=(a.testBit j||l.any fun p=>(g p).testBit j)
 | [],a=>by simp
 |p::l,a=>by rw[List.foldl_cons,adl l];grind
def oA(L S:Nat)(E:List Ed):List (List Nat):=(List.range L).map fun(x:Nat)=>(List.range S).map fun(p:Nat)=>my E (2^p) (x:Int)
theorem UY{L S:Nat}{E:List Ed}{x:Nat}(hx:x<L):(oA L S E)[x]? =some ((List.range S).map fun(p:Nat)=>my E (2^p) (x:Int)):=by simp[oA,hx]
theorem aoY{L S:Nat}{E:List Ed}{e:Ed}{l f:Nat}(hl:e.l=(l:Int))(hf:e.f=(f:Int))(UZ:l<L)(hfS:f<S):
  (oA L S E).set l (((List.range S).map fun(p:Nat)=>my E (2^p) (l:Int)).set f (my E (2^f) (l:Int)|||2^e.t.toNat))=oA L S (E++[e]):=by
 apply GN;intro x;rw[Dy];by_cases hx:x<L
 ·simp only[UY hx];by_cases pf:l=x
  ·subst pf;rw[aF rfl,aF (by simp[oA,hx]),eU];apply GN;intro p;rw[Dy];by_cases hp:p<S
   ·by_cases OE:f=p
    ·subst OE;rw[aF rfl,aF (by simp[hp])];simp[hp,my,AT,xY,hl,hf]
    ·rw[aD OE];simp[hp,my,AT,xY,hl,hf,Dx,Ne.symm OE,fun h:p=f=>OE h.symm]
   grind
  ·rw[aD pf,eU];apply qA;intro p _;have:¬e.l=(x:Int):=by omega
   simp[my,AT,xY,this]
 ·have h1:¬l=x:=by omega
  rw[aD h1];simp[oA,hx]
theorem aoZ{α:Type}(a b:α)(i d:Nat):(List.replicate i a++List.replicate (d+1) b).set i a=List.replicate (i+1) a++List.replicate d b:=by
 rw[List.set_append_right _ _ (by simp),xo,Nat.sub_self,List.replicate_succ,List.set_cons_zero,List.replicate_succ',eY];rfl
noncomputable def adm(C:af)(n:Int):Option LV:=
 bif decide (0≤n)then
  some [.int .u64 (wrap .u64 ((wrap .u64 (1*2^(min n.toNat (IntKind.bits .u64))))-1))]
 else none
theorem ao0{n:Int}{r:Option LV}(h:adm CC n=r):CC 53 [vI n]=r:=bj (L:=bh) an h
noncomputable def adn(C:af)(pg ph pj OG OH OI:Int):Option LV:=
 (C 57 [vI pg,vI OG]).bind fun r1=>
 (C 57 [vI ph,vI OH]).bind fun r2=>
 (C 57 [vI pj,vI OI]).bind fun r3=>
 (C 56 [ab ([vI (gI r1),vI (gI r2),vI (gI r3)]:LV)]).bind fun r4=>
 some [vI (gI r4)]
theorem ao1{pg ph pj OG OH OI:Int}{r:Option LV}(h:adn CC pg ph pj OG OH OI=r):CC 30 [vI pg,vI ph,vI pj,vI OG,vI OH,vI OI]=r:=bj (L:=bh) an h
noncomputable def ado(C:af)(x y:Int):Option LV:=
 (C 92 [vI x]).bind fun r1=>
 (C 92 [vI y]).bind fun r2=>
 bif (gB r1)then
  bif (gB r2)then
  some [vI 0]
  else
  some [vI (-1)]
 else
  bif (gB r2)then
  some [vI 1]
  else
  bif decide (x<y)then
   some [vI (-1)]
  else
   bif decide (x>y)then
   some [vI 1]
   else
   some [vI 0]
theorem ao2{x y:Int}{r:Option LV}(h:ado CC x y=r):CC 57 [vI x,vI y]=r:=bj (L:=bh) an h
noncomputable def Iy(C:af)(zero:Int)(t6:LV)(t7 t8:Int){β:Type}(kn:Int→Option β)(kr:((Int) ⊕ (Int×Bool))→Option β):Option β:=
 bif decide (t8<t7)then
  (idx t6 t8).bind fun x1=>
  bif (x1.toInt:Int) != zero then
  kr (.inl x1.toInt)
  else
  kn (wrap .i64 (t8+1))
 else
  kr (.inr (t8,decide (t8<t7)))
noncomputable def zS(C:af)(zero:Int)(t6:LV)(t7:Int):=fun t8=>Iy C zero t6 t7 t8 (fun y=>some (Sum.inl y)) (fun r=>some (Sum.inr r))
noncomputable def ao3(C:af):cp:=bz 49 U0 [Q0,Q0,Q0,Q1] [[0],[1,2,3,0,0]] (@Iy C) bh
theorem ao4(C:af):bn C (ao3 C) 56 (Lp [1,1,0,1,0,0] 56):=bA U0 [Q0,Q0,Q0,Q1] [[0],[1,2,3,0,0]] (@Iy C) (ba an)
noncomputable def adp(C:af)(vals:LV):Option LV:=
 (Loop (zS C 0 vals (vals.length:Int)) 0).bind (ed (fun v9=>
  some [vI v9]) (un fun(iU:Int) (mr:Bool)=>
  some [vI 0]))
theorem ao5{vals:LV}{r:Option LV}(h:adp CC vals=r):CC 56 [ab vals]=r:=bj (bp (ao4 CC) an) h
def BA(a b:Int):Int:=if a<b then-1 else if b<a then 1 else 0
def BB(a b:Int):Int:=if a=0 then b else a
def rn(a b:Ed):Int:=BB (BA a.f b.f) (BB (BA a.l b.l) (BA a.t b.t))
theorem OK(a b:Ed):rn a b<0↔a.lt b:=by
 simp only[rn,BB,BA,Ed.lt];omega
theorem ao6(a b:Ed):rn a b=0↔a=b:=by
 cases a;cases b;simp only[rn,BB,BA,Ed.mk.injEq];omega
theorem adq(x:Int):CC 92 [vI x]=some [.bool false]:=by
 refine aok ?_;unfold ac2;simp
theorem U3(x y:Int):CC 57 [vI x,vI y]=some [vI (BA x y)]:=by
 refine ao2 ?_;unfold ado;rw[adq,adq];simp only[Option.bind_some,V.sy,V.Iz,cond_false,fT,BA,gI,gL,gB,gS];grind
theorem ao7(a b c:Int):CC 56 [ab [vI a,vI b,vI c]]=some [vI (BB a (BB b c))]:=by
 refine ao5 ?_;unfold adp;have st:∀(i:Nat) (x:Int),i<3→([vI a,vI b,vI c])[i]? =some (vI x)→
   zS CC 0 [vI a,vI b,vI c] 3 (i:Int)=some (if x=0 then .inl ((i+1:Nat):Int)else .inr (.inl x)):=by
  intro i x hi hx;simp only[zS,Iy,un,fT,IA];rw[dG,hx];simp only[Option.bind_some,V.toInt_int,Ex];split
  ·rw[lF];simp
  ·rfl
 have h0:=st 0 a (by omega) rfl;have h1:=st 1 b (by omega) rfl;have h2:=st 2 c (by omega) rfl;have e:Loop (zS CC 0 [vI a,vI b,vI c] 3) 0=some (if a≠0 then .inl a else if b≠0 then .inl b else if c≠0 then .inl c else .inr (3,false)):=by
  by_cases ha:a=0
  ·rw[aF ha]at h0;rw[gp (show zS CC 0 [vI a,vI b,vI c] 3 0=_ from h0),aD (by omega)];by_cases hb:b=0
   ·rw[aF hb]at h1;rw[gp h1,aD (by omega)];by_cases hc:c=0
    ·rw[aF hc]at h2;rw[gp h2,aD (by omega)];refine gH ?_;simp[zS,Iy,un]
    ·rw[aD hc]at h2;rw[gH h2,aF hc]
   ·rw[aD hb]at h1;rw[gH h1,aF hb]
  ·rw[aD ha]at h0;rw[gH (show zS CC 0 [vI a,vI b,vI c] 3 0=_ from h0),aF ha]
 have e':Loop (zS CC 0 [vI a,vI b,vI c] (([vI a,vI b,vI c]:List V).length:Int)) 0=_:=e;rw[e'];simp only[BB];by_cases ha:a=0
 ·by_cases hb:b=0
  ·by_cases hc:c=0
   ·simp[ha,hb,hc,ed,un]
   ·simp[ha,hb,hc,ed,un]
  ·simp[ha,hb,ed,un]
 ·simp[ha,ed,un]
theorem adr(a b:Ed):CC 30 [vI a.f,vI a.l,vI a.t,vI b.f,vI b.l,vI b.t]=some [vI (rn a b)]:=by
 refine ao1 ?_;unfold adn;rw[U3,U3,U3];simp only[Option.bind_some,V.sy,V.toInt_int,gI,gL,gB,gS];rw[ao7];simp[rn]
theorem ao8{n:Int}(h0:0≤n)(h1:n≤64):CC 53 [vI n]=some [.int .u64 ((2^n.toNat-1:Nat):Int)]:=by
 refine ao0 ?_;unfold adm;rw[fT,aF h0,ac6 (by omega)]
theorem OL{E:List Ed}{i:Nat}(h:i<E.length):idx (E.map Ed.enc) (i:Int)=some (E.getD i default).enc:=by
 simp_all
noncomputable def IB(C:af)(t34:LV)(t35 p7 mz rp pk:Int)(wa:LV)(t36:Int){β:Type}(kn:Int→Option β)(kr:((Int) ⊕ (Int×Bool))→Option β):Option β:=
 bif decide (t36<t35)then
  (idx t34 t36).bind fun x2=>
  bif decide (((if((x2.cell 2).toInt)<(if((x2.cell 1).toInt)<((x2.cell 0).toInt)then((x2.cell 1).toInt)else((x2.cell 0).toInt))then((x2.cell 2).toInt)else(if((x2.cell 1).toInt)<((x2.cell 0).toInt)then((x2.cell 1).toInt)else((x2.cell 0).toInt))):Int)<0)then
  kr (.inl 4)
  else
  bif decide (((if((x2.cell 2).toInt)>((x2.cell 0).toInt)then((x2.cell 2).toInt)else((x2.cell 0).toInt)):Int)≥mz)then
   kr (.inl 4)
  else
   bif decide ((((x2.cell 1).toInt):Int)≥p7)then
   kr (.inl 4)
   else
   bif decide (t36>0)then
    (idx wa (wrap .i64 (t36-1))).bind fun x3=>
    bif ((((x3.cell 0).toInt):Int)==((x2.cell 0).toInt))&&(((((x3.cell 1).toInt):Int)==((x2.cell 1).toInt))&&(((((x3.cell 2).toInt):Int)==((x2.cell 2).toInt))&&true))then
    kr (.inl 4)
    else
    (idx wa (wrap .i64 (t36-1))).bind fun x4=>
    (C 30 [vI ((x4.cell 0).toInt),vI ((x4.cell 1).toInt),vI ((x4.cell 2).toInt),vI ((x2.cell 0).toInt),vI ((x2.cell 1).toInt),vI ((x2.cell 2).toInt)]).bind fun r5=>
    bif decide (((gI r5):Int)>0)then
     kr (.inl 4)
    else
     kn (wrap .i64 (t36+1))
   else
    kn (wrap .i64 (t36+1))
 else
  kr (.inr (t36,decide (t36<t35)))
noncomputable def OM(C:af)(t34:LV)(t35 p7 mz rp pk:Int)(wa:LV):=fun t36=>IB C t34 t35 p7 mz rp pk wa t36 (fun y=>some (Sum.inl y)) (fun r=>some (Sum.inr r))
noncomputable def ao9(C:af):cp:=bz 97 U4 [Q0,Q0,Q1,Q0,Q0,Q0,Q0,Q0] [[0],[1,2,0,0,4,5,6,7,8]] (@IB C) bh
theorem apa(C:af):bn C (ao9 C) 28 (Lp [1,1,1,0,1,0,0] 28):=bA U4 [Q0,Q0,Q1,Q0,Q0,Q0,Q0,Q0] [[0],[1,2,0,0,4,5,6,7,8]] (@IB C) (ba an)
noncomputable def ads(C:af)(fu g9 iy iN:Int)(gQ:LV):Option LV:=
 bif decide (fu<1)then
  some [vI 1]
 else
  bif decide (fu>6)then
  some [vI 1]
  else
  bif decide (g9<0)then
   some [vI 1]
  else
   bif decide (g9>64)then
   some [vI 1]
   else
   (C 53 [vI g9]).bind fun r1=>
   bif ((wrap .u64 ((BitVec.ofInt (IntKind.bits .u64) (wrap .u64 ((BitVec.ofInt (IntKind.bits .u64) iy|||BitVec.ofInt (IntKind.bits .u64) iN).toNat))&&& ~~~ BitVec.ofInt (IntKind.bits .u64) (gI r1)).toNat)):Int) != 0 then
    some [vI 4]
   else
    (Loop (OM C gQ (gQ.length:Int) fu g9 iy iN gQ) 0).bind (ed (fun jD=>
     some [vI jD]) (un fun(ng:Int) (v8:Bool)=>
     some [vI 0]))
theorem apb{fu g9 iy iN:Int}{gQ:LV}{r:Option LV}(h:ads CC fu g9 iy iN gQ=r):CC 28 [vI fu,vI g9,.int .u64 iy,.int .u64 iN,ec gQ]=r:=bj (bp (apa CC) an) h
theorem apc(n:Nf)(h:n.Ok):Loop (OM CC (n.E.map Ed.enc) ((n.E.map Ed.enc).length:Int) n.L n.S n.st n.fin (n.E.map Ed.enc)) 0=some (if∀i,i<n.E.length→n.v5 i then .inr ((n.E.length:Int),false)else .inl 4):=by
 have hl:=h.len;have hm:=ON;refine U5 (good:=n.v5) n.E.length (fun i=>(i:Int)) (Sum.inl 4:Int ⊕ (Int×Bool)) (Sum.inr ((n.E.length:Int),false)) (fun i hi=> ?_) ?_
 ·simp only[OM,IB,un,cT,fT];rw[dG,OL hi];simp only[Option.bind_some,Ed.Eu,Ed.Ev,Ed.Ew];generalize he:n.E.getD i default=e;by_cases iu:e.In n.L n.S
  ·have apd:=iu;unfold Ed.In at apd;rw[aD (by omega),aD (by omega),fZ];by_cases hi0:(i:Int)>0
   ·rw[aF hi0,lF];have e1:(i:Int)-1=((i-1:Nat):Int):=by omega
    rw[e1,OL (by omega)];simp only[Option.bind_some,Ed.Eu,Ed.Ev,Ed.Ew];generalize hp:n.E.getD (i-1) default=p;rw[adr];simp only[Option.bind_some,V.sy,V.toInt_int,fT,gI,gL,gB,gS];by_cases Bg:p.lt e
    ·have hx:n.v5 i:=⟨by grind,fun _=>by grind⟩
     have h1:¬rn p e>0:=by have:=(OK p e).2 Bg;omega
     rw[aF hx,aD h1];have h2:(((p.f:Int)==e.f)&&((p.l==e.l)&&((p.t==e.t)&&true)))=false:=by
      unfold Ed.lt at Bg;grind
     rw[h2,cond_false,lF];simp
    ·have hx:¬n.v5 i:=fun hx=>Bg (by have:=hx.2 (by omega);grind);rw[aD hx];by_cases hpq:p=e
     ·grind
     ·have h1:rn p e>0:=by
       have h3:¬rn p e<0:=fun hx=>Bg ((OK p e).1 hx);have h4:¬rn p e=0:=fun hx=>hpq ((ao6 p e).1 hx);omega
      grind
   ·have hx:n.v5 i:=⟨by grind,fun _=>by omega⟩
    rw[aD hi0,aF hx,lF];simp
  ·have hx:¬n.v5 i:=fun hx=>iu (by have:=hx.1;grind);rw[aD hx];unfold Ed.In at iu;grind
 ·simp only[OM,IB,un,cT,fT];grind
theorem U6(n:Nf)(h:n.Ok):CC 28 (p6 n [])=some [vI n.code]:=by
 refine apb ?_;unfold ads Nf.code;simp only[fT];by_cases h1:n.L<1
 ·grind
 rw[aD h1];by_cases h2:n.L>6
 ·grind
 rw[aD h2];by_cases h3:n.S<0
 ·grind
 rw[aD h3];by_cases h4:n.S>64
 ·grind
 rw[aD h4,ao8 (by omega) (by omega)];simp only[Option.bind_some,V.sy,V.toInt_int,gI,gL,gB,gS];rw[u64_or h.st h.fin,apc n h,aD (show¬(n.L<1∨n.L>6∨n.S<0∨n.S>64) by omega)];have OO:n.st|||n.fin<2^64:=GM h.st h.fin;rw[Ex];by_cases h5:n.st<2^n.S.toNat∧n.fin<2^n.S.toNat
 ·rw[aF ((UO OO (by omega)).2 (ac7.2 h5)),aD (not_not_intro h5)];split<;>simp[ed,un]
 ·rw[aD (fun hx=>h5 (ac7.1 ((UO OO (by omega)).1 hx))),aF h5]
theorem adt{E:List Ed}{i:Nat}(h:i<E.length):E.getD i default=E[i]:=by simp[h]
noncomputable def ID(C:af)(t11 p7 mz rp pk:Int)(wa:LV)(t12:Int)(aE:LV){β:Type}(kn:(Int×LV)→Option β)(kr:(Int×Bool×LV)→Option β):Option β:=
 bif decide (t12<t11)then
  bif (decide (0≤mz))&&((decide (mz≤mz))&&(Nat.ble ((mz.toNat)*8) aR))then
  aA aE t12 fun x1=>
  kn (wrap .i64 (t12+1),bc aE t12 (ew (List.replicate (mz.toNat) (V.int .u64 0))))
  else none
 else
  kr (t12,decide (t12<t11),aE)
noncomputable def IE(C:af)(t11 p7 mz rp pk:Int)(wa:LV):=un fun t12 aE=>ID C t11 p7 mz rp pk wa t12 aE (fun y=>some (Sum.inl y)) (fun r=>some (Sum.inr r))
noncomputable def IF(C:af)(t23:LV)(t24 t25:Int)(aT:LV){β:Type}(kn:(Int×LV)→Option β)(kr:(Int×Bool×LV)→Option β):Option β:=
 bif decide (t25<t24)then
  (idx t23 t25).bind fun x5=>
  aA aT ((x5.cell 1).toInt) fun x6=>
  (ez Tryz.prog 64 aT [(((x5.cell 1).toInt:Int).toNat,0)]).bind fun x7=>
  bif (decide (0≤((x5.cell 0).toInt)))&&(decide (((x5.cell 0).toInt)<(x7.toList.length:Int)))then
  (ez Tryz.prog 64 aT [(((x5.cell 1).toInt:Int).toNat,0)]).bind fun x8=>
  (x8.toList[((x5.cell 0).toInt:Int).toNat]?).bind fun x9=>
  bif decide (0≤((x5.cell 2).toInt))then
   (ez Tryz.prog 64 aT [(((x5.cell 1).toInt:Int).toNat,0)]).bind fun mA=>
   bif (decide (0≤((x5.cell 0).toInt)))&&(decide (((x5.cell 0).toInt)<(mA.toList.length:Int)))then
   (ez Tryz.prog 64 aT [(((x5.cell 1).toInt:Int).toNat,0)]).bind fun np=>
   (np.toList[((x5.cell 0).toInt:Int).toNat]?).bind fun ka=>
   kn (wrap .i64 (t25+1),setRow Tryz.prog (bc np.toList ((x5.cell 0).toInt) (.int .u64 (wrap .u64 ((BitVec.ofInt (IntKind.bits .u64) x9.toInt|||BitVec.ofInt (IntKind.bits .u64) (wrap .u64 (1*2^(min ((x5.cell 2).toInt).toNat (IntKind.bits .u64))))).toNat)))) 64 aT [(((x5.cell 1).toInt:Int).toNat,0)])
   else none
  else none
  else none
 else
  kr (t25,decide (t25<t24),aT)
noncomputable def IG(C:af)(t23:LV)(t24:Int):=un fun t25 aT=>IF C t23 t24 t25 aT (fun y=>some (Sum.inl y)) (fun r=>some (Sum.inr r))
noncomputable def adu(C:af):cp:=bz 49 U7 [Q0,Q1,Q0,Q0,Q0,Q0,Q0,Q1] [[1,0,0,3,4,5,6,7,0]] (@ID C) (bz 129 U8 [Q0,Q0,Q1,Q1] [[1,2,0,0,0]] (@IF C) bh)
theorem ape(C:af):bn C (adu C) 51 (Lp [1,1,0,1,0,0] 51):=bA U7 [Q0,Q1,Q0,Q0,Q0,Q0,Q0,Q1] [[1,0,0,3,4,5,6,7,0]] (@ID C) (ba an)
theorem apf(C:af):bn C (adu C) 51 (Lp [1,1,1,0,1,0,0] 51):=bA U8 [Q0,Q0,Q1,Q1] [[1,2,0,0,0]] (@IF C) (ba an)
noncomputable def adv(C:af)(fu g9 iy iN:Int)(gQ:LV):Option LV:=
 bif (decide (0≤fu))&&((decide (fu≤fu))&&(Nat.ble ((fu.toNat)*24) aR))then
  (Loop (IE C ((List.replicate (fu.toNat) (ew ([]:LV))).length:Int) fu g9 iy iN gQ) (0,List.replicate (fu.toNat) (ew ([]:LV)))).bind (un fun v9=>un fun(iU:Bool) (U9:LV)=>
   (Loop (IG C gQ (gQ.length:Int)) (0,U9)).bind (un fun yb=>un fun(wb:Bool) (sA:LV)=>
    some [oB sA]))
 else none
theorem apg{fu g9 iy iN:Int}{gQ:LV}{r:Option LV}(h:adv CC fu g9 iy iN gQ=r):CC 51 [vI fu,vI g9,.int .u64 iy,.int .u64 iN,ec gQ]=r:=bj (bp (ape CC) (bp (apf CC) an)) h
theorem adw(n:Nf)(h:n.Ok)(hg:n.Good):CC 51 (p6 n [])=some [oB (U2 (oA n.L.toNat n.S.toNat n.E))]:=by
 have hm:=ON;have hlen:=h.len;have l1:=hg.L1;have l6:=hg.L6;have s0:=hg.S0;have yc:=hg.S64;refine apg ?_;unfold adv;obtain⟨L,hL⟩:∃L:Nat,n.L=(L:Int):=⟨n.L.toNat,by omega⟩
 obtain⟨S,hS⟩:∃S:Nat,n.S=(S:Int):=⟨n.S.toNat,by omega⟩
 simp only[hL,hS,Int.toNat_natCast,xo];rw[v7,fT,dG,v7,fT,dG,UR,aF (by rw[Is];omega)];have e1:Loop (IE CC (L:Int) (L:Int) (S:Int) n.st n.fin (n.E.map Ed.enc)) (0,List.replicate L (ew []))=
   some ((L:Int),false,List.replicate L (ew (U1 (List.replicate S 0)))):=by
  have:=OQ (step:=IE CC (L:Int) (L:Int) (S:Int) n.st n.fin (n.E.map Ed.enc))
   (fun i=>((i:Int),List.replicate i (ew (U1 (List.replicate S 0)))++List.replicate (L-i) (ew []))) L (r:=((L:Int),false,List.replicate L (ew (U1 (List.replicate S 0))))) ?_ ?_
  ·grind
  ·intro i hi;obtain⟨d,hd⟩:∃d,L-i=d+1:=⟨L-i-1,by omega⟩
   have zz:L-(i+1)=d:=by omega
   simp only[IE,ID,un,hd,zz,aA,bc];rw[fT,dG,v7,fT,dG,v7,fT,dG,UR,aF (by rw[Is,Int.toNat_natCast];omega)];rw[v7,fT,dG,fT,aF (by grind),Int.toNat_natCast];have kD:(List.replicate i (ew (U1 (List.replicate S 0)))++List.replicate (d+1) (ew []))[i]? =some (ew []):=by
    grind
   rw[kD];simp only[Option.bind_some,Int.toNat_natCast];have hr:List.replicate S (V.int .u64 0)=U1 (List.replicate S 0):=by simp[U1]
   rw[hr,aoZ,lF];simp
  ·simp only[IE,ID,un,aA,bc];grind
 rw[e1];simp only[Option.bind_some,un];have e0:List.replicate L (ew (U1 (List.replicate S 0)))=U2 (oA L S []):=by
  unfold U2 oA;simp only[my,List.foldl_nil];apply GN;intro i;by_cases hi:i<L
  ·simp only[MQ,hi,qv,jX,Dw,Option.map_some,eU];congr 2;apply GN;grind
  grind
 rw[e0];have e2:Loop (IG CC (n.E.map Ed.enc) ((n.E.map Ed.enc).length:Int)) (0,U2 (oA L S []))=some ((n.E.length:Int),false,U2 (oA L S n.E)):=by
  have:=OQ (step:=IG CC (n.E.map Ed.enc) ((n.E.map Ed.enc).length:Int)) (fun i=>((i:Int),U2 (oA L S (n.E.take i)))) n.E.length (r:=((n.E.length:Int),false,U2 (oA L S n.E))) ?_ ?_
  ·grind
  ·intro i hi;have iu:=hg.E n.E[i] (dw hi);obtain⟨f,t,ef,et,hf,ht,hfS,htS⟩:=iu.nat hg.S64;obtain⟨l,el⟩:∃l:Nat,n.E[i].l=(l:Int):=⟨n.E[i].l.toNat,by unfold Ed.In at iu;omega⟩
   have UZ:l<L:=by unfold Ed.In at iu;omega
   have adx:f<S:=by omega
   simp only[IG,IF,un,cT,aA,bc];rw[fT,dG,OL hi,adt hi];simp only[Option.bind_some,Ed.Eu,Ed.Ev,Ed.Ew,ef,et,el,Int.toNat_natCast];have cR:=UY (S:=S) (E:=n.E.take i) UZ;have hU:(U2 (oA L S (n.E.take i))).length=L:=by simp[oA]
   rw[v7,fT,dG,fT,aF (by omega)];rw[show(U2 (oA L S (n.E.take i)))[l]? =some (ew (U1 ((List.range S).map fun(p:Nat)=>my (n.E.take i) (2^p) (l:Int)))) by unfold U2;grind];simp only[aoV cR,Option.bind_some,V.eo];have OR:(U1 ((List.range S).map fun(p:Nat)=>my (n.E.take i) (2^p) (l:Int)))[f]? =some (.int .u64 ((my (n.E.take i) (2^f) (l:Int):Nat):Int)):=UX (by simp[adx]);rw[v7,fT,dG,fT,aF (by simp;omega),OR];simp only[Option.bind_some,V.toInt_int];rw[fT,dG,v7,fT,dG,fT,aF (by simp;omega)];have aO:my (n.E.take i) (2^f) (l:Int)<2^64:=UP fun e he=>by
    have:=(hg.E e (MR he)).nat hg.S64;omega
   rw[Va ht,u64_or aO (xp (by omega) ht),aoX,aoW cR,lF];have p8:n.E[i].t.toNat=t:=by omega
   have Vb:=aoY (E:=n.E.take i) (e:=n.E[i]) (S:=S) el ef UZ adx;simp_all
  ·simp only[IG,IF,un,cT,aA,bc];grind
 rw[e2];rfl
structure Ez(R:List Nat):Prop where
 len:R.length≤64
 lt:∀a∈R,a<2^R.length
theorem Ez.get{R:List Nat}(h:Ez R)(i:Nat):R.getD i 0<2^64:=by
 rw[Dv];by_cases hi:i<R.length
 ·rw[bX hi];exact lZ (h.lt _ (dw hi)) (zd (by omega) h.len)
 grind
theorem ady{R:List Nat}{i:Nat}(h:i<R.length):idx (U1 R) (i:Int)=some (.int .u64 ((R.getD i 0:Nat):Int)):=by
 rw[IA];have:R.getD i 0=R[i]:=by simp[h]
 rw[this];exact UX (by simp)
theorem adz{n:Nat}(h1:n≤64):CC 125 [vI (n:Int)]=some [.int .u64 ((2^n-1:Nat):Int)]:=by
 refine aoU ?_;unfold adi;rw[fT,dG,Int.toNat_natCast,ac6 (by omega)]
theorem aph{n:Nat}(h:n≤64):2^n-1<2^64:=by
 have h5:2^n≤2^64:=zd (by omega) h;omega
theorem api{R:List Nat}(h:Ez R):CC 123 [ew (U1 R)]=some [.bool true]:=by
 have hl:=h.len;refine aoT ?_;unfold adh;rw[fT,aD (by rw[ya];omega)];have:=OQ (step:=Ix CC (U1 R) (U1 R) ((U1 R).length:Int)) (fun i=>(i:Int)) R.length (r:= .inr ((R.length:Int),false)) ?_ ?_
 ·rw[show Loop (Ix CC (U1 R) (U1 R) ((U1 R).length:Int)) 0=_ from this];rfl
 ·intro i hi;simp only[Ix,Iw,ya];rw[fT,dG,ady hi,adz hl];simp only[Option.bind_some,V.sy,V.toInt_int,gI,gL,gB,gS];have hm:R.getD i 0∈R:=by
   grind
  rw[Ex,aF ((UO (h.get i) hl).2 (h.lt _ hm)),lF];simp
 ·simp only[Ix,Iw,ya];grind
def OS(R:List Nat)(s:Nat):Nat:=(mem s).foldl (fun a p=>a|||R.getD p 0) 0
theorem apj{R:List Nat}{s j:Nat}:(OS R s).testBit j=(mem s).any fun p=>(R.getD p 0).testBit j:=by
 unfold OS;rw[adl];simp
theorem Vc{s n j:Nat}(hs:s<2^64)(hn:n≤64):j∈mem (s&&&(2^n-1))↔j<n∧s.testBit j=true:=by
 rw[mem_iff (Dt Nat.and_le_left hs),Nat.testBit_and,Nat.testBit_two_pow_sub_one];grind
theorem apk{R:List Nat}(h:Ez R){s:Nat}(hs:s<2^64):
  CC 81 [ew (U1 R),.int .u64 (s:Int)]=some [.int .u64 ((OS R (s&&&(2^R.length-1)):Nat):Int)]:=by
 have hl:=h.len;refine aoQ ?_;unfold adg;have pn:s&&&(2^R.length-1)<2^64:=Dt Nat.and_le_left hs;rw[api h];simp only[Option.bind_some,V.sy,V.Iz,Bool.not_true,cond_false,ya,gI,gL,gB,gS];rw[adz hl];simp only[Option.bind_some,V.sy,V.toInt_int,gI,gL,gB,gS];rw[u64_and hs (aph hl),aoM pn];simp only[Option.bind_some,V.sy,V.eo,gI,gL,gB,gS];have uQ:=adb (s&&&(2^R.length-1));have:=apl (step:=Iu CC (U1 R) ((rj (mem (s&&&(2^R.length-1)))).length:Int) (rj (mem (s&&&(2^R.length-1))))) (mem (s&&&(2^R.length-1)))
  (fun i (a:Nat)=>((a:Int),(i:Int))) (fun a p=>a|||R.getD p 0) (fun a=>((a:Int),((mem (s&&&(2^R.length-1))).length:Int),false)) (fun _ a=>a<2^64) ?_ ?_ 0 (by omega)
 ·rw[show Loop (Iu CC (U1 R) ((rj (mem (s&&&(2^R.length-1)))).length:Int) (rj (mem (s&&&(2^R.length-1))))) (0,0)=_ from this.1];rfl
 ·intro i a hi ha;refine⟨?_,GM ha (h.get _)⟩;have hp:=(Vc hs hl).1 (dw hi);generalize hp':(mem (s&&&(2^R.length-1)))[i]=p at hp⊢;simp only[Iu,It,un,aA];have e1:(rj (mem (s&&&(2^R.length-1)))).length=(mem (s&&&(2^R.length-1))).length:=by simp[rj]
  have e2:(rj (mem (s&&&(2^R.length-1))))[i]? =some (vI (p:Int)):=by
   unfold rj;grind
  rw[fT,dG,v7,fT,dG,fT,dG,Int.toNat_natCast,e2];simp only[Option.bind_some,V.toInt_int];rw[ady hp.1];simp only[Option.bind_some,V.toInt_int];rw[u64_or ha (h.get p),lF];simp
 ·intro a ha;have e1:(rj (mem (s&&&(2^R.length-1)))).length=(mem (s&&&(2^R.length-1))).length:=by simp[rj]
  simp only[Iu,It,un,aA];grind
def rq(S:Nat)(E:List Ed)(x:Int):List Nat:=(List.range S).map fun(p:Nat)=>my E (2^p) x
theorem apm{S:Nat}{E:List Ed}{x:Int}(hS:S≤64)(hE:∀e∈E,e.t.toNat<S):Ez (rq S E x)where
 len:=by simp[rq,hS]
 lt:=by
  intro a ha;simp only[rq,gm]at ha;obtain⟨p,_,rfl⟩:=ha;have:(rq S E x).length=S:=by simp[rq]
  rw[this];exact UP hE
theorem apn{S:Nat}{E:List Ed}{x:Int}{s:Nat}(hs:s<2^64)(hS:S≤64)(hE:∀e∈E,e.f.toNat<S):OS (rq S E x) (s&&&(2^S-1))=my E s x:=by
 apply MP;intro j;rw[apj,Il,Dz,AU,AU];constructor
 ·rintro⟨p,hp,hb⟩;obtain⟨h1,h2⟩:=(Vc hs hS).1 hp;have e1:(rq S E x).getD p 0=my E (2^p) x:=by simp[rq,h1]
  rw[e1,Il,AU]at hb;grind
 ·rintro⟨e,he,hb⟩;simp only[aG,jf]at hb;refine⟨e.f.toNat,(Vc hs hS).2 ⟨hE e he,hb.2.1⟩,?_⟩;have e1:(rq S E x).getD e.f.toNat 0=my E (2^e.f.toNat) x:=by simp[rq,hE e he]
  rw[e1,Il,AU];grind
noncomputable def adA(C:af)(cf letter:Int)(kK:LV):Option LV:=
 (idx kK letter).bind fun x1=>
 (C 81 [ew x1.toList,.int .u64 cf]).bind fun r2=>
 some [.int .u64 (gI r2),oB kK]
theorem apo{cf letter:Int}{kK:LV}{r:Option LV}(h:adA CC cf letter kK=r):CC 80 [.int .u64 cf,vI letter,oB kK]=r:=bj (L:=bh) an h
noncomputable def adB(C:af)(cf yd ye we wg:Int)(OT:LV):Option LV:=
 some [.bool (((wrap .u64 ((BitVec.ofInt (IntKind.bits .u64) cf&&&BitVec.ofInt (IntKind.bits .u64) wg).toNat)):Int) != 0),vI yd,vI ye,.int .u64 we,.int .u64 wg,ec OT]
theorem apq{cf yd ye we wg:Int}{OT:LV}{r:Option LV}(h:adB CC cf yd ye we wg OT=r):CC 52 [.int .u64 cf,vI yd,vI ye,.int .u64 we,.int .u64 wg,ec OT]=r:=bj (L:=bh) an h
noncomputable def adC(C:af)(x:Int)(aT:LV):Option LV:=
 bif ft .u64 x&&true then
  bif ft .u64 x&&true then
  bif Nat.ble ((aT.length+([.int .u64 x]:LV).length)*8) aR then
   some [vI (aT.length:Int),ew (aT++([.int .u64 x]:LV)),.list 145 (jl (.int .u64 x) (vI (aT.length:Int)) ([]:LV))]
  else none
  else none
 else none
theorem apr{x:Int}{aT:LV}{r:Option LV}(h:adC CC x aT=r):CC 79 [.int .u64 x,ew aT]=r:=bj (L:=bh) an h
noncomputable def adD(C:af)(x:Int)(aT aE:LV):Option LV:=
 bif ft .u64 x&&true then
  bif !(gq (.int .u64 x) aE)then
  bif ft .u64 x&&true then
   bif Nat.ble ((aT.length+([.int .u64 x]:LV).length)*8) aR then
   some [vI (aT.length:Int),.list 145 (jl (.int .u64 x) (vI (aT.length:Int)) aE),ew (aT++([.int .u64 x]:LV))]
   else none
  else none
  else
  some [vI ((kz (.int .u64 x) aE (vI 0)).toInt),.list 145 aE,ew aT]
 else none
theorem aps{x:Int}{aT aE:LV}{r:Option LV}(h:adD CC x aT aE=r):CC Vd [.int .u64 x,ew aT,.list 145 aE]=r:=bj (L:=bh) an h
noncomputable def II(C:af)(aQ i state t36 rv ry rz rA:Int)(rB:LV)(sB sC bq bB:Int)(aB aK bP fU:LV)(t37:Int)(rC rows br bH:LV){β:Type}(kn:(Int×LV×LV×LV×LV)→Option β)(kr:(Int×Bool×LV×LV×LV×LV)→Option β):Option β:=
 bif decide (t37<t36)then
  (C 80 [.int .u64 state,vI t37,oB rC]).bind fun r3=>
  (C Vd [.int .u64 (gI r3),ew br,.list 145 bH]).bind fun r4=>
  aA rows t37 fun x5=>
  kn (wrap .i64 (t37+1),(gL (r3.drop 1)),bc rows t37 (vI (gI r4)),(gL ((r4.drop 1).drop 1)),(gL (r4.drop 1)))
 else
  kr (t37,decide (t37<t36),rC,rows,br,bH)
noncomputable def OU(C:af)(aQ i state t36 rv ry rz rA:Int)(rB:LV)(sB sC bq bB:Int)(aB aK bP fU:LV):=un fun t37=>un fun rC=>un fun rows=>un fun br bH=>II C aQ i state t36 rv ry rz rA rB sB sC bq bB aB aK bP fU t37 rC rows br bH (fun y=>some (Sum.inl y)) (fun r=>some (Sum.inr r))
noncomputable def IJ(C:af)(aQ sB sC bq bB:Int)(aP aB:LV)(i:Int)(rC:LV)(rv ry rz rA:Int)(rB aK br bH bP:LV){β:Type}(kn:(Int×LV×Int×Int×Int×Int×LV×LV×LV×LV×LV)→Option β)(kr:((Int×LV×Int×Int×Int×Int×LV×Int×Int×LV×LV×LV) ⊕ (Int×Bool×LV×Int×Int×Int×Int×LV×LV×LV×LV×LV))→Option β):Option β:=
 bif decide (i<(aK.length:Int))then
  aA aK i fun x2=>
  bif (decide (0≤aQ))&&((decide (aQ≤aQ))&&(Nat.ble ((aQ.toNat)*8) aR))then
  (Loop (OU C aQ i x2.toInt ((List.replicate (aQ.toNat) (vI 0)).length:Int) rv ry rz rA rB sB sC bq bB aP aB bH bP) (0,rC,List.replicate (aQ.toNat) (vI 0),aK,br)).bind (un fun jD=>un fun(ng:Bool)=>un fun(IK:LV)=>un fun(OV:LV)=>un fun(pq:LV) (yg:LV)=>
   bif decide ((pq.length:Int)>512)then
    kr (.inl (3,IK,rv,ry,rz,rA,rB,0,0,([]:LV),([]:LV),([]:LV)))
   else
    bif Nat.ble ((bP.length+([ab OV]:LV).length)*24) aR then
    (C 52 [.int .u64 x2.toInt,vI rv,vI ry,.int .u64 rz,.int .u64 rA,ec rB]).bind fun py=>
    bif Nat.ble ((bH.length+([.bool (gB py)]:LV).length)*1) aR then
     kn (wrap .i64 (i+1),IK,(gI (py.drop 1)),(gI ((py.drop 1).drop 1)),(gI (((py.drop 1).drop 1).drop 1)),(gI ((((py.drop 1).drop 1).drop 1).drop 1)),(gL (((((py.drop 1).drop 1).drop 1).drop 1).drop 1)),pq,yg,bH++([.bool (gB py)]:LV),bP++([ab OV]:LV))
    else none
    else none)
  else none
 else
  kr (.inr (i,decide (i<(aK.length:Int)),rC,rv,ry,rz,rA,rB,aK,br,bH,bP))
noncomputable def EA(C:af)(aQ sB sC bq bB:Int)(aP aB:LV):=un fun i=>un fun rC=>un fun rv=>un fun ry=>un fun rz=>un fun rA=>un fun rB=>un fun aK=>un fun br=>un fun bH bP=>IJ C aQ sB sC bq bB aP aB i rC rv ry rz rA rB aK br bH bP (fun y=>some (Sum.inl y)) (fun r=>some (Sum.inr r))
noncomputable def adE(C:af):cp:=bz 161 Ve [Q0,Q0,Q0,Q0,Q1,Q1,Q0,Q0,Q0,Q0,Q0,Q0,Q0,Q0,Q0,Q1,Q0,Q0,Q1,Q1,Q0,Q0] [[1,2,3,4,0,0,0,7,8,9,10,11,12,13,14,15,0,17,18,0,0,21,22]] (@II C) (bz 81 Vf [Q0,Q1,Q1,Q1,Q1,Q1,Q1,Q1,Q0,Q0,Q0,Q0,Q0,Q0,Q1,Q1,Q1,Q1] [[0,0,0,0,0,0,0,0,0,0,0,0],[1,0,0,0,0,0,0,0,0,9,10,11,12,13,14,0,0,0,0]] (@IJ C) bh)
theorem apt(C:af):bn C (adE C) 50 (Lp [1,1,1,1,0,1,0,0,1,0,0,1,1,0,1,0,0] 50):=bA Ve [Q0,Q0,Q0,Q0,Q1,Q1,Q0,Q0,Q0,Q0,Q0,Q0,Q0,Q0,Q0,Q1,Q0,Q0,Q1,Q1,Q0,Q0] [[1,2,3,4,0,0,0,7,8,9,10,11,12,13,14,15,0,17,18,0,0,21,22]] (@II C) (ba an)
theorem apu(C:af):bn C (adE C) 50 (Lp [1,1,1,1,0,1,0,0] 50):=bA Vf [Q0,Q1,Q1,Q1,Q1,Q1,Q1,Q1,Q0,Q0,Q0,Q0,Q0,Q0,Q1,Q1,Q1,Q1] [[0,0,0,0,0,0,0,0,0,0,0,0],[1,0,0,0,0,0,0,0,0,9,10,11,12,13,14,0,0,0,0]] (@IJ C) (ba (bp (apt C) an))
noncomputable def Vg(C:af)(aQ start:Int)(rC:LV)(rv ry rz rA:Int)(rB:LV):Option LV:=
 (C 79 [.int .u64 start,ew ([]:LV)]).bind fun r1=>
 (Loop (EA C aQ 0 0 aQ 0 ([]:LV) ([]:LV)) (0,rC,rv,ry,rz,rA,rB,(gL (r1.drop 1)),(gL ((r1.drop 1).drop 1)),([]:LV),([]:LV))).bind (ed (un fun yb=>un fun(pz:LV)=>un fun sA=>un fun yh=>un fun sD=>un fun uR=>un fun(p9:LV)=>un fun apv=>un fun Vh=>un fun(yi:LV)=>un fun(tC:LV) (apw:LV)=>
  some [vI apv,vI Vh,vI yb,oB pz,vI sA,vI yh,.int .u64 sD,.int .u64 uR,ec p9,av yi,ah tC,ew apw]) (un fun aG1=>un fun(apx:Bool)=>un fun(apy:LV)=>un fun apz=>un fun apA=>un fun apB=>un fun apC=>un fun(apD:LV)=>un fun(OW:LV)=>un fun(zT:LV)=>un fun(BC:LV) (IL:LV)=>
  some [vI aQ,vI 0,vI 0,oB apy,vI apz,vI apA,.int .u64 apB,.int .u64 apC,ec apD,av BC,ah IL,ew OW]))
theorem adF{aQ start:Int}{rC:LV}{rv ry rz rA:Int}{rB:LV}{r:Option LV}(h:Vg CC aQ start rC rv ry rz rA rB=r):CC 50 [vI aQ,.int .u64 start,oB rC,vI rv,vI ry,.int .u64 rz,.int .u64 rA,ec rB]=r:=bj (bp (apu CC) an) h
noncomputable def Vi(C:af)(fu g9 iy iN:Int)(gQ:LV):Option LV:=
 (C 28 [vI fu,vI g9,.int .u64 iy,.int .u64 iN,ec gQ]).bind fun r1=>
 bif ((gI r1):Int) != 0 then
  some [vI 0,vI 0,vI (gI r1),av ([]:LV),ah ([]:LV),ew ([]:LV)]
 else
  (C 51 [vI fu,vI g9,.int .u64 iy,.int .u64 iN,ec gQ]).bind fun r2=>
  (C 50 [vI fu,.int .u64 iy,oB (gL r2),vI fu,vI g9,.int .u64 iy,.int .u64 iN,ec gQ]).bind fun r3=>
  some [vI (gI r3),vI (gI (r3.drop 1)),vI (gI (r3.drop 2)),av (gL (((r3.drop 3).drop 1).drop 5)),ah (gL ((((r3.drop 3).drop 1).drop 5).drop 1)),ew (gL (((((r3.drop 3).drop 1).drop 5).drop 1).drop 1))]
theorem adG{fu g9 iy iN:Int}{gQ:LV}{r:Option LV}(h:Vi CC fu g9 iy iN gQ=r):CC 27 [vI fu,vI g9,.int .u64 iy,.int .u64 iN,ec gQ]=r:=bj (L:=bh) an h
def uV(q:Nat):V:= .int .u64 (q:Int)
def uM(S:List Nat):List V:=fV uV 0 S
theorem Vj(a b:Nat):jk (uV a) (uV b)=decide (a=b):=apE a b
theorem apF{S:List Nat}{i:Nat}(h:i<S.length):(U1 S)[i]? =some (uV S[i]):=UX (bX h)
theorem adH{x:Nat}(hx:x<2^64):CC 79 [uV x,ew []]=some [nV 0,ew (U1 [x]),.list 145 (uM [x])]:=by
 refine apr ?_;unfold adC;rw[adI hx];exact bT rfl (bT rfl (bT (cap (by simp) (by omega)) rfl))
theorem apG{S:List Nat}{x:Nat}(hx:x<2^64)(hl:S.length≤1000000):CC Vd [uV x,ew (U1 S),.list 145 (uM S)]=some [nV ((cN S x).idxOf x),.list 145 (uM (cN S x)),ew (U1 (cN S x))]:=by
 refine aps ?_;unfold adD;have e1:=OX Vj x S 0;rw[adI hx];refine bT rfl ?_;rw[show(V.int .u64 (x:Int))=uV x from rfl,adJ];by_cases h:x∈S
 ·refine bF (by rw[show gq (uV x) (uM S)=_ from e1];simpa using h) ?_;have e2:=OY Vj x (vI 0) S 0 h;rw[show kz (uV x) (uM S) (vI 0)=_ from e2,aF h,dP,show cN S x=S by unfold cN;rw[aF h]];rfl
 ·refine bT (by rw[show gq (uV x) (uM S)=_ from e1];simpa using h) ?_;refine bT rfl ?_;refine bT (cap (by rw[ya];simp;omega) (by omega)) ?_;have e2:=OZ Vj x S 0 h;rw[dP]at e2;rw[ya,show jl (uV x) (vI (S.length:Int)) (uM S)=_ from e2,aD h,show cN S x=S++[x] by unfold cN;rw[aD h]];simp[U1,nV,uM,uV]
def sn(E:List Ed)(s x:Nat):Nat:=my E s (x:Int)
def sf(fin s:Nat):Bool:= !((s&&&fin)==0)
structure Nat6(n:Nf)(L S:Nat):Prop where
 code:n.code=0
 ok:n.Ok
 hL:n.L=(L:Int)
 hS:n.S=(S:Int)
namespace Nat6
variable {n:Nf}{L S:Nat}(h:Nat6 n L S)
include h
theorem good:n.Good:=Nf.aop h.code
theorem l1:1≤L:=by have:=h.good.L1;have:=h.hL;omega
theorem l6:L≤6:=by have:=h.good.L6;have:=h.hL;omega
theorem yc:S≤64:=by have:=h.good.S64;have:=h.hS;omega
theorem sS:n.S.toNat=S:=by have:=h.hS;omega
theorem lL:n.L.toNat=L:=by have:=h.hL;omega
theorem edF:∀e∈n.E,e.f.toNat<S:=fun e he=>by have:=h.good.E e he;have:=h.hS;unfold Ed.In at*;omega
theorem edT:∀e∈n.E,e.t.toNat<S:=fun e he=>by have:=h.good.E e he;have:=h.hS;unfold Ed.In at*;omega
theorem st:n.st<2^S:=by have:=h.good.st;rwa [h.sS]at this
theorem fin:n.fin<2^S:=by have:=h.good.fin;rwa [h.sS]at this
theorem pow:2^S≤2^64:=zd (by omega) h.yc
theorem next(s x:Nat):sn n.E s x<2^S:=UP h.edT
end Nat6
def mB(n:Nf)(L S:Nat):List Nat:=ar L (sn n.E) n.st (2^S)
def nX(n:Nf)(L S:Nat):Da:=iW L (sn n.E) (sf n.fin) (mB n L S)
def nr(n:Nf)(L S:Nat):Prop:=512<(mB n L S).length
def kY(n:Nf)(L S:Nat):List V:=U2 (oA L S n.E)
def adK(m:Da)(e:Int)(X:V):List V:=[vI (m.L:Int),vI (m.st:Int),vI e,av m.dN,ah m.dX,X]
section
variable {n:Nf}{L S:Nat}(h:Nat6 n L S)
include h
theorem apH{s x:Nat}(hs:s<2^S)(hx:x<L):CC 80 [uV s,nV x,oB (kY n L S)]=some [uV (sn n.E s x),oB (kY n L S)]:=by
 have hp:=h.pow;refine apo ?_;unfold adA;have e1:idx (kY n L S) (x:Int)=some (ew (U1 (rq S n.E (x:Int)))):=by
  rw[BE rfl];unfold kY U2;rw[jX,UY hx];rfl
 refine bs e1 ?_;have hr:Ez (rq S n.E (x:Int)):=apm h.yc h.edT;have e2:=apk hr (s:=s) (by omega);have hl:(rq S n.E (x:Int)).length=S:=by simp[rq]
 rw[hl,apn (by omega) h.yc h.edF]at e2;refine bs e2 ?_;rfl
theorem apI{s:Nat}(hs:s<2^S):CC 52 (uV s::p6 n [])=some (.bool (sf n.fin s)::p6 n []):=by
 have hp:=h.pow;have hf:=h.fin;refine apq ?_;unfold adB;have e:wrap .u64 ((BitVec.ofInt (IntKind.bits .u64) (s:Int)&&&BitVec.ofInt (IntKind.bits .u64) (n.fin:Int)).toNat)=((s&&&n.fin:Nat):Int):=u64_and (by omega) (by omega);rw[e];have e2:(((s&&&n.fin:Nat):Int) != 0)=sf n.fin s:=by
  unfold sf;grind
 rw[e2];rfl
theorem sub_lt(i:Nat):∀s∈ar L (sn n.E) n.st i,s<2^S:=apJ (P:=fun s=>s<2^S) h.st (fun s _ x _=>h.next s x) i
theorem IN(i:Nat):(ar L (sn n.E) n.st i).length≤2^S:=by
 have:=adL (L:=L) (next:=sn n.E) (a0:=n.st) (U:=List.range (2^S)) (gn.2 h.st) (fun s _ x _=>gn.2 (h.next s x)) i;grind
theorem apK{T U:List Nat}{s:Nat}(hs:s<2^S)(hT:T.length≤1000)(hp:b9 (sn n.E) T s L <+: U){i c1 c2:Int}{l1 l2 l3 l4:List V}:
  Loop (OU CC (L:Int) i (s:Int) ((List.replicate (((L:Nat):Int).toNat) (vI 0)).length:Int) n.L n.S (n.st:Int) (n.fin:Int) (n.E.map Ed.enc) c1 c2 (L:Int) 0 l1 l2 l3 l4) (0,kY n L S,List.replicate (((L:Nat):Int).toNat) (vI 0),U1 T,uM T)=
   some ((L:Int),false,kY n L S,(tab L fun x=>nV (U.idxOf (sn n.E s x))),U1 (b9 (sn n.E) T s L),uM (b9 (sn n.E) T s L)):=by
 have h6:=h.l6;have hpw:=h.pow;rw[Int.toNat_natCast,p5,en];refine(eZ L (fun x=>((x:Int),kY n L S,(tab L fun j=>if j<x then nV (U.idxOf (sn n.E s j))else nV 0),U1 (b9 (sn n.E) T s x),uM (b9 (sn n.E) T s x))) _ (fun x hx=> ?_) ?_)
 ·simp only[OU,II,un,aA,bc];refine bT (bt hx) ?_;refine bs (apH h hs hx) ?_;have hl:=Vk (next:=sn n.E) T s x;have hn:=h.next s x;refine bs (apG (S:=b9 (sn n.E) T s x) (x:=sn n.E s x) (by omega) (by omega)) ?_;refine(nY hx).trans ?_;rw[bu (by omega),Int.toNat_natCast,mw];have e:(cN (b9 (sn n.E) T s x) (sn n.E s x)).idxOf (sn n.E s x)=U.idxOf (sn n.E s x):=(BF ((BG T s (show x+1≤L by omega)).trans hp) EB).symm;show some (Sum.inl _)=some (Sum.inl _);refine congrArg (fun x=>some (Sum.inl x)) ?_;refine dm rfl (dm rfl (dm ?_ (dm rfl rfl)));refine dW fun j _=> ?_;by_cases hj:j=x
  ·rw[aF hj,dG,hj,←e];rfl
  grind
 ·simp only[OU,II,un,aA,bc];refine bF (cL (aW _)) ?_;rw[cL (aW _)];have:(tab L fun j=>if j<L then nV (U.idxOf (sn n.E s j))else nV 0)=tab L fun j=>nV (U.idxOf (sn n.E s j)):=dW fun j hj=>aF hj;rw[this]
theorem Vl{i:Nat}(sE:i<(ar L (sn n.E) n.st i).length)(hlen:(ar L (sn n.E) n.st i).length≤512){U:List Nat}(hp:ar L (sn n.E) n.st (i+1) <+: U){l1 l2 l3 l4:List V}(hl3:l3.length≤1000)(hl4:l4.length≤1000):
  EA CC (L:Int) 0 0 (L:Int) 0 l1 l2 ((i:Int),kY n L S,n.L,n.S,(n.st:Int),(n.fin:Int),n.E.map Ed.enc,U1 (ar L (sn n.E) n.st i),uM (ar L (sn n.E) n.st i),l3,l4)=
   if 512<(ar L (sn n.E) n.st (i+1)).length then some (.inr (.inl (3,kY n L S,n.L,n.S,(n.st:Int),(n.fin:Int),n.E.map Ed.enc,0,0,[],[],[])))
   else some (.inl (((i+1:Nat):Int),kY n L S,n.L,n.S,(n.st:Int),(n.fin:Int),n.E.map Ed.enc,U1 (ar L (sn n.E) n.st (i+1)),uM (ar L (sn n.E) n.st (i+1)),l3++[V.bool (sf n.fin (ar L (sn n.E) n.st i)[i])],l4++[ab (tab L fun x=>nV (U.idxOf (sn n.E (ar L (sn n.E) n.st i)[i] x)))])):=by
 have h6:=h.l6;have hq:=sub_lt h i _ (dw sE);have si:ar L (sn n.E) n.st (i+1)=b9 (sn n.E) (ar L (sn n.E) n.st i) (ar L (sn n.E) n.st i)[i] L:=adM (bX sE);simp only[EA,IJ,un,aA];refine bT (cB (by simp_all)) ?_;refine(bJ (apF sE)).trans ?_;refine bT (gP (by omega) (by omega)) ?_;refine bs (apK h hq (by omega) (U:=U) (by grind)) ?_;rw[←si];by_cases BH:512<(ar L (sn n.E) n.st (i+1)).length
 ·rw[aF BH];refine bT (cB (by rw[ya];omega)) ?_;rfl
 ·rw[aD BH];refine bF (dj (by rw[ya];omega)) ?_;refine bT (cap (by simp;omega) (by omega)) ?_;refine bs (apI h hq) ?_;refine bT (cap (by simp;omega) (by omega)) ?_;rw[bu (by omega)];rfl
theorem apL(hn:¬nr n L S):∃X,CC 50 (nV L::uV n.st::oB (kY n L S)::p6 n [])=some ([nV L,nV 0,vI 0,oB (kY n L S)]++(p6 n []++[av (nX n L S).dN,ah (nX n L S).dX,X])):=by
 have h6:=h.l6;have cv:=h.st;have hpw:=h.pow;have hd:(ar L (sn n.E) n.st (2^S)).length≤2^S:=IN h _;have hle:∀i,(ar L (sn n.E) n.st i).length≤(mB n L S).length:=apM hd;have aG2:(mB n L S).length≤512:=by unfold nr at hn;omega
 refine⟨ew (U1 (mB n L S)),adF ?_⟩;unfold Vg;refine bs (adH (x:=n.st) (by omega)) ?_;have key:Loop (EA CC (L:Int) 0 0 (L:Int) 0 ([]:List V) ([]:List V)) (0,kY n L S,n.L,n.S,(n.st:Int),(n.fin:Int),n.E.map Ed.enc,U1 [n.st],uM [n.st],([]:List V),([]:List V))=
   some (.inr (((mB n L S).length:Int),false,kY n L S,n.L,n.S,(n.st:Int),(n.fin:Int),n.E.map Ed.enc,U1 (mB n L S),uM (mB n L S),(nX n L S).dN,(nX n L S).dX)):=by
  refine(eZ (mB n L S).length (fun i=>((i:Int),kY n L S,n.L,n.S,(n.st:Int),(n.fin:Int),n.E.map Ed.enc,U1 (ar L (sn n.E) n.st i),uM (ar L (sn n.E) n.st i),(tab i fun j=>V.bool ((nX n L S).fin j)),(tab i fun j=>mC L ((nX n L S).nx j)))) _ (fun i hi=> ?_) ?_)
  ·have sE:=O0 hd hi;have BI:i<2^S:=lZ hi hd;have Vm:(ar L (sn n.E) n.st i)[i]=(mB n L S)[i]:=(sF (show i≤2^S by omega)).getElem sE;have aG3:=hle (i+1);have aG4:=hle i;have:=Vl h sE (by omega) (U:=mB n L S) (sF (by omega)) (l1:=[]) (l2:=[]) (l3:=(tab i fun j=>V.bool ((nX n L S).fin j))) (l4:=(tab i fun j=>mC L ((nX n L S).nx j))) (by rw[en];omega) (by rw[en];omega);rw[fZ,Vm]at this;rw[this,BJ,BJ];have e1:(nX n L S).fin i=sf n.fin (mB n L S)[i]:=Vn hi;have e2:mC L ((nX n L S).nx i)=ab (tab L fun x=>nV ((mB n L S).idxOf (sn n.E (mB n L S)[i] x))):=by
    unfold mC;refine congrArg _ (dW fun x hx=> ?_);rw[show(nX n L S).nx i x=_ from IP hi hx];rfl
   rw[e1,e2]
  ·simp only[EA,IJ,un,aA];rw[show ar L (sn n.E) n.st (mB n L S).length=mB n L S from Vo hd,ya];refine bF (cL (aW _)) ?_;rw[cL (aW _)];have e3:(nX n L S).n=(mB n L S).length:=tD;unfold Da.dN Da.dX;rw[e3];rfl
 refine bs key ?_;rfl
theorem apO(hn:nr n L S):∃X,CC 50 (nV L::uV n.st::oB (kY n L S)::p6 n [])=some ([nV 0,nV 0,vI 3,oB (kY n L S)]++(p6 n []++[av [],ah [],X])):=by
 have h6:=h.l6;have cv:=h.st;have hpw:=h.pow;obtain⟨m,hm1,qU,hm3⟩:=apP (apQ (show 512<(ar L (sn n.E) n.st (2^S)).length from hn)) (by omega);refine⟨ew [],adF ?_⟩;unfold Vg;refine bs (adH (x:=n.st) (by omega)) ?_;have key:∃r,Loop (EA CC (L:Int) 0 0 (L:Int) 0 ([]:List V) ([]:List V)) (0,kY n L S,n.L,n.S,(n.st:Int),(n.fin:Int),n.E.map Ed.enc,U1 [n.st],uM [n.st],([]:List V),([]:List V))=some r∧r=(.inl (3,kY n L S,n.L,n.S,(n.st:Int),(n.fin:Int),n.E.map Ed.enc,0,0,[],[],[])):=by
  refine nh (fun i st=> ∃l3 l4:List V,l3.length=i∧l4.length=i∧st=((i:Int),kY n L S,n.L,n.S,(n.st:Int),(n.fin:Int),n.E.map Ed.enc,U1 (ar L (sn n.E) n.st i),uM (ar L (sn n.E) n.st i),l3,l4)) _ m 0 _ (fun i _ hi st cv=> ?_) (fun st cv=> ?_) ⟨[],[],rfl,rfl,rfl⟩
  ·obtain⟨l3,l4,e3,e4,rfl⟩:=cv;obtain⟨h1,h2⟩:=qU i (by omega);have h3:=(qU (i+1) (by omega)).2;have:=Vl h h1 h2 (GO _) (l1:=[]) (l2:=[]) (l3:=l3) (l4:=l4) (by omega) (by omega);grind
  ·obtain⟨l3,l4,e3,e4,rfl⟩:=cv;rw[dP]at*
   obtain⟨h1,h2⟩:=qU m (by omega);have:=Vl h h1 h2 (GO _) (l1:=[]) (l2:=[]) (l3:=l3) (l4:=l4) (by omega) (by omega);grind
 obtain⟨r,h1,rfl⟩:=key;refine bs h1 ?_;rfl
theorem apR(hn:¬nr n L S):∃X,CC 27 (p6 n [])=some (adK (nX n L S) 0 (ew X)):=by
 obtain⟨X,hX⟩:=apL h hn;refine⟨X.toList,adG ?_⟩;unfold Vi;have hv:=U6 n h.ok;rw[h.code]at hv;refine bs hv (bF rfl ?_);have hs:=adw n h.ok h.good;rw[h.lL,h.sS]at hs;refine bs hs ?_;refine bs ((congrArg (fun z=>CC 50 (vI z::uV n.st::oB (kY n L S)::p6 n [])) h.hL).trans hX) ?_;rfl
theorem apS(hn:nr n L S):∃X,CC 27 (p6 n [])=some (adK zD 3 (ew X)):=by
 obtain⟨X,hX⟩:=apO h hn;refine⟨X.toList,adG ?_⟩;unfold Vi;have hv:=U6 n h.ok;rw[h.code]at hv;refine bs hv (bF rfl ?_);have hs:=adw n h.ok h.good;rw[h.lL,h.sS]at hs;refine bs hs ?_;refine bs ((congrArg (fun z=>CC 50 (vI z::uV n.st::oB (kY n L S)::p6 n [])) h.hL).trans hX) ?_;rfl
theorem EC(hn:¬nr n L S):(nX n L S).Ok:=by
 unfold nr at hn;exact adN (IN h _) h.l1 h.l6 (show(mB n L S).length≤512 by omega)
theorem apU{w:List Nat}(hw:WL L w):(nX n L S).acc 0 w=sf n.fin (w.foldl (sn n.E) n.st):=by
 have h1:=adO (fin:=sf n.fin) (IN h _) (O1 _) hw;have h2:=adP (L:=L) (next:=sn n.E) (a0:=n.st) (2^S);rw[bX (O1 _)]at h2;rw[eX h2]at h1;exact h1
end
end Go.AM
set_option maxRecDepth 100000
set_option maxHeartbeats 1000000
namespace Go.AM
open Go.IntKind (wrap)
open Go.Proofs
theorem Ed.lt_irrefl(a:Ed):¬a.lt a:=by unfold Ed.lt;omega
theorem Ed.lt_trans{a b c:Ed}:a.lt b→b.lt c→a.lt c:=by unfold Ed.lt;omega
theorem Ed.lt_asymm{a b:Ed}:a.lt b→¬b.lt a:=by unfold Ed.lt;omega
theorem Ed.adQ{a b:Ed}(h1:¬a.lt b)(h2:¬b.lt a):a=b:=by
 cases a;cases b;simp only[Ed.lt,Ed.mk.injEq]at*
 omega
abbrev qa(E:List Ed):Prop:=E.Pairwise Ed.lt
def Ed.key(e:Ed):Nat:=(e.f.toNat*6+e.l.toNat)*64+e.t.toNat
theorem Ed.apV{a b:Ed}{L S:Int}(hL:L≤6)(hS:S≤64)(ha:a.In L S)(hb:b.In L S)(h:a.lt b):a.key<b.key:=by
 unfold Ed.In at ha hb;unfold Ed.lt at h;unfold Ed.key;omega
theorem apW{L S:Int}(hL:L≤6)(hS:S≤64):∀(E:List Ed),qa E→(∀e∈E,e.In L S)→∀i (hi:i<E.length),i≤E[i].key:=by
 intro E h hE i
 induction i with
 |zero=>omega
 |succ i ih=>
  intro hi;have h1:=ih (by omega);have h2:=(GP.1 h) i (i+1) (by omega) hi (by omega);have:=Ed.apV hL hS (hE _ (dw _)) (hE _ (dw _)) h2;omega
theorem apX{L S:Int}(hL:L≤6)(hS:S≤64){E:List Ed}(h:qa E)(hE:∀e∈E,e.In L S):E.length≤24576:=by
 by_cases h0:E.length=0
 ·omega
 ·have h1:=apW hL hS E h hE (E.length-1) (by omega);have h2:=hE E[E.length-1] (dw _);unfold Ed.In at h2;unfold Ed.key at h1;omega
theorem Vp:∀{A B:List Ed},qa A→qa B→(∀x,x∈A↔x∈B)→A=B
 | [],[],_,_,_=>rfl
 | [],b::B,_,_,h=>by have:=(h b).2 (by simp);cases this
 |a::A,[],_,_,h=>by have:=(h a).1 (by simp);cases this
 |a::A,b::B,hA,hB,h=>by
  have a1:=GQ.1 hA;have b1:=GQ.1 hB;have sj:a=b:=by
   have ha:=(h a).1 (by simp);have hb:=(h b).2 (by simp);rcases jg.1 ha with e|e
   ·exact e
   ·rcases jg.1 hb with e'|e'
    ·grind
    ·exact absurd (a1.1 b e') (Ed.lt_asymm (b1.1 a e))
  subst sj;rw[Vp a1.2 b1.2 fun x=> ?_];constructor
  ·intro hx;rcases jg.1 ((h x).1 (by simp[hx]))with e|e
   ·subst e;exact absurd (a1.1 x hx) (Ed.lt_irrefl x)
   ·exact e
  ·intro hx;rcases jg.1 ((h x).2 (by simp[hx]))with e|e
   ·subst e;exact absurd (b1.1 x hx) (Ed.lt_irrefl x)
   ·exact e
theorem apY{E:List Ed}(h:qa E):E.Nodup:=List.Pairwise.imp (fun sj e=>by subst e;exact Ed.lt_irrefl _ sj) h
theorem apZ{R l:List Ed}(hp:R.Perm l)(hn:l.Nodup)(hs:R.Pairwise (fun x y=> ¬y.lt x)):qa R:=by
 have IQ:R.Nodup:=hp.nodup_iff.2 hn;refine List.Pairwise.imp₂ (fun a b h1 h2=> ?_) hs IQ;by_cases h:a.lt b
 ·exact h
 ·exact absurd (Ed.adQ h h1) h2
def pA(out:List Ed)(e:Ed):Nat→Nat
 |0=>0
 |k+1=>if e.lt (out.getD k default)then pA out e k else k+1
def zU(out:List Ed)(e:Ed):List Ed:=
 if pA out e out.length=0∨¬out.getD (pA out e out.length-1) default=e then out.take (pA out e out.length)++[e]++out.drop (pA out e out.length)else out
def wh(l:List Ed):List Ed:=l.foldl zU []
theorem Vq(out:List Ed)(e:Ed):∀k,pA out e k≤k
 |0=>aW _
 |k+1=>by unfold pA;split;exact Nat.le_succ_of_le (Vq out e k);omega
theorem adR(out:List Ed)(e:Ed):∀k i,pA out e k≤i→i<k→e.lt (out.getD i default)
 |0,i,_,h=>by omega
 |k+1,i,h1,h2=>by
  unfold pA at h1;split at h1
  ·rename_i h3;by_cases hi:i=k
   ·grind
   ·exact adR out e k i h1 (by omega)
  ·omega
theorem adS(out:List Ed)(e:Ed):∀k,pA out e k≠0→¬e.lt (out.getD (pA out e k-1) default)
 |0,h=>by simp[pA]at h
 |k+1,h=>by
  unfold pA at h⊢;split
  ·rename_i h3;rw[aF h3]at h;exact adS out e k h
  grind
theorem ap0{out:List Ed}{e x:Ed}(hk:pA out e out.length≤out.length):x∈zU out e↔x=e∨x∈out:=by
 unfold zU;split
 ·rename_i h;have:=List.take_append_drop (pA out e out.length) out;grind
 grind
theorem ap1{out:List Ed}{e:Ed}(h:qa out):qa (zU out e):=by
 have hk:=Vq out e out.length;have up:=adR out e out.length;have dn:=adS out e out.length;unfold zU;generalize hq:pA out e out.length=k at*
 split
 ·rename_i hc;have g:=GP.1 h;have nt:∀x∈out.take k,x.lt e:=by
   intro x hx;obtain⟨i,hi,rfl⟩:=GK hx;have bS:i<k:=by grind
   have ri:i<out.length:=by omega
   rw[List.getElem_take];have hk0:k≠0:=by omega
   have h1:=dn hk0;have h2:¬out.getD (k-1) default=e:=by
    grind
   have sG:k-1<out.length:=by omega
   have e1:out.getD (k-1) default=out[k-1]:=by simp[sG]
   rw[e1]at h1 h2;have h3:out[k-1].lt e:=by
    by_cases h4:out[k-1].lt e
    ·exact h4
    ·exact absurd (Ed.adQ h4 h1) h2
   by_cases hik:i=k-1
   ·grind
   ·exact Ed.lt_trans (g i (k-1) ri sG (by omega)) h3
  have lG:∀y∈out.drop k,e.lt y:=by
   intro y hy;obtain⟨i,hi,rfl⟩:=GK hy;simp_all
  rw[qa,eY,DA];refine⟨h.sublist (List.take_sublist _ _),?_,?_⟩
  ·grind
  ·intro x hx y hy;rw[List.singleton_append,jg]at hy;rcases hy with rfl|hy
   ·grind
   ·exact Ed.lt_trans (nt x hx) (lG y hy)
 ·exact h
theorem Vr:∀(l out:List Ed),qa out→qa (l.foldl zU out)∧∀x,x∈l.foldl zU out↔x∈l∨x∈out
 | [],out,h=>⟨h,by simp⟩
 |e::l,out,h=>by
  obtain⟨h1,h2⟩:=Vr l (zU out e) (ap1 h);refine⟨h1,fun x=> ?_⟩;rw[List.foldl_cons,h2,ap0 (Vq _ _ _)];grind
theorem O2(l:List Ed):qa (wh l):=(Vr l [] List.Pairwise.nil).1
theorem BK{l:List Ed}{x:Ed}:x∈wh l↔x∈l:=by
 have:=(Vr l [] List.Pairwise.nil).2 x;simpa[wh]using this
end Go.AM
set_option maxRecDepth 100000
namespace Go.AM
open Go.IntKind (wrap)
open Go.Proofs
noncomputable def ED(E:SE)(C:af)(a b' i j:Int)(eQ:LV){β:Type}(kn:(Int×LV)→Option β)(kr:(Int×Bool×LV)→Option β):Option β:=
 bif decide ((j:Int)>a)then
  aA eQ j fun x1=>
  aA eQ (wrap .i64 (j-1)) fun x2=>
  (C E.cmp (E.ex x1++E.ex x2)).bind fun r3=>
  bif decide (((gI r3):Int)<0)then
  aA eQ (wrap .i64 (j-1)) fun x4=>
  aA eQ j fun x5=>
  aA eQ j fun x6=>
  aA (bc eQ j (.agg (E.ex x4))) (wrap .i64 (j-1)) fun x7=>
  kn (wrap .i64 (j-1),bc (bc eQ j (.agg (E.ex x4))) (wrap .i64 (j-1)) (.agg (E.ex x5)))
  else
  kr (j,decide (((gI r3):Int)<0),eQ)
 else
  kr (j,false,eQ)
noncomputable def IS(E:SE)(C:af)(a b' i:Int):=un fun j eQ=>ED E C a b' i j eQ (fun y=>some (Sum.inl y)) (fun r=>some (Sum.inr r))
noncomputable def EE(E:SE)(C:af)(a b' i:Int)(eQ:LV){β:Type}(kn:(Int×LV)→Option β)(kr:(Int×Bool×LV)→Option β):Option β:=
 bif decide ((i:Int)<b')then
  (Loop (IS E C a b' i) (i,eQ)).bind (un fun(j_8:Int)=>un fun(uS:Bool) (IT:LV)=>
   kn (wrap .i64 (i+1),IT))
 else
  kr (i,decide ((i:Int)<b'),eQ)
noncomputable def IU(E:SE)(C:af)(a b':Int):=un fun i eQ=>EE E C a b' i eQ (fun y=>some (Sum.inl y)) (fun r=>some (Sum.inr r))
noncomputable def ap2(E:SE)(C:af)(a b':Int)(eQ:LV):Option LV:=
 (Loop (IU E C a b') (wrap .i64 (a+1),eQ)).bind (un fun(aG5:Int)=>un fun(EF:Bool) (Vs:LV)=>
  some [.list E.T Vs])
noncomputable def Vt(E:SE)(C:af)(a b' iX:Int)(qb rD:Bool)(length:Int)(t39:Bool)(eQ:LV){β:Type}(kr:(Int×LV)→Option β):Option β:=
 bif t39 then
  (C (E.k 7) [vI a,vI b',.list E.T eQ]).bind fun r3=>
  kr (wrap .i64 (iX-1),(gL r3))
 else
  kr (iX,eQ)
noncomputable def Vu(E:SE)(C:af)(a b' iX:Int)(qb rD:Bool)(length Vv hint:Int)(t56:Bool)(eQ:LV){β:Type}(kr:(Int×Int×LV)→Option β):Option β:=
 bif t56 then
  (C (E.k 3) [vI a,vI b',.list E.T eQ]).bind fun r7=>
  kr (wrap .i64 ((wrap .i64 (b'-1))-(wrap .i64 (Vv-a))),1,(gL r7))
 else
  kr (Vv,hint,eQ)
noncomputable def IV(E:SE)(C:af)(a b' iX:Int)(qb rD:Bool)(length Vv:Int)(t75:Bool)(eQ:LV){β:Type}(kr:((Bool×LV) ⊕ LV)→Option β):Option β:=
 bif t75 then
  (C (E.k 6) [vI a,vI b',.list E.T eQ]).bind fun cq=>
  bif (gB cq)then
  kr (.inl ((gB cq),(gL (cq.drop 1))))
  else
  kr (.inr (gL (cq.drop 1)))
 else
  kr (.inr eQ)
noncomputable def O3(E:SE)(C:af)(a b' iX:Int)(qb rD:Bool)(eQ:LV){β:Type}(kn:(Int×Int×Int×Bool×Bool×LV)→Option β)(kr:LV→Option β):Option β:=
 bif decide (((wrap .i64 (b'-a)):Int)≤12)then
  (C (E.k 0) [vI a,vI b',.list E.T eQ]).bind fun r1=>
  kr (gL r1)
 else
  bif (iX:Int)==0 then
  (C (E.k 2) [vI a,vI b',.list E.T eQ]).bind fun r2=>
  kr (gL r2)
  else
  Vt E C a b' iX qb rD (wrap .i64 (b'-a)) (!qb) eQ (un fun(hY:Int) (adT:LV)=>
   (C (E.k 11) [.list E.T adT,vI a,vI b']).bind fun r6=>
   Vu E C a b' hY qb rD (wrap .i64 (b'-a)) (gI r6) (gI (r6.drop 1)) (((gI (r6.drop 1)):Int)==2) adT (un fun(qd:Int)=>un fun(ap3:Int) (IT:LV)=>
    bif qb then
     bif rD then
     IV E C a b' hY qb rD (wrap .i64 (b'-a)) qd ((ap3:Int)==1) IT (ed (un fun(EF:Bool) (Vs:LV)=>
      kr Vs) (fun(IW:LV)=>
      bif decide ((a:Int)>0)then
       aA IW (wrap .i64 (a-1)) fun zV=>
       aA IW qd fun zW=>
       (C E.cmp (E.ex zV++E.ex zW)).bind fun EG=>
       bif !(decide (((gI EG):Int)<0))then
       (C (E.k 5) [vI a,vI b',vI qd,.list E.T IW]).bind fun r18=>
       kn ((gI r18),b',hY,qb,rD,(gL (r18.drop 1)))
       else
       (C (E.k 4) [vI a,vI b',vI qd,.list E.T IW]).bind fun tE=>
       bif decide (((wrap .i64 ((gI tE)-a)):Int)<(wrap .i64 (b'-(gI tE))))then
        (C (E.k 12) [vI a,vI (gI tE),vI hY,.list E.T (gL (tE.drop 2))]).bind fun r20=>
        kn (wrap .i64 ((gI tE)+1),b',hY,decide (((wrap .i64 ((gI tE)-a)):Int)≥(wrap .i64 (Int.tdiv (wrap .i64 (b'-a)) 8))),(gB (tE.drop 1)),(gL r20))
       else
        (C (E.k 12) [vI (wrap .i64 ((gI tE)+1)),vI b',vI hY,.list E.T (gL (tE.drop 2))]).bind fun r21=>
        kn (a,(gI tE),hY,decide (((wrap .i64 (b'-(gI tE))):Int)≥(wrap .i64 (Int.tdiv (wrap .i64 (b'-a)) 8))),(gB (tE.drop 1)),(gL r21))
      else
       (C (E.k 4) [vI a,vI b',vI qd,.list E.T IW]).bind fun tF=>
       bif decide (((wrap .i64 ((gI tF)-a)):Int)<(wrap .i64 (b'-(gI tF))))then
       (C (E.k 12) [vI a,vI (gI tF),vI hY,.list E.T (gL (tF.drop 2))]).bind fun r23=>
       kn (wrap .i64 ((gI tF)+1),b',hY,decide (((wrap .i64 ((gI tF)-a)):Int)≥(wrap .i64 (Int.tdiv (wrap .i64 (b'-a)) 8))),(gB (tF.drop 1)),(gL r23))
       else
       (C (E.k 12) [vI (wrap .i64 ((gI tF)+1)),vI b',vI hY,.list E.T (gL (tF.drop 2))]).bind fun r24=>
       kn (a,(gI tF),hY,decide (((wrap .i64 (b'-(gI tF))):Int)≥(wrap .i64 (Int.tdiv (wrap .i64 (b'-a)) 8))),(gB (tF.drop 1)),(gL r24))))
     else
     IV E C a b' hY qb rD (wrap .i64 (b'-a)) qd false IT (ed (un fun(ap4:Bool) (ap5:LV)=>
      kr ap5) (fun(IX:LV)=>
      bif decide ((a:Int)>0)then
       aA IX (wrap .i64 (a-1)) fun IY=>
       aA IX qd fun IZ=>
       (C E.cmp (E.ex IY++E.ex IZ)).bind fun r30=>
       bif !(decide (((gI r30):Int)<0))then
       (C (E.k 5) [vI a,vI b',vI qd,.list E.T IX]).bind fun r31=>
       kn ((gI r31),b',hY,qb,rD,(gL (r31.drop 1)))
       else
       (C (E.k 4) [vI a,vI b',vI qd,.list E.T IX]).bind fun tH=>
       bif decide (((wrap .i64 ((gI tH)-a)):Int)<(wrap .i64 (b'-(gI tH))))then
        (C (E.k 12) [vI a,vI (gI tH),vI hY,.list E.T (gL (tH.drop 2))]).bind fun r33=>
        kn (wrap .i64 ((gI tH)+1),b',hY,decide (((wrap .i64 ((gI tH)-a)):Int)≥(wrap .i64 (Int.tdiv (wrap .i64 (b'-a)) 8))),(gB (tH.drop 1)),(gL r33))
       else
        (C (E.k 12) [vI (wrap .i64 ((gI tH)+1)),vI b',vI hY,.list E.T (gL (tH.drop 2))]).bind fun r34=>
        kn (a,(gI tH),hY,decide (((wrap .i64 (b'-(gI tH))):Int)≥(wrap .i64 (Int.tdiv (wrap .i64 (b'-a)) 8))),(gB (tH.drop 1)),(gL r34))
      else
       (C (E.k 4) [vI a,vI b',vI qd,.list E.T IX]).bind fun qe=>
       bif decide (((wrap .i64 ((gI qe)-a)):Int)<(wrap .i64 (b'-(gI qe))))then
       (C (E.k 12) [vI a,vI (gI qe),vI hY,.list E.T (gL (qe.drop 2))]).bind fun r36=>
       kn (wrap .i64 ((gI qe)+1),b',hY,decide (((wrap .i64 ((gI qe)-a)):Int)≥(wrap .i64 (Int.tdiv (wrap .i64 (b'-a)) 8))),(gB (qe.drop 1)),(gL r36))
       else
       (C (E.k 12) [vI (wrap .i64 ((gI qe)+1)),vI b',vI hY,.list E.T (gL (qe.drop 2))]).bind fun r37=>
       kn (a,(gI qe),hY,decide (((wrap .i64 (b'-(gI qe))):Int)≥(wrap .i64 (Int.tdiv (wrap .i64 (b'-a)) 8))),(gB (qe.drop 1)),(gL r37))))
    else
     IV E C a b' hY qb rD (wrap .i64 (b'-a)) qd false IT (ed (un fun(aG6:Bool) (ap6:LV)=>
      kr ap6) (fun(I4:LV)=>
      bif decide ((a:Int)>0)then
      aA I4 (wrap .i64 (a-1)) fun O4=>
      aA I4 qd fun O5=>
      (C E.cmp (E.ex O4++E.ex O5)).bind fun r43=>
      bif !(decide (((gI r43):Int)<0))then
       (C (E.k 5) [vI a,vI b',vI qd,.list E.T I4]).bind fun r44=>
       kn ((gI r44),b',hY,qb,rD,(gL (r44.drop 1)))
      else
       (C (E.k 4) [vI a,vI b',vI qd,.list E.T I4]).bind fun tI=>
       bif decide (((wrap .i64 ((gI tI)-a)):Int)<(wrap .i64 (b'-(gI tI))))then
       (C (E.k 12) [vI a,vI (gI tI),vI hY,.list E.T (gL (tI.drop 2))]).bind fun r46=>
       kn (wrap .i64 ((gI tI)+1),b',hY,decide (((wrap .i64 ((gI tI)-a)):Int)≥(wrap .i64 (Int.tdiv (wrap .i64 (b'-a)) 8))),(gB (tI.drop 1)),(gL r46))
       else
       (C (E.k 12) [vI (wrap .i64 ((gI tI)+1)),vI b',vI hY,.list E.T (gL (tI.drop 2))]).bind fun r47=>
       kn (a,(gI tI),hY,decide (((wrap .i64 (b'-(gI tI))):Int)≥(wrap .i64 (Int.tdiv (wrap .i64 (b'-a)) 8))),(gB (tI.drop 1)),(gL r47))
      else
      (C (E.k 4) [vI a,vI b',vI qd,.list E.T I4]).bind fun tJ=>
      bif decide (((wrap .i64 ((gI tJ)-a)):Int)<(wrap .i64 (b'-(gI tJ))))then
       (C (E.k 12) [vI a,vI (gI tJ),vI hY,.list E.T (gL (tJ.drop 2))]).bind fun r49=>
       kn (wrap .i64 ((gI tJ)+1),b',hY,decide (((wrap .i64 ((gI tJ)-a)):Int)≥(wrap .i64 (Int.tdiv (wrap .i64 (b'-a)) 8))),(gB (tJ.drop 1)),(gL r49))
      else
       (C (E.k 12) [vI (wrap .i64 ((gI tJ)+1)),vI b',vI hY,.list E.T (gL (tJ.drop 2))]).bind fun r50=>
       kn (a,(gI tJ),hY,decide (((wrap .i64 (b'-(gI tJ))):Int)≥(wrap .i64 (Int.tdiv (wrap .i64 (b'-a)) 8))),(gB (tJ.drop 1)),(gL r50))))))
noncomputable def adU(E:SE)(C:af):=un fun a=>un fun b'=>un fun iX=>un fun qb=>un fun rD eQ=>O3 E C a b' iX qb rD eQ (fun y=>some (Sum.inl y)) (fun r=>some (Sum.inr r))
noncomputable def ap7(E:SE)(C:af)(a b' iX:Int)(eQ:LV):Option LV:=
 (Loop (adU E C) (a,b',iX,true,true,eQ)).bind (fun(BL:LV)=>
  some [.list E.T BL])
noncomputable def adV(E:SE)(C:af)(xs:LV):Option LV:=
 (C 55 [.int .u64 (wrap .u64 (xs.length:Int))]).bind fun r1=>
 (C (E.k 12) [vI 0,vI (xs.length:Int),vI (gI r1),.list E.T xs]).bind fun r2=>
 some [.list E.T (gL r2)]
noncomputable def adW(C:af)(fu g9 iy iN:Int)(gQ:LV):Option LV:=
 (C 27 [vI fu,vI g9,.int .u64 iy,.int .u64 iN,ec gQ]).bind fun r1=>
 bif ((gI (r1.drop 2)):Int) != 0 then
  some [vI 0,vI 0,vI (gI (r1.drop 2)),av ([]:LV),ah ([]:LV)]
 else
  (C 18 [vI (gI r1),vI (gI (r1.drop 1)),av (gL (r1.drop 3)),ah (gL ((r1.drop 3).drop 1))]).bind fun r2=>
  some [vI (gI r2),vI (gI (r2.drop 1)),vI 0,av (gL (r2.drop 2)),ah (gL ((r2.drop 2).drop 1))]
theorem ap8{fu g9 iy iN:Int}{gQ:LV}{r:Option LV}(h:adW CC fu g9 iy iN gQ=r):CC 13 [vI fu,vI g9,.int .u64 iy,.int .u64 iN,ec gQ]=r:=bj (L:=bh) an h
instance (n:Nf)(L S:Nat):Decidable (nr n L S):=by unfold nr;infer_instance
noncomputable def nZ(n:Nf)(L S:Nat):Da:=if nr n L S then zD else minD (nX n L S)
def EH(n:Nf)(L S:Nat):Int:=if nr n L S then 3 else 0
section
variable {n:Nf}{L S:Nat}(h:Nat6 n L S)
include h
theorem ap9:CC 13 (p6 n [])=some (BM (nZ n L S) (EH n L S)):=by
 refine ap8 ?_;unfold adW nZ EH;by_cases ho:nr n L S
 ·obtain⟨X,hX⟩:=apS h ho;rw[aF ho,aF ho];refine bs hX (bT rfl ?_);rfl
 ·obtain⟨X,hX⟩:=apR h ho;rw[aD ho,aD ho];refine bs hX (bF rfl ?_);refine bs (Bx (EC h ho)) ?_;rfl
end
def fk(L S st fin:Nat)(l:List Ed):Nf:=⟨L,S,st,fin,wh l⟩
structure EI(L S st fin:Nat)(l:List Ed):Prop where
 l1:1≤L
 l6:L≤6
 yc:S≤64
 st:st<2^S
 fin:fin<2^S
 E:∀e∈l,e.In L S
 len:l.length≤1000000
theorem wi{L S st fin:Nat}{l:List Ed}(h:EI L S st fin l):Nat6 (fk L S st fin l) L S where
 hL:=rfl
 hS:=rfl
 ok:=by
  have Ba:=h.l1;have Vx:=h.l6;have hs:=h.yc;have cv:=h.st;have adX:=h.fin;have hp:2^S≤2^64:=zd (by omega) hs;have iu:∀e∈wh l,e.In L S:=fun e he=>h.E e (BK.1 he);have hlen:=apX (L:=L) (S:=S) (by omega) (by omega) (O2 l) iu;refine⟨by simp only[fk];omega,by simp only[fk];omega,by simp only[fk];omega,by simp only[fk];omega,by simp only[fk];omega,by simp only[fk];omega,by simp only[fk];unfold maxLen;omega,fun e he=> ?_⟩;have:=iu e he;unfold Ed.In at this;unfold Ed.Ok;omega
 code:=by
  have Ba:=h.l1;have Vx:=h.l6;have hs:=h.yc;unfold Nf.code;rw[aD (by simp only[fk];omega),aD (by simp only[fk,Int.toNat_natCast];have:=h.st;have:=h.fin;omega),aF];intro i hi;have iu:∀e∈wh l,e.In L S:=fun e he=>h.E e (BK.1 he);unfold Nf.v5;simp only[fk]at*
  refine⟨by grind,fun h0=> ?_⟩;rw[ep hi,ep (show i-1<_ by omega)];exact GP.1 (O2 l) (i-1) i (by omega) hi (by omega)
def dB(p x q:Nat):Ed:=⟨(p:Int),(x:Int),(q:Int)⟩
def fm(n:Nat)(g:Nat→List Ed):List Ed:=(List.range n).flatMap g
theorem I5{n:Nat}{g:Nat→List Ed}:fm (n+1) g=fm n g++g n:=by simp[fm,zc]
theorem adY{n:Nat}{g:Nat→List Ed}{e:Ed}:e∈fm n g↔∃i,i<n∧e∈g i:=by simp[fm]
theorem aqa{n k:Nat}{g:Nat→List Ed}(h:∀i,i<n→(g i).length≤k):(fm n g).length≤n*k:=by
 induction n with
 |zero=>simp[fm]
 |succ n ih=>
  rw[I5,gY,GA];grind
theorem Vy{X R:Type}{step:X→Option (X ⊕ R)}(n:Nat)(s:Nat→X)(r:R){x:X}(hx:x=s 0)(h:∀i,i<n→step (s i)=some (.inl (s (i+1))))(he:step (s n)=some (.inr r)):Loop step x=some r:=by rw[hx];exact eZ n s r h he
theorem aqb{l:List Ed}{p x q:Nat}:l.map Ed.enc++[V.agg [vI (p:Int),vI (x:Int),vI (q:Int)]]=(l++[dB p x q]).map Ed.enc:=by simp[dB,Ed.enc]
section
variable {L S st fin:Nat}{l:List Ed}
def kZ(fin:Nat)(f:Nat→Bool)(off:Nat):Nat→Nat
 |0=>fin
 |i+1=>if f i=true then kZ fin f off i|||2^(i+off)else kZ fin f off i
theorem Vz{f:Nat→Bool}{off:Nat}:∀{n j:Nat},(kZ fin f off n).testBit j=(fin.testBit j||(decide (off≤j∧j<n+off)&&f (j-off)))
 |0,j=>by
  rw[dcF];simp[kZ]
 |n+1,j=>by
  unfold kZ;by_cases hf:f n=true
  ·rw[aF hf,Nat.testBit_or,Vz,Dx];grind
  ·rw[aD hf,Vz];grind
theorem O7{f:Nat→Bool}{off k:Nat}(hf:fin<2^k):∀{n:Nat},n+off≤k→kZ fin f off n<2^k
 |0,_=>hf
 |n+1,h=>by
  unfold kZ;have ih:=O7 (f:=f) (off:=off) hf (n:=n) (by omega);split
  ·exact GM ih (xp (by omega) (by omega))
  ·exact ih
def qf(a:Da)(off p:Nat):List Ed:=tab a.L fun x=>dB (p+off) x (a.nx p x+off)
def eS(a:Da)(off:Nat):List Ed:=fm a.n (qf a off)
theorem VA{a:Da}{off:Nat}{e:Ed}:e∈eS a off↔∃p x,p<a.n∧x<a.L∧e=dB (p+off) x (a.nx p x+off):=by
 unfold eS qf;rw[adY];constructor
 ·rintro⟨p,hp,he⟩;obtain⟨x,hx,rfl⟩:=zR.1 he;grind
 ·rintro⟨p,x,hp,hx,rfl⟩;exact⟨p,hp,zR.2 ⟨x,hx,rfl⟩⟩
theorem O8{a:Da}(h:a.Ok){off:Nat}{n:Nat}:(fm n (qf a off)).length≤n*6:=aqa fun p _=>by unfold qf;rw[en];exact h.l6
end
def mD(E:List Ed):Nat→List Nat→Nat→Prop
 |i,[],k=>i=k
 |i,x::w,k=> ∃j,dB i x j∈E∧mD E j w k
theorem mD.ext{A B:List Ed}(h:∀e,e∈A→e∈B):∀{w:List Nat} {i k:Nat},mD A i w k→mD B i w k
 | [],_,_,p=>p
 |_::_,_,_,⟨j,h1,h2⟩=>⟨j,h _ h1,mD.ext h h2⟩
theorem mD.app{E:List Ed}:∀{v w:List Nat} {i k:Nat},mD E i (v++w) k↔∃j,mD E i v j∧mD E j w k
 | [],w,i,k=>by simp[mD]
 |x::v,w,i,k=>by
  simp only[List.cons_append,mD];constructor
  ·rintro⟨j,h1,h2⟩;obtain⟨m,h3,h4⟩:=mD.app.1 h2;grind
  ·rintro⟨m,⟨j,h1,h3⟩,h4⟩;exact⟨j,h1,mD.app.2 ⟨m,h3,h4⟩⟩
theorem adZ{p x q p' x' q':Nat}:dB p x q=dB p' x' q'↔p=p'∧x=x'∧q=q':=by
 unfold dB;grind
theorem aqc{e:Ed}(h1:0≤e.f)(h2:0≤e.l)(h3:0≤e.t):e=dB e.f.toNat e.l.toNat e.t.toNat:=by
 unfold dB;cases e;grind
theorem VB{E:List Ed}(hE:∀e∈E,0≤e.f∧0≤e.l∧0≤e.t):∀(w:List Nat) (s k:Nat),(w.foldl (sn E) s).testBit k=true↔∃i,s.testBit i=true∧mD E i w k
 | [],s,k=>by simp[mD]
 |x::w,s,k=>by
  rw[List.foldl_cons,VB hE w];constructor
  ·rintro⟨j,h1,h2⟩;unfold sn at h1;rw[Il,AU]at h1;obtain⟨e,he,h3⟩:=h1;simp only[aG,jf]at h3;obtain⟨c1,c2,c3⟩:=hE e he;refine⟨e.f.toNat,h3.2.1,j,?_,h2⟩;have:e=dB e.f.toNat x j:=by
    rw[aqc c1 c2 c3];rw[adZ];simp only[dB,Int.toNat_natCast];grind
   grind
  ·rintro⟨i,h1,j,h2,h3⟩;refine⟨j,?_,h3⟩;unfold sn;rw[Il,AU];refine⟨_,h2,?_⟩;simp only[aG,jf,dB,Int.toNat_natCast];grind
theorem aqd{fin s:Nat}:sf fin s=true↔∃k,s.testBit k=true∧fin.testBit k=true:=by
 unfold sf;rw[nG,GD];constructor
 ·intro h;obtain⟨k,hk⟩:=Nat.exists_testBit_of_ne_zero h;grind
 ·rintro⟨k,h1,h2⟩ h0;have:(s&&&fin).testBit k=true:=by grind
  grind
def uT(st fin:Nat)(l:List Ed)(w:List Nat):Prop:= ∃i k,st.testBit i=true∧fin.testBit k=true∧mD l i w k
section
variable {L S st fin:Nat}{l:List Ed}(h:EI L S st fin l)
include h
theorem aqe(hn:¬nr (fk L S st fin l) L S):(nZ (fk L S st fin l) L S).Ok:=by
 unfold nZ;rw[aD hn];exact sw (EC (wi h) hn)
theorem aqf(hn:¬nr (fk L S st fin l) L S):(nZ (fk L S st fin l) L S).L=L:=by
 unfold nZ;rw[aD hn];exact tB (EC (wi h) hn)
theorem aqg(hn:¬nr (fk L S st fin l) L S){w:List Nat}(hw:WL L w):(nZ (fk L S st fin l) L S).acc (nZ (fk L S st fin l) L S).st w=true↔uT st fin l w:=by
 have ao:=EC (wi h) hn;unfold nZ;rw[aD hn,zO ao hw,show(nX (fk L S st fin l) L S).st=0 from rfl,apU (wi h) hw];show sf fin (w.foldl (sn (wh l)) st)=true↔_;have hE:∀e∈wh l,0≤e.f∧0≤e.l∧0≤e.t:=fun e he=>by
  have:=h.E e (BK.1 he);unfold Ed.In at this;omega
 rw[aqd];unfold uT;constructor
 ·rintro⟨k,h1,h2⟩;obtain⟨i,h3,h4⟩:=(VB hE w st k).1 h1;exact⟨i,k,h3,h2,h4.ext fun e he=>BK.1 he⟩
 ·rintro⟨i,k,h1,h2,h3⟩;exact⟨k,(VB hE w st k).2 ⟨i,h1,h3.ext fun e he=>BK.2 he⟩,h2⟩
theorem aqh(hS:S≤9):¬nr (fk L S st fin l) L S:=fun ho=>by
 have h1:=IN (wi h) (2^S);have h2:2^S≤2^9:=zd (by omega) hS;have h3:(512:Nat)<(ar L (sn (fk L S st fin l).E) (fk L S st fin l).st (2^S)).length:=ho;omega
end
theorem aqi{p x q L S:Nat}(hp:p<S)(hx:x<L)(hq:q<S):(dB p x q).In (L:Int) (S:Int):=by unfold Ed.In dB;simp only;omega
theorem ad0{a:Da}(h:a.Ok){off S:Nat}(hs:a.n+off≤S){e:Ed}(he:e∈eS a off):e.In (a.L:Int) (S:Int):=by
 obtain⟨p,x,hp,hx,rfl⟩:=VA.1 he;have:=h.lH hp hx;exact aqi (by omega) hx (by omega)
theorem ad1{q i:Nat}:(2^q).testBit i=true↔i=q:=by rw[Dx,jf];exact eq_comm
theorem aqj{f:Nat→Bool}{off n j:Nat}:(kZ 0 f off n).testBit j=true↔off≤j∧j<n+off∧f (j-off)=true:=by
 rw[Vz,Nat.zero_testBit,Bool.false_or,aG,jf,and_assoc]
inductive yk(K:List Nat→Prop):List Nat→Prop
 |nil:yk K []
 |app {u v:List Nat}:u≠[]→K u→yk K v→yk K (u++v)
section
variable {K:List Nat→Prop}
theorem yk.one{w:List Nat}(h:K w):yk K w:=by
 by_cases hw:w=[]
 ·rw[hw];exact .nil
 ·have:=yk.app hw h .nil;rwa [nJ]at this
theorem yk.ext{K2:List Nat→Prop}{L:Nat}(h:∀u,WL L u→(K u↔K2 u)){w:List Nat}(hw:WL L w):yk K w↔yk K2 w:=by
 constructor
 ·intro hr
  induction hr with
  |nil=>exact .nil
  |app g1 g2 _ ih=>exact .app g1 ((h _ (WL.app.1 hw).1).1 g2) (ih (WL.app.1 hw).2)
 ·intro hr
  induction hr with
  |nil=>exact .nil
  |app g1 g2 _ ih=>exact .app g1 ((h _ (WL.app.1 hw).1).2 g2) (ih (WL.app.1 hw).2)
end
section
variable {m:Da}(hm:m.Ok)
include hm
theorem VC:∀{w:List Nat} {i t:Nat},i<m.n→WL m.L w→(mD (eS m 0) i w t↔t=m.run i w)
 | [],i,t,_,_=>by
  show i=t↔_;exact eq_comm
 |x::w,i,t,hi,hw=>by
  rw[Da.VD];have ih:=VC (w:=w) (i:=m.nx i x) (t:=t) (hm.lH hi hw.head) hw.tail;constructor
  ·rintro⟨q,h1,h2⟩;obtain⟨p',x',g1,g2,g3⟩:=VA.1 h1;obtain⟨rfl,rfl,rfl⟩:=adZ.1 g3;grind
  ·intro h;exact⟨_,VA.2 ⟨i,x,hi,hw.head,rfl⟩,ih.2 h⟩
omit hm in
theorem ad2{f:Nat→Bool}{t:Nat}:(kZ 0 f 0 m.n).testBit t=true↔t<m.n∧f t=true:=by
 rw[aqj,Nat.sub_zero];constructor
 ·rintro⟨_,h2,h3⟩;exact⟨by omega,h3⟩
 ·rintro⟨h2,h3⟩;exact⟨by omega,by omega,h3⟩
end
def Ed.rev(e:Ed):Ed:=⟨e.t,e.l,e.f⟩
@[simp] theorem Ed.rev_rev (e:Ed):e.rev.rev=e:=rfl
theorem aqk{p x q:Nat}:(dB p x q).rev=dB q x p:=rfl
theorem ad3{E:List Ed}{p x q:Nat}:dB p x q∈E.map Ed.rev↔dB q x p∈E:=by
 rw[gm];constructor
 ·rintro⟨e,h1,h2⟩;have:e=dB q x p:=by rw[←aqk,←h2,Ed.rev_rev]
  grind
 ·intro h;exact⟨_,h,rfl⟩
theorem O9{E:List Ed}:∀{w:List Nat} {i t:Nat},mD (E.map Ed.rev) i w t↔mD E t w.reverse i
 | [],i,t=>by
  show i=t↔t=i;omega
 |x::w,i,t=>by
  rw[List.reverse_cons,mD.app];constructor
  ·rintro⟨q,h1,h2⟩;exact⟨q,O9.1 h2,i,ad3.1 h1,rfl⟩
  ·rintro⟨q,h1,j,h2,h3⟩;have:j=i:=h3;subst this;exact⟨q,ad3.2 h2,O9.2 h1⟩
theorem aql{E:List Ed}{st fin:Nat}{w:List Nat}:uT fin st (E.map Ed.rev) w↔uT st fin E w.reverse:=by
 unfold uT;constructor
 ·rintro⟨i,k,h1,h2,h3⟩;exact⟨k,i,h2,h1,O9.1 h3⟩
 ·rintro⟨i,k,h1,h2,h3⟩;exact⟨k,i,h2,h1,O9.2 h3⟩
theorem WL.rev{L:Nat}{w:List Nat}(h:WL L w):WL L w.reverse:=fun x hx=>h x (List.mem_reverse.1 hx)
def I6(m:Da):Nf:=fk m.L m.n (kZ 0 m.fin 0 m.n) (2^m.st) ((eS m 0).map Ed.rev)
section
variable {m:Da}(hm:m.Ok)
include hm
theorem aqm{w:List Nat}(hw:WL m.L w):uT (2^m.st) (kZ 0 m.fin 0 m.n) (eS m 0) w↔m.acc m.st w=true:=by
 unfold uT;constructor
 ·rintro⟨i,k,h1,h2,h3⟩;obtain rfl:=ad1.1 h1;obtain rfl:=(VC hm hm.s hw).1 h3;exact(ad2.1 h2).2
 ·intro h;exact⟨m.st,m.run m.st w,ad1.2 rfl,ad2.2 ⟨hm.vZ w hm.s hw,h⟩,(VC hm hm.s hw).2 rfl⟩
theorem aqn{w:List Nat}(hw:WL m.L w):uT (kZ 0 m.fin 0 m.n) (2^m.st) ((eS m 0).map Ed.rev) w↔m.acc m.st w.reverse=true:=by
 rw[aql,aqm hm hw.rev]
theorem ad4(hs:m.n≤64):EI m.L m.n (kZ 0 m.fin 0 m.n) (2^m.st) ((eS m 0).map Ed.rev)where
 l1:=hm.l1
 l6:=hm.l6
 yc:=hs
 st:=O7 (Nat.two_pow_pos _) (by omega)
 fin:=xp (by omega) hm.s
 E:=fun e he=>by
  obtain⟨e',h1,rfl⟩:=gm.1 he;have:=ad0 hm (off:=0) (S:=m.n) (by omega) h1;unfold Ed.In at*
  simp only[Ed.rev];omega
 len:=by
  have h1:=O8 hm (off:=0) (n:=m.n);rw[cT];unfold eS;omega
end
theorem Pb(w:List Nat):∀k,w++jM w k=jM w k++w
 |0=>rfl
 |k+1=>by
  show w++(jM w k++w)=(jM w k++w)++w;rw[←eY,Pb w k]
theorem ad5(w:List Nat):∀k,(jM w k).reverse=jM w.reverse k
 |0=>rfl
 |k+1=>by
  show(jM w k++w).reverse=jM w.reverse k++w.reverse;rw[mb,ad5 w k,Pb]
theorem iz(n:Nat)(w:List Nat):(bd n w).reverse=bd n w.reverse:=ad5 w _
theorem tK{L:Nat}{P:List Nat→Bool}{mo:Bool}{d d':ej}(σ:Nat→Nat)(h:∀t:Nat→List Nat,∃l r,uP (uW d' t) d'.p=some [l]∧uP (uW d' t) d'.q=some [r]∧
  ((uP (uW d fun i=>(t (σ i)).reverse) d.p=some [l.reverse]∧uP (uW d fun i=>(t (σ i)).reverse) d.q=some [r.reverse])∨(uP (uW d fun i=>(t (σ i)).reverse) d.p=some [r.reverse]∧uP (uW d fun i=>(t (σ i)).reverse) d.q=some [l.reverse])))
  (hd:fM L P mo d):fM L (fun w=>P w.reverse) mo d':=fun t ht l r hl hr e1 e2 x y hx hy=>by
 obtain⟨l',r',g1,g2,g3⟩:=h t;obtain rfl:l'=l:=by rw[g1]at e1;simpa using e1
 obtain rfl:r'=r:=by rw[g2]at e2;simpa using e2
 have fS:∀i,WL L ((fun i=>(t (σ i)).reverse) i)∧(mo=true∨(fun i=>(t (σ i)).reverse) i≠[]):=fun i=>⟨(ht (σ i)).1.rev,(ht (σ i)).2.imp id fun h2=>by simpa using h2⟩
 show P (x++(l'++y)).reverse=P (x++(r'++y)).reverse;rw[mb,mb,mb,mb,eY,eY];rcases g3 with⟨k1,k2⟩|⟨k1,k2⟩
 ·exact hd _ fS _ _ hl.rev hr.rev k1 k2 _ _ hy.rev hx.rev
 ·exact(hd _ fS _ _ hr.rev hl.rev k1 k2 _ _ hy.rev hx.rev).symm
section
variable {L:Nat}{P:List Nat→Bool}{mo:Bool}
theorem aqo:fM L P mo n0→fM L (fun w=>P w.reverse) mo n0:=tK id fun t=>⟨t 0,[],rfl,rfl,.inl ⟨rfl,rfl⟩⟩
theorem Pc:fM L P mo lI→fM L (fun w=>P w.reverse) mo lI:=tK id fun t=>⟨t 0++t 1,t 1++t 0,rfl,rfl,.inr ⟨by rw[mb];rfl,by rw[mb];rfl⟩⟩
theorem ad6:fM L P mo aY→fM L (fun w=>P w.reverse) mo aY:=tK id fun t=>⟨bd 1 (t 0),bd 0 (t 0),rfl,rfl,.inl ⟨by rw[iz];rfl,by rw[iz];rfl⟩⟩
theorem ad7:fM L P mo la→fM L (fun w=>P w.reverse) mo la:=tK id fun t=>⟨bd 0 (bd 0 (t 0)),[],rfl,rfl,.inl ⟨by rw[iz,iz];rfl,rfl⟩⟩
theorem aqp:fM L P mo oC→fM L (fun w=>P w.reverse) mo oC:=tK id fun t=>⟨t 0++t 0,t 0,rfl,rfl,.inl ⟨by rw[mb];rfl,rfl⟩⟩
theorem ad8:fM L P mo oD→fM L (fun w=>P w.reverse) mo oE:=tK (fun i=>if i=0 then 1 else 0) fun t=>⟨t 1++bd 0 (t 0++t 1),bd 0 (t 0++t 1),rfl,rfl,.inl ⟨by rw[mb,iz,mb];rfl,by rw[iz,mb];rfl⟩⟩
theorem ad9:fM L P mo oE→fM L (fun w=>P w.reverse) mo oD:=tK (fun i=>if i=0 then 1 else 0) fun t=>⟨bd 0 (t 0++t 1)++t 0,bd 0 (t 0++t 1),rfl,rfl,.inl ⟨by rw[mb,iz,mb];rfl,by rw[iz,mb];rfl⟩⟩
theorem aea:fM L P mo oF→fM L (fun w=>P w.reverse) mo oG:=tK id fun t=>⟨t 1++bd 0 (bd 0 (t 0)),bd 0 (bd 0 (t 0)),rfl,rfl,.inl ⟨by rw[mb,iz,iz];rfl,by rw[iz,iz];rfl⟩⟩
theorem aeb:fM L P mo oG→fM L (fun w=>P w.reverse) mo oF:=tK id fun t=>⟨bd 0 (bd 0 (t 0))++t 1,bd 0 (bd 0 (t 0)),rfl,rfl,.inl ⟨by rw[mb,iz,iz];rfl,by rw[iz,iz];rfl⟩⟩
theorem aqq:fM L P mo oH→fM L (fun w=>P w.reverse) mo oH:=tK id fun t=>⟨bd 0 (bd 0 (t 0))++t 1++bd 0 (bd 0 (t 0)),bd 0 (bd 0 (t 0)),rfl,rfl,.inl ⟨by rw[mb,mb,iz,iz,←eY];rfl,by rw[iz,iz];rfl⟩⟩
theorem VE{a b c d e:List Nat}:(a++b++c++d++e).reverse=e.reverse++d.reverse++c.reverse++b.reverse++a.reverse:=by simp
theorem aqr{a b c:List Nat}:(a++b++c).reverse=c.reverse++b.reverse++a.reverse:=by simp
theorem aqs:fM L P mo oI→fM L (fun w=>P w.reverse) mo oI:=tK id fun t=>⟨bd 0 (bd 0 (t 0))++t 1++bd 0 (bd 0 (t 0))++t 1++bd 0 (bd 0 (t 0)),bd 0 (bd 0 (t 0))++t 1++bd 0 (bd 0 (t 0)),rfl,rfl,.inl ⟨by rw[VE,iz,iz];rfl,by rw[aqr,iz,iz];rfl⟩⟩
theorem aqt:fM L P mo oJ→fM L (fun w=>P w.reverse) mo oJ:=tK id fun t=>⟨bd 0 (bd 0 (t 0))++t 1++bd 0 (bd 0 (t 0))++t 2++bd 0 (bd 0 (t 0)),bd 0 (bd 0 (t 0))++t 2++bd 0 (bd 0 (t 0))++t 1++bd 0 (bd 0 (t 0)),rfl,rfl,.inr ⟨by rw[VE,iz,iz];rfl,by rw[VE,iz,iz];rfl⟩⟩
def Ctx(L:Nat)(P:List Nat→Bool)(l r:List Nat):Prop:= ∀x y,WL L x→WL L y→P (x++(l++y))=P (x++(r++y))
theorem Ctx.trans{l r s:List Nat}(h:Ctx L P l r)(h2:Ctx L P r s):Ctx L P l s:=fun x y hx hy=>(h x y hx hy).trans (h2 x y hx hy)
theorem Ctx.symm{l r:List Nat}(h:Ctx L P l r):Ctx L P r l:=fun x y hx hy=>(h x y hx hy).symm
theorem Ctx.in{l r u v:List Nat}(h:Ctx L P l r)(hu:WL L u)(hv:WL L v):Ctx L P (u++l++v) (u++r++v):=fun x y hx hy=>by
 have:=h (x++u) (v++y) (WL.app.2 ⟨hx,hu⟩) (WL.app.2 ⟨hv,hy⟩);simpa only[eY]using this
theorem aec(u v:List Nat):∀k,jM (u++v) (k+1)=u++jM (v++u) k++v
 |0=>by simp[jM]
 |k+1=>by
  show jM (u++v) (k+1)++(u++v)=u++(jM (v++u) k++(v++u))++v;rw[aec u v k];simp only[eY]
theorem aqu(hP:fM L P true lJ):fM L (fun w=>P w.reverse) true lJ:=by
 have h7:∀u v,WL L u→WL L v→Ctx L P (bd 0 (u++v)++u++bd 0 (u++v)) (bd 0 (u++v)):=fun u v hu hv=>by
  have hp:WL L (bd 0 (u++v)):=xW (WL.app.2 ⟨hu,hv⟩) _;have:=hP (fun i=>if i=0 then u else v) (fun i=>⟨by show WL L (if i=0 then u else v);split<;>assumption,.inl rfl⟩) (bd 0 (u++v)++u++bd 0 (u++v)) (bd 0 (u++v)) (WL.app.2 ⟨WL.app.2 ⟨hp,hu⟩,hp⟩) hp rfl rfl;exact this
 have uU:WL L []:=WL.nil;have idem:∀u,WL L u→Ctx L P (bd 0 u++bd 0 u) (bd 0 u):=fun u hu=>by
  have:=h7 [] u uU hu;simpa only[List.nil_append,nJ]using this
 have ap:∀u,WL L u→Ctx L P (bd 0 u++u) (bd 0 u):=fun u hu=>by
  have hp:WL L (bd 0 u):=xW hu _;have h1:=h7 u [] hu uU;rw[nJ]at h1;have h2:=(idem u hu).in uU hu;rw[List.nil_append,List.nil_append]at h2;refine h2.symm.trans (Ctx.trans (fun x y hx hy=> ?_) h1)
  refine congrArg P ?_;have h2:∀z,u++(jM u (eN-1+0)++z)=jM u (eN-1+0)++(u++z):=fun z=>by
   rw[←eY,Pb,eY]
  simp only[bd,eY];rw[h2]
 have succ:∀u,WL L u→Ctx L P (jM u (eN-1+0+1)) (bd 0 u):=ap;refine fun t ht l r hl hr e1 e2=> ?_;have g1:uP (uW lJ t) lJ.p=some [bd 0 (t 0++t 1)++t 0++bd 0 (t 0++t 1)]:=rfl;have g2:uP (uW lJ t) lJ.q=some [bd 0 (t 0++t 1)]:=rfl;obtain rfl:bd 0 (t 0++t 1)++t 0++bd 0 (t 0++t 1)=l:=by rw[g1]at e1;simpa using e1
 obtain rfl:bd 0 (t 0++t 1)=r:=by rw[g2]at e2;simpa using e2
 have hu:WL L (t 1).reverse:=(ht 1).1.rev;have hv:WL L (t 0).reverse:=(ht 0).1.rev;have key:Ctx L P (bd 0 ((t 1).reverse++(t 0).reverse)++(t 0).reverse++bd 0 ((t 1).reverse++(t 0).reverse)) (bd 0 ((t 1).reverse++(t 0).reverse)):=by
  generalize (t 1).reverse=u at hu⊢;generalize (t 0).reverse=v at hv⊢;have huv:WL L (u++v):=WL.app.2 ⟨hu,hv⟩;have Ii:WL L (v++u):=WL.app.2 ⟨hv,hu⟩;have hF:WL L (bd 0 (u++v)):=xW huv _;have hG:WL L (bd 0 (v++u)):=xW Ii _;have wj:jM (u++v) (eN-1+0+1)=u++bd 0 (v++u)++v:=aec u v _;have s:=succ (u++v) huv;rw[wj]at s;have c1:Ctx L P (bd 0 (u++v)++v++bd 0 (u++v)) ((u++bd 0 (v++u)++v)++v++bd 0 (u++v)):=by
   have:=s.symm.in uU (WL.app.2 ⟨hv,hF⟩);simpa only[List.nil_append,eY]using this
  have c2:Ctx L P ((u++bd 0 (v++u)++v)++v++bd 0 (u++v)) ((u++bd 0 (v++u)++v)++v++(u++bd 0 (v++u)++v)):=by
   have:=s.symm.in (u:=(u++bd 0 (v++u)++v)++v) (WL.app.2 ⟨WL.app.2 ⟨WL.app.2 ⟨hu,hG⟩,hv⟩,hv⟩) uU;simpa only[nJ]using this
  have c3:Ctx L P ((u++bd 0 (v++u)++v)++v++(u++bd 0 (v++u)++v)) (u++(bd 0 (v++u)++v++bd 0 (v++u))++v):=by
   have a:=(ap (v++u) Ii).in (u:=u++bd 0 (v++u)++v) (v:=v) (WL.app.2 ⟨WL.app.2 ⟨hu,hG⟩,hv⟩) hv;refine Ctx.trans (fun x y hx hy=>congrArg P ?_) (a.trans fun x y hx hy=>congrArg P ?_)
   ·have h2:∀z,v++(u++(jM (v++u) (eN-1+0)++z))=jM (v++u) (eN-1+0)++(v++(u++z)):=fun z=>by
     have:=congrArg (fun l=>l++z) (Pb (v++u) (eN-1+0));simpa only[eY]using this
    simp only[bd,eY];rw[h2]
   ·simp only[eY]
  have c4:Ctx L P (u++(bd 0 (v++u)++v++bd 0 (v++u))++v) (u++bd 0 (v++u)++v):=(h7 v u hv hu).in hu hv;exact c1.trans (c2.trans (c3.trans (c4.trans s)))
 intro x y hx hy;have e3:(x++(bd 0 (t 0++t 1)++t 0++bd 0 (t 0++t 1)++y)).reverse=y.reverse++(bd 0 ((t 1).reverse++(t 0).reverse)++(t 0).reverse++bd 0 ((t 1).reverse++(t 0).reverse)++x.reverse):=by
  simp only[mb,iz,eY]
 have e4:(x++(bd 0 (t 0++t 1)++y)).reverse=y.reverse++(bd 0 ((t 1).reverse++(t 0).reverse)++x.reverse):=by
  simp only[mb,iz,eY]
 show P _=P _;rw[e3,e4];exact key y.reverse x.reverse hy.rev hx.rev
end
def tL(c:Nat):Nat:=if c=8 then 9 else if c=9 then 8 else if c=12 then 13 else if c=13 then 12 else c
theorem j9.aed{L:Nat}{P:List Nat→Bool}{c:Nat}(hc:c<16)(h:j9 L P c):j9 L (fun w=>P w.reverse) (tL c):=by
 have one:∀{d:ej} {c:Nat} {mo:Bool},zH c=[d]→gA zG c=mo→j9 L P c→fM L P mo d:=fun e em h=>by
  rw[←em];exact h _ (by rw[e];exact jV.2 rfl)
 have wk:∀{Q:List Nat→Bool} {d:ej} {c:Nat} {mo:Bool},zH c=[d]→gA zG c=mo→fM L Q mo d→j9 L Q c:=fun e em h d' hd=>by
  rw[e]at hd;rw[jV.1 hd,em];exact h
 have two:∀{d e:ej} {c:Nat} {mo:Bool},zH c=[d,e]→gA zG c=mo→j9 L P c→fM L P mo d∧fM L P mo e:=fun ee em h=>by
  rw[←em];exact⟨h _ (by rw[ee];simp),h _ (by rw[ee];simp)⟩
 have EJ:∀{Q:List Nat→Bool} {d e:ej} {c:Nat} {mo:Bool},zH c=[d,e]→gA zG c=mo→fM L Q mo d→fM L Q mo e→j9 L Q c:=fun ee em h h2 d' hd=>by
  rw[ee]at hd;rw[em];rcases jg.1 hd with rfl|hd
  ·exact h
  ·rw[jV.1 hd];exact h2
 rcases(by omega:c=0∨c=1∨c=2∨c=3∨c=4∨c=5∨c=6∨c=7∨c=8∨c=9∨c=10∨c=11∨c=12∨c=13∨c=14∨c=15)with rfl|rfl|rfl|rfl|rfl|rfl|rfl|rfl|rfl|rfl|rfl|rfl|rfl|rfl|rfl|rfl
 ·exact wk (c:=0) (mo:=true) rfl rfl (aqo (one (c:=0) (mo:=true) rfl rfl h))
 ·exact wk (c:=1) (mo:=true) rfl rfl (Pc (one (c:=1) (mo:=true) rfl rfl h))
 ·exact EJ (c:=2) (mo:=true) rfl rfl (Pc (two (c:=2) (mo:=true) rfl rfl h).1) (ad6 (two (c:=2) (mo:=true) rfl rfl h).2)
 ·exact EJ (c:=3) (mo:=true) rfl rfl (Pc (two (c:=3) (mo:=true) rfl rfl h).1) (ad7 (two (c:=3) (mo:=true) rfl rfl h).2)
 ·exact EJ (c:=4) (mo:=true) rfl rfl (Pc (two (c:=4) (mo:=true) rfl rfl h).1) (aqp (two (c:=4) (mo:=true) rfl rfl h).2)
 ·exact wk (c:=5) (mo:=true) rfl rfl (ad6 (one (c:=5) (mo:=true) rfl rfl h))
 ·exact wk (c:=6) (mo:=true) rfl rfl (ad7 (one (c:=6) (mo:=true) rfl rfl h))
 ·exact EJ (c:=7) (mo:=true) rfl rfl (ad9 (two (c:=7) (mo:=true) rfl rfl h).2) (ad8 (two (c:=7) (mo:=true) rfl rfl h).1)
 ·exact wk (c:=9) (mo:=true) rfl rfl (ad8 (one (c:=8) (mo:=true) rfl rfl h))
 ·exact wk (c:=8) (mo:=true) rfl rfl (ad9 (one (c:=9) (mo:=true) rfl rfl h))
 ·exact wk (c:=10) (mo:=true) rfl rfl (aqu (one (c:=10) (mo:=true) rfl rfl h))
 ·exact EJ (c:=11) (mo:=false) rfl rfl (aeb (two (c:=11) (mo:=false) rfl rfl h).2) (aea (two (c:=11) (mo:=false) rfl rfl h).1)
 ·exact wk (c:=13) (mo:=false) rfl rfl (aeb (one (c:=12) (mo:=false) rfl rfl h))
 ·exact wk (c:=12) (mo:=false) rfl rfl (aea (one (c:=13) (mo:=false) rfl rfl h))
 ·exact wk (c:=14) (mo:=false) rfl rfl (aqq (one (c:=14) (mo:=false) rfl rfl h))
 ·exact EJ (c:=15) (mo:=false) rfl rfl (aqs (two (c:=15) (mo:=false) rfl rfl h).1) (aqt (two (c:=15) (mo:=false) rfl rfl h).2)
structure tM(X:Da)(L:Nat)(K:List Nat→Prop):Prop where
 ok:X.Ok
 hL:X.L=L
 min:minD X=X
 tN:∀w,WL L w→(X.acc X.st w=true↔K w)
theorem tM.eq{X Y:Da}{L:Nat}{K K':List Nat→Prop}(h:tM X L K)(h':tM Y L K')(e:∀w,WL L w→(K w↔K' w)):X=Y:=by
 rw[←h.min,←h'.min];refine VF h.ok h'.ok (h.hL.trans h'.hL.symm) fun w hw=> ?_;have I7:WL L w:=h.hL▸hw;rw[Dz,h.tN w I7,h'.tN w I7,e w I7]
theorem tM.ext{X:Da}{L:Nat}{K K':List Nat→Prop}(h:tM X L K)(e:∀w,WL L w→(K w↔K' w)):tM X L K':=⟨h.ok,h.hL,h.min,fun w hw=>(h.tN w hw).trans (e w hw)⟩
theorem tM.acc{X:Da}{L:Nat}{K:List Nat→Prop}(h:tM X L K){w:List Nat}(hw:WL L w){b:Bool}(e:K w↔b=true):X.acc X.st w=b:=by
 rw[Dz,h.tN w hw,e]
section
variable {L S st fin:Nat}{l:List Ed}(h:EI L S st fin l)
include h
theorem aqv(hn:¬nr (fk L S st fin l) L S):tM (nZ (fk L S st fin l) L S) L (uT st fin l)where
 ok:=aqe h hn
 hL:=aqf h hn
 min:=by
  unfold nZ;rw[aD hn];exact aee (EC (wi h) hn)
 tN:=fun _ hw=>aqg h hn hw
theorem aqw(hn:¬nr (fk L S st fin l) L S):(nZ (fk L S st fin l) L S).n≤2^S:=by
 have h1:=UJ (EC (wi h) hn);have h2:=IN (wi h) (2^S);have h3:(nX (fk L S st fin l) L S).n=(mB (fk L S st fin l) L S).length:=tD;unfold nZ;rw[aD hn];unfold mB at h3;omega
theorem aqx:(EH (fk L S st fin l) L S=0∧tM (nZ (fk L S st fin l) L S) L (uT st fin l)∧(nZ (fk L S st fin l) L S).n≤2^S)∨(EH (fk L S st fin l) L S=3∧nZ (fk L S st fin l) L S=zD∧9<S):=by
 by_cases hn:nr (fk L S st fin l) L S
 ·refine .inr ⟨aF hn,aF hn,?_⟩;rcases jG 9 S with c|c
  ·exact c
  ·exact absurd hn (aqh h c)
 ·exact .inl ⟨aD hn,aqv h hn,aqw h hn⟩
end
def EK(r:Option (List V))(L S:Nat)(K:List Nat→Prop):Prop:=(∃X,r=some (BM X 0)∧tM X L K∧X.n≤2^S)∨(r=some (BM zD 3)∧9<S)
theorem EK.of{L S st fin:Nat}{l:List Ed}(h:EI L S st fin l){r:Option (List V)}(e:r=some (BM (nZ (fk L S st fin l) L S) (EH (fk L S st fin l) L S))){K:List Nat→Prop}(hK:∀w,WL L w→(uT st fin l w↔K w)):EK r L S K:=by
 rcases aqx h with⟨h1,h2,h3⟩|⟨h1,h2,h3⟩
 ·exact .inl ⟨_,by rw[e,h1],h2.ext hK,h3⟩
 ·exact .inr ⟨by grind,h3⟩
theorem EK.small{r:Option (List V)}{L S:Nat}{K:List Nat→Prop}(h:EK r L S K)(hS:S≤9):∃X,r=some (BM X 0)∧tM X L K∧X.n≤2^S:=by
 rcases h with h|⟨_,h⟩
 all_goals omega
noncomputable def Pd(C:af)(p:Int)(row t31:LV)(t32 t33:Int)(t42:Bool)(bq bB:Int)(fl fo:LV)(eF eG nu mE p7 mz rp pk:Int)(aH aL:LV){β:Type}(kr:(Int)→Option β):Option β:=
 bif t42 then
  bif decide (0≤p)then
  kr (wrap .u64 ((BitVec.ofInt (IntKind.bits .u64) pk|||BitVec.ofInt (IntKind.bits .u64) (wrap .u64 (1*2^(min p.toNat (IntKind.bits .u64))))).toNat))
  else none
 else
  kr pk
noncomputable def I8(C:af)(p:Int)(t31:LV)(t32 t33:Int)(t49:LV)(t50 bq bB:Int)(fl fo:LV)(eF eG nu mE p7 mz rp pk:Int)(aH:LV)(t51:Int)(aL:LV){β:Type}(kn:(Int×LV)→Option β)(kr:(Int×Bool×LV)→Option β):Option β:=
 bif decide (t51<t50)then
  (idx t49 t51).bind fun x5=>
  bif Nat.ble ((aL.length+([.agg [vI p,vI t51,vI x5.toInt]]:LV).length)*24) aR then
  kn (wrap .i64 (t51+1),aL++([.agg [vI p,vI t51,vI x5.toInt]]:LV))
  else none
 else
  kr (t51,decide (t51<t50),aL)
noncomputable def Pe(C:af)(p:Int)(t31:LV)(t32 t33:Int)(t49:LV)(t50 bq bB:Int)(fl fo:LV)(eF eG nu mE p7 mz rp pk:Int)(aH:LV):=un fun t51 aL=>I8 C p t31 t32 t33 t49 t50 bq bB fl fo eF eG nu mE p7 mz rp pk aH t51 aL (fun y=>some (Sum.inl y)) (fun r=>some (Sum.inr r))
noncomputable def I9(C:af)(t31:LV)(t32 bq bB:Int)(fl fo:LV)(eF eG nu mE p7 mz rp:Int)(aH:LV)(t33 pk:Int)(aL:LV){β:Type}(kn:(Int×Int×LV)→Option β)(kr:(Int×Bool×Int×LV)→Option β):Option β:=
 bif decide (t33<t32)then
  (idx t31 t33).bind fun x2=>
  (idx fl t33).bind fun x3=>
  Pd C t33 x2.toList t31 t32 t33 x3.toBool bq bB fl fo eF eG nu mE p7 mz rp pk aH aL (fun wa=>
   (Loop (Pe C t33 t31 t32 t33 x2.toList (x2.toList.length:Int) bq bB fl fo eF eG nu mE p7 mz rp wa aH) (0,aL)).bind (un fun jD=>un fun(ng:Bool) (zX:LV)=>
    kn (wrap .i64 (t33+1),wa,zX)))
 else
  kr (t33,decide (t33<t32),pk,aL)
noncomputable def VG(C:af)(t31:LV)(t32 bq bB:Int)(fl fo:LV)(eF eG nu mE p7 mz rp:Int)(aH:LV):=un fun t33=>un fun pk aL=>I9 C t31 t32 bq bB fl fo eF eG nu mE p7 mz rp aH t33 pk aL (fun y=>some (Sum.inl y)) (fun r=>some (Sum.inr r))
noncomputable def VH(C:af):cp:=zY 687 VI [[1,2,3,4,5,7,8,9,10,11,12,13,14,15,16,17,0,19,20]] (@Pd C) (bz 209 VJ [Q0,Q0,Q0,Q0,Q0,Q0,Q1,Q0,Q0,Q0,Q0,Q0,Q0,Q0,Q0,Q0,Q0,Q0,Q0,Q0,Q1] [[1,2,3,4,5,6,0,0,8,9,10,11,12,13,14,15,16,17,18,19,20,0]] (@I8 C) (bz 129 VK [Q0,Q0,Q1,Q0,Q0,Q0,Q0,Q0,Q0,Q0,Q0,Q0,Q0,Q0,Q1,Q0,Q1] [[1,2,0,0,4,5,6,7,8,9,10,11,12,13,14,0,16,0]] (@I9 C) bh))
theorem aqy(C:af):bn C (VH C) 12 (Cd 42 [1,1,1,1,0,1,0,0,1,1,0,0,1,0,1,0] [1,1,1,1,0,1,0,0,1,1,0,0,1,0,1,1] 12):=zZ VI [[1,2,3,4,5,7,8,9,10,11,12,13,14,15,16,17,0,19,20]] (@Pd C) (ba an) (ba an)
theorem aqz(C:af):bn C (VH C) 12 (Lp [1,1,1,1,0,1,0,0,1,1,0,0,1,1,1,0,0] 12):=bA VJ [Q0,Q0,Q0,Q0,Q0,Q0,Q1,Q0,Q0,Q0,Q0,Q0,Q0,Q0,Q0,Q0,Q0,Q0,Q0,Q0,Q1] [[1,2,3,4,5,6,0,0,8,9,10,11,12,13,14,15,16,17,18,19,20,0]] (@I8 C) (ba an)
theorem aqA(C:af):bn C (VH C) 12 (Lp [1,1,1,1,0,1,0,0] 12):=bA VK [Q0,Q0,Q1,Q0,Q0,Q0,Q0,Q0,Q0,Q0,Q0,Q0,Q0,Q0,Q1,Q0,Q1] [[1,2,0,0,4,5,6,7,8,9,10,11,12,13,14,0,16,0]] (@I9 C) (ba (bp (aqy C) (bp (aqz C) an)))
noncomputable def aef(C:af)(cD cE:Int)(cd cH:LV):Option LV:=
 (C 26 [vI cD,vI cE,av cd,ah cH]).bind fun r1=>
 bif ((gI r1):Int) != 0 then
  some [vI 0,vI 0,.int .u64 0,.int .u64 0,vI (gI r1),ec ([]:LV)]
 else
  bif decide ((cd.length:Int)>64)then
  some [vI 0,vI 0,.int .u64 0,.int .u64 0,vI 3,ec ([]:LV)]
  else
  bif decide (0≤cE)then
   (Loop (VG C cH (cH.length:Int) cD cE cd cH 0 0 0 0 cD (cd.length:Int) (wrap .u64 (1*2^(min cE.toNat (IntKind.bits .u64)))) ([]:LV)) (0,0,([]:LV))).bind (un fun uS=>un fun(Pf:Bool)=>un fun(aqB:Int) (Ja:LV)=>
    some [vI cD,vI (cd.length:Int),.int .u64 (wrap .u64 (1*2^(min cE.toNat (IntKind.bits .u64)))),.int .u64 aqB,vI 0,ec Ja])
  else none
theorem aqC{cD cE:Int}{cd cH:LV}{r:Option LV}(h:aef CC cD cE cd cH=r):CC 12 [vI cD,vI cE,av cd,ah cH]=r:=bj (bp (aqA CC) an) h
noncomputable def Jb(C:af)(t20:LV)(t21 eF eG nu mE bQ bY dc aeg:Int)(aE:LV)(t22:Int)(aH:LV){β:Type}(kn:(Int×LV)→Option β)(kr:(Int×Bool×LV)→Option β):Option β:=
 bif decide (t22<t21)then
  (idx t20 t22).bind fun x2=>
  bif Nat.ble ((aH.length+([.agg [vI ((x2.cell 2).toInt),vI ((x2.cell 1).toInt),vI ((x2.cell 0).toInt)]]:LV).length)*24) aR then
  kn (wrap .i64 (t22+1),aH++([.agg [vI ((x2.cell 2).toInt),vI ((x2.cell 1).toInt),vI ((x2.cell 0).toInt)]]:LV))
  else none
 else
  kr (t22,decide (t22<t21),aH)
noncomputable def VL(C:af)(t20:LV)(t21 eF eG nu mE bQ bY dc aeg:Int)(aE:LV):=un fun t22 aH=>Jb C t20 t21 eF eG nu mE bQ bY dc aeg aE t22 aH (fun y=>some (Sum.inl y)) (fun r=>some (Sum.inr r))
noncomputable def aqD(C:af):cp:=bz 81 VM [Q0,Q0,Q1,Q0,Q0,Q0,Q0,Q0,Q0,Q0,Q0,Q0,Q1] [[1,2,0,0,4,5,6,7,8,9,10,11,12,0]] (@Jb C) bh
theorem aqE(C:af):bn C (aqD C) 14 (Lp [1,1,1,0,1,0,0] 14):=bA VM [Q0,Q0,Q1,Q0,Q0,Q0,Q0,Q0,Q0,Q0,Q0,Q0,Q1] [[1,2,0,0,4,5,6,7,8,9,10,11,12,0]] (@Jb C) (ba an)
noncomputable def aeh(C:af)(fu g9 iy iN:Int)(gQ:LV):Option LV:=
 (C 28 [vI fu,vI g9,.int .u64 iy,.int .u64 iN,ec gQ]).bind fun r1=>
 bif ((gI r1):Int) != 0 then
  some [vI 0,vI 0,.int .u64 0,.int .u64 0,ec ([]:LV)]
 else
  (Loop (VL C gQ (gQ.length:Int) 0 0 0 0 fu g9 iN iy ([]:LV)) (0,([]:LV))).bind (un fun iU=>un fun(mr:Bool) (VN:LV)=>
   (C 29 [ec VN]).bind fun r6=>
   some [vI fu,vI g9,.int .u64 iN,.int .u64 iy,ec (gL r6)])
theorem aqF{fu g9 iy iN:Int}{gQ:LV}{r:Option LV}(h:aeh CC fu g9 iy iN gQ=r):CC 14 [vI fu,vI g9,.int .u64 iy,.int .u64 iN,ec gQ]=r:=bj (bp (aqE CC) an) h
noncomputable def aei(C:af)(cD cE:Int)(cd cH:LV):Option LV:=
 (C 11 [vI cD,vI cE,av cd,ah cH]).bind fun r1=>
 bif ((gI (r1.drop 2)):Int) != 0 then
  some [vI 0,vI 0,vI (gI (r1.drop 2)),av ([]:LV),ah ([]:LV)]
 else
  (C 12 [vI (gI r1),vI (gI (r1.drop 1)),av (gL (r1.drop 3)),ah (gL ((r1.drop 3).drop 1))]).bind fun r2=>
  bif ((gI (r2.drop 4)):Int) != 0 then
  some [vI 0,vI 0,vI (gI (r2.drop 4)),av ([]:LV),ah ([]:LV)]
  else
  (C 14 [vI (gI r2),vI (gI (r2.drop 1)),.int .u64 (gI ((r2.drop 1).drop 1)),.int .u64 (gI (((r2.drop 1).drop 1).drop 1)),ec (gL (r2.drop 5))]).bind fun r3=>
  (C 13 [vI (gI r3),vI (gI (r3.drop 1)),.int .u64 (gI ((r3.drop 1).drop 1)),.int .u64 (gI (((r3.drop 1).drop 1).drop 1)),ec (gL (r3.drop 4))]).bind fun r4=>
  some [vI (gI r4),vI (gI (r4.drop 1)),vI (gI (r4.drop 2)),av (gL (r4.drop 3)),ah (gL ((r4.drop 3).drop 1))]
theorem aqG{cD cE:Int}{cd cH:LV}{r:Option LV}(h:aei CC cD cE cd cH=r):CC 5 [vI cD,vI cE,av cd,ah cH]=r:=bj (L:=bh) an h
theorem aqH{a:Da}{off p:Nat}:qa (qf a off p):=by
 unfold qf tab qa;rw[GG];refine List.Pairwise.imp ?_ List.pairwise_lt_range;intro x y h;show(dB (p+off) x (a.nx p x+off)).lt (dB (p+off) y (a.nx p y+off));exact .inr ⟨rfl,.inl (Int.ofNat_lt.2 h)⟩
theorem VO{a:Da}{off:Nat}:∀n,qa (fm n (qf a off))
 |0=>List.Pairwise.nil
 |n+1=>by
  rw[I5];refine DA.2 ⟨VO n,aqH,fun e he f hf=> ?_⟩;obtain⟨p,hp,he⟩:=adY.1 he;obtain⟨x,_,rfl⟩:=zR.1 he;obtain⟨y,_,rfl⟩:=zR.1 hf;unfold Ed.lt dB;simp only;omega
theorem aqI{a:Da}:wh (eS a 0)=eS a 0:=Vp (O2 _) (VO _) fun _=>BK
def EL(m:Da):Nf:=⟨m.L,m.n,2^m.st,kZ 0 m.fin 0 m.n,eS m 0⟩
section
variable {m:Da}(hm:m.Ok)
include hm
theorem aqJ(hs:m.n≤64):EI m.L m.n (2^m.st) (kZ 0 m.fin 0 m.n) (eS m 0)where
 l1:=hm.l1
 l6:=hm.l6
 yc:=hs
 st:=xp (by omega) hm.s
 fin:=O7 (Nat.two_pow_pos _) (by omega)
 E:=fun e he=>ad0 hm (by omega) he
 len:=by
  have h1:=O8 hm (off:=0) (n:=m.n);unfold eS;omega
theorem aqK(hs:m.n≤64):Nat6 (EL m) m.L m.n:=by
 have h:=wi (aqJ hm hs);unfold fk at h;rw[aqI]at h;exact h
theorem aqL(hs:m.n≤64):CC 12 (eu m)=some [vI (m.L:Int),vI (m.n:Int),.int .u64 ((2^m.st:Nat):Int),.int .u64 (kZ 0 m.fin 0 m.n:Int),vI 0,ec ((eS m 0).map Ed.enc)]:=by
 have h6:=hm.l6;have cv:=hm.s;refine aqC ?_;unfold aef;refine bs (su hm) (bF rfl ?_);rw[Da.Et];refine bF (dj (by omega)) ?_;refine bT (cB (by omega)) ?_;rw[Int.toNat_natCast,Va (by omega),show m.dX.length=m.n from en];refine bs (Vy m.n (fun i=>((i:Int),(kZ 0 m.fin 0 i:Int),(fm i (qf m 0)).map Ed.enc)) ((m.n:Int),false,(kZ 0 m.fin 0 m.n:Int),(eS m 0).map Ed.enc) rfl (fun p hp=> ?_) ?_) ?_
 ·have hlen:=O8 hm (off:=0) (n:=p);have aO:=O7 (f:=m.fin) (off:=0) (fin:=0) (k:=64) (by omega) (n:=p) (by omega);have key:∀{c1 c2 c3 c4 c5 c6 c7 c8:Int} {l1:List V},Loop (Pe CC (p:Int) m.dX (m.n:Int) (p:Int) (mC m.L (m.nx p)).toList ((mC m.L (m.nx p)).toList.length:Int) (m.L:Int) (m.st:Int) m.dN m.dX c1 c2 c3 c4 c5 c6 c7 c8 l1) (0,(fm p (qf m 0)).map Ed.enc)=some ((m.L:Int),false,(fm p (qf m 0)++qf m 0 p).map Ed.enc):=by
   intro c1 c2 c3 c4 c5 c6 c7 c8 l1;rw[show(mC m.L (m.nx p)).toList=tab m.L fun x=>nV (m.nx p x)from rfl,en];refine Vy m.L (fun i=>((i:Int),(fm p (qf m 0)++tab i fun x=>dB (p+0) x (m.nx p x+0)).map Ed.enc)) _ (by rw[aqM,nJ];rfl) (fun x hx=> ?_) ?_
   ·simp only[Pe,I8,un];refine bT (bt hx) ?_;refine bs (pd hx) ?_;refine bT (cap (by rw[cT,gY,en];simp;omega) (by omega)) ?_;rw[show(nV (m.nx p x)).toInt=((m.nx p x:Nat):Int)from rfl,aqb,bu (by omega),BJ,←eY];rfl
   ·simp only[Pe,I8,un];refine bF (cL (aW _)) ?_;rw[cL (aW _)];rfl
  simp only[VG,I9,un];refine bT (bt hp) ?_;refine bs (pd hp) ?_;refine bs (pd hp) ?_;unfold Pd;rw[V.Iz];cases hf:m.fin p with
  |true=>
   refine bT rfl (bT (cB (by omega)) ?_);rw[Int.toNat_natCast,Va (by omega),u64_or aO (xp (by omega) (by omega)),show kZ 0 m.fin 0 (p+1)=kZ 0 m.fin 0 p|||2^p from aF hf];refine bs key ?_;simp only[un];rw[bu (by omega),I5]
  |false=>
   refine bF rfl ?_;rw[show kZ 0 m.fin 0 (p+1)=kZ 0 m.fin 0 p from aD (by rw[hf];simp)];refine bs key ?_;simp only[un];rw[bu (by omega),I5]
 ·simp only[VG,I9,un];refine bF (cL (aW _)) ?_;rw[cL (aW _)];rfl
 ·rfl
theorem aqN(hs:m.n≤64)(Jd:∃R:List Ed,CC 29 [ec (((eS m 0).map Ed.rev).map Ed.enc)]=some [ec (R.map Ed.enc)]∧R.Perm ((eS m 0).map Ed.rev)∧R.Pairwise (fun x y=> ¬y.lt x)):CC 14 (p6 (EL m) [])=some (p6 (I6 m) []):=by
 have h6:=aqK hm hs;have hl:=O8 hm (off:=0) (n:=m.n);refine aqF ?_;unfold aeh;have hv:=U6 _ h6.ok;rw[h6.code]at hv;refine bs hv (bF rfl ?_);have HV:(eS m 0).length≤m.n*6:=hl;refine bs (Vy (eS m 0).length (fun i=>((i:Int),(((eS m 0).take i).map Ed.rev).map Ed.enc)) (((eS m 0).length:Int),false,((eS m 0).map Ed.rev).map Ed.enc) rfl (fun i hi=> ?_) ?_) ?_
 ·have AW:((eS m 0).take i).length≤i:=List.length_take_le _ _;simp only[VL,Jb,un];refine bT (cB (show(i:Int)<(((EL m).E.map Ed.enc).length:Int) by rw[cT];show(i:Int)<((eS m 0).length:Int);omega)) ?_;refine bs (OL (E:=(EL m).E) hi) ?_;have e1:(EL m).E.getD i default=(eS m 0)[i]:=adt hi;rw[e1,Ed.Eu,Ed.Ev,Ed.Ew];refine bT (cap (by simp;omega) (by omega)) ?_;rw[bu (by omega),AP hi,qB,qB];rfl
 ·simp only[VL,Jb,un];have e2:decide (((eS m 0).length:Int)<(((EL m).E.map Ed.enc).length:Int))=false:=dj (by rw[cT];show¬((eS m 0).length:Int)<((eS m 0).length:Int);omega);refine bF e2 ?_;rw[e2,xn]
 ·simp only[un];obtain⟨R,e,hp,hr⟩:=Jd;refine bs e ?_;have hn:((eS m 0).map Ed.rev).Nodup:=by
   have:=apY (VO (a:=m) (off:=0) m.n);rw[List.Nodup,GG];exact this.imp fun {x y} sj e=>sj (by have:=congrArg Ed.rev e;simpa using this)
  have hR:R=wh ((eS m 0).map Ed.rev):=Vp (apZ hp hn hr) (O2 _) fun x=>by rw[BK,hp.mem_iff]
  rw[hR];rfl
end
section
variable {a:Da}(h:a.Ok)
include h
theorem aqO(hs:(minD a).n≤64)(Jd:∃R:List Ed,CC 29 [ec (((eS (minD a) 0).map Ed.rev).map Ed.enc)]=some [ec (R.map Ed.enc)]∧R.Perm ((eS (minD a) 0).map Ed.rev)∧R.Pairwise (fun x y=> ¬y.lt x)):CC 5 (eu a)=some (BM (nZ (I6 (minD a)) a.L (minD a).n) (EH (I6 (minD a)) a.L (minD a).n)):=by
 have hm:=sw h;have hl:=ap9 (wi (ad4 hm hs));rw[tB h]at hl;refine aqG ?_;unfold aei;refine bs (aqP h) (bF rfl ?_);refine bs (aqL hm hs) (bF rfl ?_);refine bs (aqN hm hs Jd) ?_;unfold I6;rw[tB h];refine bs hl ?_;rfl
theorem aqQ(hs:(minD a).n≤64)(Jd:∃R:List Ed,CC 29 [ec (((eS (minD a) 0).map Ed.rev).map Ed.enc)]=some [ec (R.map Ed.enc)]∧R.Perm ((eS (minD a) 0).map Ed.rev)∧R.Pairwise (fun x y=> ¬y.lt x)):EK (CC 5 (eu a)) a.L (minD a).n fun w=>a.acc a.st w.reverse=true:=by
 have hm:=sw h;have hL:=tB h;have hr:=ad4 hm hs;have he:=aqO h hs Jd;unfold I6 at he;rw[←hL]at he⊢;refine EK.of hr he fun w hw=> ?_;rw[aqn hm hw,zO h (hL▸hw.rev)]
end
noncomputable def aej(C:af)(x n:Int):Option LV:=
 bif decide (n<1)then
  some [vI 0]
 else
  bif !decide (n=0)then
  bif decide (((Int.tmod x n):Int)<0)then
   some [vI (wrap .i64 ((Int.tmod x n)+n))]
  else
   some [vI (Int.tmod x n)]
  else none
theorem aqR{x n:Int}{r:Option LV}(h:aej CC x n=r):CC 48 [vI x,vI n]=r:=bj (L:=bh) an h
noncomputable def VP(C:af)(l:LV):Option LV:=
 bif decide ((l.length:Int)>80)then
  bif decide (80≤(l.length:Int))then
  some [ab ((l.drop 0).take (80-0)),vI 0]
  else none
 else
  some [ab l,vI 0]
theorem aek{l:LV}{r:Option LV}(h:VP CC l=r):CC 8 [ab l]=r:=bj (L:=bh) an h
noncomputable def VQ(C:af)(n:Int)(bM:LV)(bN:Int):Option LV:=
 bif decide (bN≥(bM.length:Int))then
  some [vI 0,ab bM,vI bN]
 else
  (idx bM (wrap .i64 ((wrap .i64 (bN+1))-1))).bind fun x1=>
  (C 48 [vI x1.toInt,vI n]).bind fun r2=>
  some [vI (gI r2),ab bM,vI (wrap .i64 (bN+1))]
theorem ael{n:Int}{bM:LV}{bN:Int}{r:Option LV}(h:VQ CC n bM bN=r):CC 21 [vI n,ab bM,vI bN]=r:=bj (L:=bh) an h
theorem aqS{x:Int}{n:Nat}(hn:1≤n)(hm:n≤1000000):∃v:Nat,v<n∧CC 48 [vI x,vI (n:Int)]=some [vI (v:Int)]:=by
 have h1:x %n<n:=Int.emod_lt_of_pos _ (by omega);have h2:0≤x %n:=Int.emod_nonneg _ (by omega);have e:((x %n).toNat:Int)=x %n:=Int.toNat_of_nonneg h2;have h0:Int.tmod x n=x %n∨Int.tmod x n=x %n-n:=by
  grind
 refine⟨(x %n).toNat,by omega,aqR ?_⟩;unfold aej;refine bF (by simp;omega) (bT (by simp;omega) ?_);rw[e];by_cases h:Int.tmod x n<0
 ·refine bT (cB h) ?_;have h3:Int.tmod x n+n=x %n:=by omega
  rw[h3,lF (by omega) (by omega)]
 grind
structure Tp where
 l:List Int
 k:Nat
 h:l.length≤80
 hk:k≤80
def Tp.L(t:Tp):V:=ab (t.l.map iV)
def Tp.K(t:Tp):V:=vI (t.k:Int)
theorem aqT(l:List Int):∃t:Tp,CC 8 [ab (l.map iV)]=some [t.L,t.K]:=by
 by_cases h:80<l.length
 ·refine⟨⟨l.take 80,0,by simp;omega,by omega⟩,aek ?_⟩;unfold VP;refine bT (by simp;omega) (bT (by simp;omega) ?_);simp[Tp.L,Tp.K,List.map_take]
 ·refine⟨⟨l,0,by omega,by omega⟩,aek ?_⟩;unfold VP;exact bF (by simp;omega) rfl
theorem tO(t:Tp){n:Nat}(hn:1≤n)(hm:n≤1000000):∃(v:Nat) (u:Tp),v<n∧CC 21 [vI (n:Int),t.L,t.K]=some [vI (v:Int),u.L,u.K]:=by
 have hh:=t.h;have hk:=t.hk;by_cases h:t.l.length≤t.k
 ·refine⟨0,t,by omega,ael ?_⟩;unfold VQ;exact bT (by simp;omega) rfl
 ·obtain⟨v,hv,e⟩:=aqS (x:=t.l.getD t.k 0) hn hm;refine⟨v,⟨t.l,t.k+1,t.h,by omega⟩,hv,ael ?_⟩;unfold VQ;refine bF (by simp;omega) ?_;rw[bu (by omega),lF (by omega) (by omega),show((t.k+1:Nat):Int)-1=(t.k:Int) by omega];refine bs (VR (z:=0) (by omega)) ?_;refine bs (by rw[V.toInt_int];exact e) ?_;rfl
structure Nd where
 op:Nat
 x:Nat
 a:Nat
 b:Nat
deriving DecidableEq
def Nd.v(d:Nd):V:= .agg [vI (d.op:Int),vI (d.x:Int),vI (d.a:Int),vI (d.b:Int)]
structure Nd.Ok(d:Nd)(L i:Nat):Prop where
 o1:1≤d.op
 o8:d.op≤8
 x1:d.op=3→d.x<L
 x0:d.op≠3→d.x=0
 a1:5≤d.op→d.a<i
 a0:d.op<5→d.a=0
 b1:5≤d.op→d.op≠8→d.b<i
 b0:d.op<5∨d.op=8→d.b=0
structure GOk(g:List Nd)(L:Nat):Prop where
 l1:1≤L
 l2:L≤6
 n1:1≤g.length
 n2:g.length≤100
 nd:∀i (h:i<g.length),g[i].Ok L i
theorem GOk.get{g:List Nd}{L i:Nat}(h:GOk g L)(hi:i<g.length):idx (g.map Nd.v) (i:Int)=some g[i].v:=by
 simp_all
noncomputable def Je(C:af)(aQ n q jr js bq bB:Int)(aL aP aB aK:LV)(a:Int)(bM:LV)(bN:Int)(rows:LV){β:Type}(kn:(Int×LV×Int×LV)→Option β)(kr:(Int×Bool×LV×Int×LV)→Option β):Option β:=
 bif decide (a<aQ)then
  (C 21 [vI n,ab bM,vI bN]).bind fun r4=>
  bif Nat.ble ((rows.length+([vI (gI r4)]:LV).length)*8) aR then
  kn (wrap .i64 (a+1),(gL (r4.drop 1)),(gI ((r4.drop 1).drop 1)),rows++([vI (gI r4)]:LV))
  else none
 else
  kr (a,decide (a<aQ),bM,bN,rows)
noncomputable def Jf(C:af)(aQ n q jr js bq bB:Int)(aL aP aB aK:LV):=un fun a=>un fun bM=>un fun bN rows=>Je C aQ n q jr js bq bB aL aP aB aK a bM bN rows (fun y=>some (Sum.inl y)) (fun r=>some (Sum.inr r))
noncomputable def Jg(C:af)(aQ n jr js bq bB:Int)(aH aL:LV)(q:Int)(bM:LV)(bN:Int)(aP aB:LV){β:Type}(kn:(Int×LV×Int×LV×LV)→Option β)(kr:(Int×Bool×LV×Int×LV×LV)→Option β):Option β:=
 bif decide (q<n)then
  (C 21 [vI 2,ab bM,vI bN]).bind fun r3=>
  bif Nat.ble ((aP.length+([.bool (((gI r3):Int)==1)]:LV).length)*1) aR then
  (Loop (Jf C aQ n q jr js bq bB aH aL (aP++([.bool (((gI r3):Int)==1)]:LV)) aB) (0,(gL (r3.drop 1)),(gI ((r3.drop 1).drop 1)),([]:LV))).bind (un fun a_5=>un fun(jD:Bool)=>un fun(VT:LV)=>un fun(aqU:Int) (OV:LV)=>
   bif Nat.ble ((aB.length+1)*24) aR then
    kn (wrap .i64 (q+1),VT,aqU,aP++([.bool (((gI r3):Int)==1)]:LV),aB++([ab OV]:LV))
   else none)
  else none
 else
  kr (q,decide (q<n),bM,bN,aP,aB)
noncomputable def Pm(C:af)(aQ n jr js bq bB:Int)(aH aL:LV):=un fun q=>un fun bM=>un fun bN=>un fun aP aB=>Jg C aQ n jr js bq bB aH aL q bM bN aP aB (fun y=>some (Sum.inl y)) (fun r=>some (Sum.inr r))
noncomputable def aem(C:af):cp:=bz 161 VU [Q0,Q0,Q0,Q1,Q1,Q1,Q0,Q0,Q0,Q0,Q1,Q0,Q0,Q0,Q0] [[1,2,3,0,0,0,0,7,8,9,10,0,12,13,14,15]] (@Je C) (bz 81 VV [Q0,Q0,Q1,Q1,Q1,Q0,Q0,Q0,Q0,Q0,Q0,Q1,Q1] [[1,2,0,0,0,0,6,7,8,9,10,11,0,0]] (@Jg C) bh)
theorem aqV(C:af):bn C (aem C) 25 (Lp [1,1,1,1,0,1,0,0,1,0,0,1,1,0,1,0,0] 25):=bA VU [Q0,Q0,Q0,Q1,Q1,Q1,Q0,Q0,Q0,Q0,Q1,Q0,Q0,Q0,Q0] [[1,2,3,0,0,0,0,7,8,9,10,0,12,13,14,15]] (@Je C) (ba an)
theorem aqW(C:af):bn C (aem C) 25 (Lp [1,1,1,1,0,1,0,0] 25):=bA VV [Q0,Q0,Q1,Q1,Q1,Q0,Q0,Q0,Q0,Q0,Q0,Q1,Q1] [[1,2,0,0,0,0,6,7,8,9,10,11,0,0]] (@Jg C) (ba (bp (aqV C) an))
noncomputable def aen(C:af)(aQ eb:Int)(bM:LV)(bN:Int):Option LV:=
 (C 21 [vI eb,ab bM,vI bN]).bind fun r1=>
 (C 21 [vI (wrap .i64 (1+(gI r1))),ab (gL (r1.drop 1)),vI (gI ((r1.drop 1).drop 1))]).bind fun r2=>
 (Loop (Pm C aQ (wrap .i64 (1+(gI r1))) 0 0 aQ (gI r2) ([]:LV) ([]:LV)) (0,(gL (r2.drop 1)),(gI ((r2.drop 1).drop 1)),([]:LV),([]:LV))).bind (un fun aqX=>un fun(BN:Bool)=>un fun(aqY:LV)=>un fun aqZ=>un fun(pz:LV) (sA:LV)=>
  some [vI aQ,vI (gI r2),ab aqY,vI aqZ,av pz,ah sA])
theorem aq0{aQ eb:Int}{bM:LV}{bN:Int}{r:Option LV}(h:aen CC aQ eb bM bN=r):CC 25 [vI aQ,vI eb,ab bM,vI bN]=r:=bj (bp (aqW CC) an) h
def cS(N:List (List Nat)):LV:=N.map fun r=>ab (nS r)
structure FN(L:Nat)(F:List Bool)(N:List (List Nat)):Prop where
 len:F.length=N.length
 pos:1≤N.length
 row:∀r∈N,r.length=L∧∀q∈r,q<N.length
theorem FN.ok{L st:Nat}{F:List Bool}{N:List (List Nat)}(h:FN L F N)(h1:1≤L)(h6:L≤6)(hs:st<N.length)(hn:N.length≤512):(⟨L,st,F,N⟩:Da).Ok:=by
 have e:(⟨L,st,F,N⟩:Da).n=N.length:=h.len;exact⟨h1,h6,by rw[e],fun r hr=>by rw[e];exact h.row r hr,by grind,by omega⟩
theorem FN.leaves{L st:Nat}{F:List Bool}{N:List (List Nat)}(h:(⟨L,st,F,N⟩:Da).Ok):eu ⟨L,st,F,N⟩=[vI (L:Int),vI (st:Int),av (F.map V.bool),ah (cS N)]:=by
 have:=h.leaves [];show uO _ []=_;rw[←this];simp only[Pn,Da.df,cS,AQ];refine congrArg (fun x=>[vI (L:Int),vI (st:Int),av (F.map V.bool),ah x]) (qA fun r _=> ?_);simp only[Function.comp,wo,uX,nS,AQ];rfl
theorem aeo(t:Tp){L m:Nat}(h1:1≤L)(h6:L≤6)(hm:1≤m)(qU:m≤50):∃(F:List Bool) (N:List (List Nat)) (st:Nat) (u:Tp),FN L F N∧N.length≤m∧st<N.length∧
  CC 25 [vI (L:Int),vI (m:Int),t.L,t.K]=some [vI (L:Int),vI (st:Int),u.L,u.K,av (F.map V.bool),ah (cS N)]:=by
 obtain⟨v,t1,hv,e1⟩:=tO t (n:=m) hm (by omega);obtain⟨st,t2,cv,e2⟩:=tO t1 (n:=v+1) (by omega) (by omega);have inner:∀(w:Tp) {x1 x2 x3 x4 x5:Int} {y1 y2 y3 y4:LV},∃(r:List Nat) (u:Tp),r.length=L∧(∀q∈r,q<v+1)∧
   Loop (Jf CC (L:Int) ((v+1:Nat):Int) x1 x2 x3 x4 x5 y1 y2 y3 y4) (0,w.l.map iV,(w.k:Int),([]:LV))=some ((L:Int),false,u.l.map iV,(u.k:Int),nS r):=by
  intro w x1 x2 x3 x4 x5 y1 y2 y3 y4;have key:=nh (step:=Jf CC (L:Int) ((v+1:Nat):Int) x1 x2 x3 x4 x5 y1 y2 y3 y4) (fun i x=> ∃(r:List Nat) (u:Tp),r.length=i∧(∀q∈r,q<v+1)∧x=((i:Int),u.l.map iV,(u.k:Int),nS r))
   (fun o=> ∃(r:List Nat) (u:Tp),r.length=L∧(∀q∈r,q<v+1)∧o=((L:Int),false,u.l.map iV,(u.k:Int),nS r)) L 0 (0,w.l.map iV,(w.k:Int),nS []) (fun i _ hi x hx=> ?_) (fun x hx=> ?_) ⟨[],w,rfl,fun _ h=>(by cases h),rfl⟩
  ·obtain⟨o,e,r,u,a1,a2,rfl⟩:=key;exact⟨r,u,a1,a2,e⟩
  ·obtain⟨r,u,a1,a2,rfl⟩:=hx;obtain⟨k,u2,hk,e⟩:=tO u (n:=v+1) (by omega) (by omega);simp only[Jf,Je,un];refine⟨_,bT (bt (by omega)) (bs e (bT (cap (a:=(nS r).length) (b:=1) (by rw[dE];omega) (by omega)) rfl)),r++[k],u2,by simp;omega,fun q hq=> ?_,?_⟩
   ·grind
   ·rw[bu (by omega)];refine dm rfl (dm rfl (dm rfl ?_));simp[nS,nV]
  ·obtain⟨r,u,a1,a2,rfl⟩:=hx;rw[dP]at*
   simp only[Jf,Je,un];exact⟨_,bF (cL (aW _)) rfl,r,u,a1,a2,dm rfl (dm (cL (aW _)) rfl)⟩
 have key:=nh (step:=Pm CC (L:Int) ((v+1:Nat):Int) 0 0 (L:Int) (st:Int) [] []) (fun i x=> ∃(F:List Bool) (N:List (List Nat)) (u:Tp),F.length=i∧N.length=i∧(∀r∈N,r.length=L∧∀q∈r,q<v+1)∧x=((i:Int),u.l.map iV,(u.k:Int),F.map V.bool,cS N))
  (fun o=> ∃(F:List Bool) (N:List (List Nat)) (u:Tp),F.length=v+1∧N.length=v+1∧(∀r∈N,r.length=L∧∀q∈r,q<v+1)∧o=(((v+1:Nat):Int),false,u.l.map iV,(u.k:Int),F.map V.bool,cS N)) (v+1) 0 (0,t2.l.map iV,(t2.k:Int),([]:LV),([]:LV)) (fun i _ hi x hx=> ?_) (fun x hx=> ?_) ⟨[],[],t2,rfl,rfl,fun _ h=>(by cases h),rfl⟩
 ·obtain⟨o,e,F,N,u,a1,a2,a3,rfl⟩:=key;refine⟨F,N,st,u,⟨by omega,by omega,fun r hr=>by grind⟩,by omega,by omega,aq0 ?_⟩;unfold aen;have hw:wrap .i64 (1+(gI [vI (v:Int),t1.L,t1.K]))=((v+1:Nat):Int):=by
   show wrap .i64 (1+(v:Int))=_;rw[show(1+(v:Int))=((v+1:Nat):Int) by omega];exact wrap64 (by omega) (by omega)
  refine bs e1 ?_;rw[hw];exact bs e2 (bs e rfl)
 ·obtain⟨F,N,u,a1,a2,a3,rfl⟩:=hx;obtain⟨k,u2,hk,e⟩:=tO u (n:=2) (by omega) (by omega);obtain⟨r,u3,b1,b2,e3⟩:=inner u2 (x1:=(i:Int)) (x2:=0) (x3:=0) (x4:=(L:Int)) (x5:=(st:Int)) (y1:=[]) (y2:=[]) (y3:=F.map V.bool++[.bool ((k:Int)==1)]) (y4:=cS N);simp only[Pm,Jg,un];refine⟨(((i+1:Nat):Int),u3.l.map iV,(u3.k:Int),F.map V.bool++[.bool ((k:Int)==1)],cS N++[ab (nS r)]),bT (bt (by omega)) (bs e (bT (cap (a:=(F.map V.bool).length) (b:=1) (by grind) (by omega)) (bs e3 ?_))),F++[(k:Int)==1],N++[r],u3,by simp;omega,by simp;omega,fun s hs=> ?_,?_⟩
  ·simp only[un];refine bT (cap (a:=(cS N).length) (b:=1) (by rw[cS,cT];omega) (by omega)) ?_;rw[bu (by omega)];rfl
  ·grind
  ·simp[cS]
 ·obtain⟨F,N,u,a1,a2,a3,rfl⟩:=hx;rw[dP]at*
  simp only[Pm,Jg,un];exact⟨_,bF (cL (aW _)) rfl,F,N,u,a1,a2,a3,dm rfl (dm (cL (aW _)) rfl)⟩
noncomputable def Ji(C:af)(q t17 t18:Int)(t25:Nat)(t26:Int)(EM:LV)(EN jr js bq bB:Int)(aL aP aB:LV)(t27:Int)(yl:LV){β:Type}(kn:(Int×LV)→Option β)(kr:(Int×Bool×LV)→Option β):Option β:=
 bif decide (t27<t26)then
  (ez Tryz.prog 22 yl [(t25,0)]).bind fun x4=>
  bif (decide (0≤t27))&&(decide (t27<(x4.toList.length:Int)))then
  (ez Tryz.prog 22 yl [(t25,0)]).bind fun x5=>
  (x5.toList[t27.toNat]?).bind fun x6=>
  aA yl q fun x7=>
  (ez Tryz.prog 22 yl [(q.toNat,0)]).bind fun x8=>
  bif (decide (0≤t27))&&(decide (t27<(x8.toList.length:Int)))then
   (ez Tryz.prog 22 yl [(q.toNat,0)]).bind fun x9=>
   (x9.toList[t27.toNat]?).bind fun mA=>
   kn (wrap .i64 (t27+1),setRow Tryz.prog (bc x9.toList t27 (vI (if x6.toInt>q then x6.toInt else q))) 22 yl [(q.toNat,0)])
  else none
  else none
 else
  kr (t27,decide (t27<t26),yl)
noncomputable def Jj(C:af)(q t17 t18:Int)(t25:Nat)(t26:Int)(EM:LV)(EN jr js bq bB:Int)(aL aP aB:LV):=un fun t27 yl=>Ji C q t17 t18 t25 t26 EM EN jr js bq bB aL aP aB t27 yl (fun y=>some (Sum.inl y)) (fun r=>some (Sum.inr r))
noncomputable def Jk(C:af)(t17:Int)(EM:LV)(EN jr js bq bB:Int)(aH aL aP:LV)(t18:Int)(aB:LV){β:Type}(kn:(Int×LV)→Option β)(kr:(Int×Bool×LV)→Option β):Option β:=
 bif decide (t18<t17)then
  aA aB t18 fun x2=>
  (ez Tryz.prog 22 aB [(t18.toNat,0)]).bind fun x3=>
  (Loop (Jj C t18 t17 t18 (t18.toNat) (x3.toList.length:Int) EM EN jr js bq bB aH aL aP) (0,aB)).bind (un fun BN=>un fun(EF:Bool) (aq1:LV)=>
   kn (wrap .i64 (t18+1),aq1))
 else
  kr (t18,decide (t18<t17),aB)
noncomputable def Po(C:af)(t17:Int)(EM:LV)(EN jr js bq bB:Int)(aH aL aP:LV):=un fun t18 aB=>Jk C t17 EM EN jr js bq bB aH aL aP t18 aB (fun y=>some (Sum.inl y)) (fun r=>some (Sum.inr r))
noncomputable def aep(C:af):cp:=bz 97 VW [Q0,Q0,Q0,Q0,Q0,Q1,Q0,Q0,Q0,Q0,Q0,Q0,Q1,Q0,Q0,Q0] [[1,2,3,4,5,0,0,7,8,9,10,11,12,0,14,15,16]] (@Ji C) (bz 49 VX [Q0,Q1,Q0,Q0,Q0,Q0,Q0,Q0,Q0,Q0,Q0,Q1] [[1,0,0,3,4,5,6,7,8,9,10,11,0]] (@Jk C) bh)
theorem aq2(C:af):bn C (aep C) 22 (Lp [1,1,0,1,0,0,1,1,0,0,1,1,0,0] 22):=bA VW [Q0,Q0,Q0,Q0,Q0,Q1,Q0,Q0,Q0,Q0,Q0,Q0,Q1,Q0,Q0,Q0] [[1,2,3,4,5,0,0,7,8,9,10,11,12,0,14,15,16]] (@Ji C) (ba an)
theorem aq3(C:af):bn C (aep C) 22 (Lp [1,1,0,1,0,0] 22):=bA VX [Q0,Q1,Q0,Q0,Q0,Q0,Q0,Q0,Q0,Q0,Q0,Q1] [[1,0,0,3,4,5,6,7,8,9,10,11,0]] (@Jk C) (ba (bp (aq2 C) an))
noncomputable def aeq(C:af)(aQ eb:Int)(bM:LV)(bN:Int):Option LV:=
 (C 25 [vI aQ,vI eb,ab bM,vI bN]).bind fun r1=>
 (Loop (Po C ((gL (((r1.drop 2).drop 2).drop 1)).length:Int) (gL (r1.drop 2)) (gI ((r1.drop 2).drop 1)) 0 0 (gI r1) (gI (r1.drop 1)) ([]:LV) ([]:LV) (gL ((r1.drop 2).drop 2))) (0,(gL (((r1.drop 2).drop 2).drop 1)))).bind (un fun wb=>un fun(Pp:Bool) (yh:LV)=>
  some [vI (gI r1),vI 0,ab (gL (r1.drop 2)),vI (gI ((r1.drop 2).drop 1)),av (gL ((r1.drop 2).drop 2)),ah yh])
theorem aq4{aQ eb:Int}{bM:LV}{bN:Int}{r:Option LV}(h:aeq CC aQ eb bM bN=r):CC 22 [vI aQ,vI eb,ab bM,vI bN]=r:=bj (bp (aq3 CC) an) h
theorem VY{N:List (List Nat)}:(cS N).length=N.length:=by simp[cS]
theorem aq5{N:List (List Nat)}{q:Nat}{r:List Nat}(hq:q<N.length):(cS (N.set q r))[q]? =some (ab (nS r)):=by simp[cS,hq]
theorem aq6(t:Tp){L m:Nat}(h1:1≤L)(h6:L≤6)(hm:1≤m)(qU:m≤50):∃(F:List Bool) (N:List (List Nat)) (u:Tp),FN L F N∧N.length≤m∧
  CC 22 [vI (L:Int),vI (m:Int),t.L,t.K]=some [vI (L:Int),vI 0,u.L,u.K,av (F.map V.bool),ah (cS N)]:=by
 obtain⟨F,N0,st,u,hF,hNm,cv,e0⟩:=aeo t h1 h6 hm qU;obtain⟨n,hn⟩:∃n,n=N0.length:=⟨_,rfl⟩
 have aer:=hF.row;rw[←hn]at aer;have inner:∀{N:List (List Nat)} {q:Nat},N.length=n→q<n→(∀r∈N,r.length=L∧∀y∈r,y<n)→∃r:List Nat,r.length=L∧(∀y∈r,y<n)∧
   Loop (Jj CC (q:Int) (n:Int) (q:Int) q (L:Int) (u.l.map iV) (u.k:Int) 0 0 (L:Int) (st:Int) [] [] (F.map V.bool)) (0,cS N)=some ((L:Int),false,cS (N.set q r)):=by
  intro N q hN hq cR;have hqr:=cR N[q] (dw (by omega));have key:=nh (step:=Jj CC (q:Int) (n:Int) (q:Int) q (L:Int) (u.l.map iV) (u.k:Int) 0 0 (L:Int) (st:Int) [] [] (F.map V.bool)) (fun j x=> ∃r:List Nat,r.length=L∧(∀y∈r,y<n)∧x=((j:Int),cS (N.set q r)))
   (fun o=> ∃r:List Nat,r.length=L∧(∀y∈r,y<n)∧o=((L:Int),false,cS (N.set q r))) L 0 (0,cS N) (fun j _ hj x hx=> ?_) (fun x hx=> ?_) ⟨N[q],hqr.1,hqr.2,by rw[List.set_getElem_self];rfl⟩
  ·obtain⟨o,e,r,a1,a2,rfl⟩:=key;exact⟨r,a1,a2,e⟩
  ·obtain⟨r,a1,a2,rfl⟩:=hx;have iY:j<r.length:=by omega
   have hg:=aq5 (N:=N) (q:=q) (r:=r) (by omega);have BO:=sH hg;have Pr:=a2 _ (dw iY);have Ps:(ab (nS r)).toList[((j:Int)).toNat]? =some (nV r[j]):=by rw[V.eo,Int.toNat_natCast];exact z0 iY
   have hb:(decide (0≤(j:Int))&&decide ((j:Int)<((ab (nS r)).toList.length:Int)))=true:=by rw[V.eo];exact ra (by rw[dE];exact iY)
   have jK:setRow Tryz.prog (bc (ab (nS r)).toList (j:Int) (vI (if(nV r[j]).toInt>(q:Int)then(nV r[j]).toInt else(q:Int)))) 22 (cS (N.set q r)) [((q:Int).toNat,0)]=cS (N.set q (r.set j (if r[j]>q then r[j]else q))):=by
    rw[Int.toNat_natCast,Jl hg,V.eo];have hv:(vI (if(nV r[j]).toInt>(q:Int)then(nV r[j]).toInt else(q:Int)))=nV (if r[j]>q then r[j]else q):=by
     show vI (if((r[j]:Nat):Int)>(q:Int)then((r[j]:Nat):Int)else(q:Int))=vI ((if r[j]>q then r[j]else q:Nat):Int);by_cases c:r[j]>q
     ·rw[aF c,aF (by omega)]
     ·rw[aD c,aD (by omega)]
    rw[hv];simp only[bc,Int.toNat_natCast,cS,GJ];rw[GH];simp[nS]
   simp only[Jj,Ji,un];refine⟨_,bT (bt (by omega)) (bs BO (bT hb (bs BO (bs (a:=nV r[j]) Ps ((bJ hg).trans (bs (by rw[Int.toNat_natCast];exact BO) (bT hb (bs (by rw[Int.toNat_natCast];exact BO) (bs (a:=nV r[j]) Ps rfl))))))))),r.set j (if r[j]>q then r[j]else q),by rw[td,a1],fun y hy=> ?_,?_⟩
   ·rcases MS hy with hy|rfl
    ·exact a2 y hy
    ·split
     ·exact Pr
     ·exact hq
   ·rw[bu (by omega)];exact dm rfl jK
  ·obtain⟨r,a1,a2,rfl⟩:=hx;rw[dP]at*
   simp only[Jj,Ji,un];exact⟨_,bF (cL (aW _)) rfl,r,a1,a2,dm rfl (dm (cL (aW _)) rfl)⟩
 have key:=nh (step:=Po CC (n:Int) (u.l.map iV) (u.k:Int) 0 0 (L:Int) (st:Int) [] [] (F.map V.bool)) (fun q x=> ∃N:List (List Nat),N.length=n∧(∀r∈N,r.length=L∧∀y∈r,y<n)∧x=((q:Int),cS N))
  (fun o=> ∃N:List (List Nat),N.length=n∧(∀r∈N,r.length=L∧∀y∈r,y<n)∧o=((n:Int),false,cS N)) n 0 (0,cS N0) (fun q _ hq x hx=> ?_) (fun x hx=> ?_) ⟨N0,hn.symm,aer,rfl⟩
 ·obtain⟨o,e,N,a1,a2,rfl⟩:=key;refine⟨F,N,u,⟨by rw[hF.len,←hn,a1],by rw[a1,hn];exact hF.pos,fun r hr=>by rw[a1];exact a2 r hr⟩,by omega,aq4 ?_⟩;unfold aeq;refine bs e0 ?_;have hl:((gL ((([vI (L:Int),vI (st:Int),u.L,u.K,av (F.map V.bool),ah (cS N0)].drop 2).drop 2).drop 1)).length:Int)=(n:Int):=by show((cS N0).length:Int)=_;rw[VY,hn]
  rw[hl];exact bs e rfl
 ·obtain⟨N,a1,a2,rfl⟩:=hx;have dS:q<n:=by omega
  obtain⟨r,b1,b2,e⟩:=inner a1 dS a2;have hg:(cS N)[q]? =some (ab (nS N[q])):=by simp[cS,a1,dS]
  have VZ:=(a2 N[q] (dw (by omega))).1;simp only[Po,Jk,un];have hlen:((ab (nS N[q])).toList.length:Int)=(L:Int):=by rw[V.eo,dE,VZ]
  refine⟨(((q+1:Nat):Int),cS (N.set q r)),bT (bt dS) ((bJ hg).trans (bs (by rw[Int.toNat_natCast];exact sH hg) ?_)),N.set q r,by rw[td,a1],fun s hs=> ?_,rfl⟩
  ·rw[hlen,Int.toNat_natCast];refine bs e ?_;rw[bu (by omega)];rfl
  ·rcases MS hs with hs|rfl
   ·exact a2 s hs
   ·exact⟨b1,b2⟩
 ·obtain⟨N,a1,a2,rfl⟩:=hx;rw[dP]at*
  simp only[Po,Jk,un];exact⟨_,bF (cL (aW _)) rfl,N,a1,a2,dm rfl (dm (cL (aW _)) rfl)⟩
end Go.AM
