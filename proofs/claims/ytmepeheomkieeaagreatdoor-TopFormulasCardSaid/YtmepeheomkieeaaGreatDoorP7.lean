/-
  Functions of the program, lifted to plain data.
-/
import Derived.Test.YtmepeheomkieeaaGreatDoorP6
set_option linter.unusedVariables false
set_option linter.unusedSimpArgs false
set_option linter.unusedSectionVars false
set_option maxRecDepth 100000
namespace Go.AM
open Go.IntKind (wrap)
open Go.Proofs
section
variable {c:BC}{L K:Nat}{mul:Nat→Nat→Nat}{im:Nat→Nat}(B:BK c L K mul im)
theorem jJ{R:Nat→Nat→Prop}{x:Nat}(hx:x<K):idx (dq K R) (x:Int)=some (au (tab K fun y=> .bool (rB R x y))):=by unfold dq;exact pC hx
theorem jK{R:Nat→Nat→Prop}{x y:Nat}(hy:y<K):idx (au (tab K fun y=> .bool (rB R x y))).toList (y:Int)=some (.bool (rB R x y)):=pC hy
include B
theorem BK.row{x:Nat}(hx:x<K):idx c.t (x:Int)=some (ab (tab K fun j=>nV (mul x j))):=by rw[B.eT];exact pC hx
omit B in
theorem oy{x y:Nat}(hy:y<K):idx (ab (tab K fun j=>nV (mul x j))).toList (y:Int)=some (nV (mul x y)):=pC hy
theorem BK.Cg{x:Nat}(hx:x<L):idx c.im (x:Int)=some (nV (im x)):=by rw[B.eI];exact pC hx
theorem BK.U3:c.im.length=L:=by rw[B.eI];exact fi
omit B in
theorem U4{o:LV}{of:Nat→Nat}(ho:o=tab K fun i=>nV (of i)){x:Nat}(hx:x<K):o[(x:Int).toNat]? =some (nV (of x)):=by
 rw[ho,Int.toNat_natCast];exact dH hx
omit B in
theorem ac5{o:LV}{of:Nat→Nat}(ho:o=tab K fun i=>nV (of i)){x:Nat}(hx:x<K){β:Type}{k:V→Option β}:aL o (x:Int) k=k (nV (of x)):=by
 unfold aL;refine bT (by rw[ho];simp;omega) (bs (U4 ho hx) rfl)
omit B in
theorem ac6{o:LV}{of:Nat→Nat}(ho:o=tab K fun i=>nV (of i)){x:Nat}(hx:x<K){β:Type}{k:Option β}:jS o (x:Int) k=k:=by
 unfold jS;refine bT (by rw[ho];simp;omega) rfl
section
variable {cX:List Nd}{o:LV}{of:Nat→Nat}(kb:GV L cX)(ho:o=tab K fun i=>nV (of i)){m:Nat}(hm:m<K)
def wm(K:Nat)(mul:Nat→Nat→Nat)(im:Nat→Nat)(cX:List Nd)(of:Nat→Nat)(m x a b:Nat)(w:List Nat):Prop:=
 (Jr K mul (mul (im a) x) m∧Jr K mul (mul x (im b)) m∧¬Jr K mul (mul (mul (im a) x) (im b)) m)∧∃v,lg cX (of x) v∧w=a::(v++[b])
include kb ho hm
theorem aAV{ns:List Nd}{k0:Nat}(x0:Xt L cX ns k0)(hn:ns.length≤800000){x a:Nat}(hx:x<K)(mb:of x<cX.length)(ha:a<L){l:List Nat}(hl:l.length≤800000){Q:List Nat→Prop}(hQ:dR ns l Q){k1 k2 k3 k4:Int}{l1 l2:LV}:
  ∃(l':List Nat) (ms:List Nd),Loop (NQ CC (m:Int) c.t c.tw (x:Int) (a:Int) ((im a:Nat):Int) l1 k1 k2 l2 k3 k4 c.im (L:Int)) (0,c.u2 ns o l)=some ((L:Int),false,c.u2 ms o l')∧Xt L ns ms (4*L)∧l'.length≤l.length+L∧dR ms l' fun w=>Q w∨∃b,b<L∧wm K mul im cX of m x a b w:=by
 have hL:=B.L6;have wo:=B.lI a ha;have ET:=B.ml _ _ wo hx;have key:=gH (step:=NQ CC (m:Int) c.t c.tw (x:Int) (a:Int) ((im a:Nat):Int) l1 k1 k2 l2 k3 k4 c.im (L:Int)) (fun i (s:Int×Int×LV×LV×LV×LV×LV×LV×LV×LV×LV×LV×LV×LV×LV)=> ∃(l':List Nat) (ms:List Nd),s=((i:Int),c.u2 ms o l')∧Xt L ns ms (4*i)∧l'.length≤l.length+i∧dR ms l' fun w=>Q w∨∃b,b<i∧wm K mul im cX of m x a b w)
  (fun r=> ∃(l':List Nat) (ms:List Nd),r=((L:Int),false,c.u2 ms o l')∧Xt L ns ms (4*L)∧l'.length≤l.length+L∧dR ms l' fun w=>Q w∨∃b,b<L∧wm K mul im cX of m x a b w) L 0 (0,c.u2 ns o l)
  (fun i _ hi s hs=> ?_) (fun s hs=> ?_) ⟨l,ns,rfl,Xt.refl x0.v,by simp,hQ.same fun w=>⟨fun h=>h.resolve_right fun⟨b,hb,_⟩=>by omega,.inl⟩⟩
 ·obtain⟨r,e1,l',ms,rfl,h1,h2,h3⟩:=key;exact⟨l',ms,e1,h1,h2,h3⟩
 ·obtain⟨l',ms,rfl,h1,h2,h3⟩:=hs;rw[cL]at hi;have zs:=h1.l;have Ch:=B.lI i hi;have hxb:=B.ml _ _ hx Ch;have zm:=B.ml _ _ ET Ch;simp only[NQ,NO,un,BC.u2];have skip:(some (Sum.inl (wrap .i64 ((i:Int)+1),c.u2 ms o l')):Option ((Int×Int×LV×LV×LV×LV×LV×LV×LV×LV×LV×LV×LV×LV×LV) ⊕ (Int×Bool×Int×LV×LV×LV×LV×LV×LV×LV×LV×LV×LV×LV×LV×LV)))=some (Sum.inl (((i+1:Nat):Int),c.u2 ms o l')):=by rw[bY (by omega)]
  by_cases c1:Jr K mul (mul (im a) x) m
  case neg=>
   refine⟨(((i+1:Nat):Int),c.u2 ms o l'),bT (cF hi) (bs (B.Cg hi) (bs (B.row wo) (bs (oy hx) (bs (B.row hx) (bs (oy Ch) (bs (by rw[B.eJ];exact jJ ET) (bs (jK hm) (bF (oV c1) skip)))))))),l',ms,rfl,?_⟩;exact⟨h1.mono (by omega),by omega,h3.same fun w=>yR Iff.rfl ⟨fun⟨b,hb,h⟩=>⟨b,by rcases fR b i with q|q;exact q;exact absurd h.1.1 c1,h⟩,fun⟨b,hb,h⟩=>⟨b,by omega,h⟩⟩⟩
  by_cases c2:Jr K mul (mul x (im i)) m
  case neg=>
   refine⟨(((i+1:Nat):Int),c.u2 ms o l'),bT (cF hi) (bs (B.Cg hi) (bs (B.row wo) (bs (oy hx) (bs (B.row hx) (bs (oy Ch) (bs (by rw[B.eJ];exact jJ ET) (bs (jK hm) (bT (lF c1) (bs (by rw[B.eJ];exact jJ hxb) (bs (jK hm) (bF (oV c2) skip))))))))))),l',ms,rfl,?_⟩;exact⟨h1.mono (by omega),by omega,h3.same fun w=>yR Iff.rfl ⟨fun⟨b,hb,h⟩=>⟨b,by rcases fR b i with q|q;exact q;exact absurd (by have:=h.1.2.1;rwa [show b=i by omega]at this) c2,h⟩,fun⟨b,hb,h⟩=>⟨b,by omega,h⟩⟩⟩
  by_cases c3:Jr K mul (mul (mul (im a) x) (im i)) m
  case pos=>
   refine⟨(((i+1:Nat):Int),c.u2 ms o l'),bT (cF hi) (bs (B.Cg hi) (bs (B.row wo) (bs (oy hx) (bs (B.row hx) (bs (oy Ch) (bs (by rw[B.eJ];exact jJ ET) (bs (jK hm) (bT (lF c1) (bs (by rw[B.eJ];exact jJ hxb) (bs (jK hm) (bT (lF c2) (bs (B.row ET) (bs (oy Ch) (bs (by rw[B.eJ];exact jJ zm) (bs (jK hm) (bF (by show(!rB _ _ _)=false;rw[lF c3];rfl) skip)))))))))))))))),l',ms,rfl,?_⟩;exact⟨h1.mono (by omega),by omega,h3.same fun w=>yR Iff.rfl ⟨fun⟨b,hb,h⟩=>⟨b,by rcases fR b i with q|q;exact q;exact absurd c3 (by have:=h.1.2.2;rwa [show b=i by omega]at this),h⟩,fun⟨b,hb,h⟩=>⟨b,by omega,h⟩⟩⟩
  obtain⟨i1,m1,e1,x1,q1,g1⟩:=HV (c:=c) (o:=o) h1.v (by omega) hL ha;have le2:=x1.l;have xx:=x0.trans (h1.trans x1)
  have pr:of x<m1.length:=fY mb xx.le;obtain⟨i2,m2,e2,x2,q2,g2⟩:=B5 (c:=c) (o:=o) x1.v (by omega) hL q1 pr;have le3:=x2.l;obtain⟨i3,m3,e3,x3,q3,g3⟩:=HV (c:=c) (o:=o) x2.v (by omega) hL hi;have le4:=x3.l;obtain⟨i4,m4,e4,x4,q4,g4⟩:=B5 (c:=c) (o:=o) x3.v (by omega) hL (fY q2 x3.le) q3;have pJ:=x1.trans (x2.trans (x3.trans x4))
  refine⟨(((i+1:Nat):Int),c.u2 m4 o (l'++[i4])),bT (cF hi) (bs (B.Cg hi) (bs (B.row wo) (bs (oy hx) (bs (B.row hx) (bs (oy Ch) (bs (by rw[B.eJ];exact jJ ET) (bs (jK hm) (bT (lF c1) (bs (by rw[B.eJ];exact jJ hxb) (bs (jK hm) (bT (lF c2) (bs (B.row ET) (bs (oy Ch) (bs (by rw[B.eJ];exact jJ zm) (bs (jK hm) (bT (by show(!rB _ _ _)=true;rw[oV c3];rfl) (bs e1 ((ac5 ho hx).trans (bs e2 (bs e3 (bs e4 (bT (HZ (by omega)) ((ac6 ho hx).trans (bT (by simp) (bs (U4 ho hx) (bT (by simp) ?_)))))))))))))))))))))))))),l'++[i4],m4,rfl,(h1.trans pJ).mono (by omega),by simp;omega,?_⟩
  ·unfold BC.u2;rw[bY (by omega),←NN];rfl
  ·refine h3.add h1.v pJ q4 (R:=fun w=> ∃v,lg cX (of x) v∧w=a::(v++[i])) (fun w=> ?_) fun w=> ?_
   ·rw[g4];constructor
    ·rintro⟨u,v,rfl,h,h'⟩;rw[x3.lg x2.v q2,g2]at h;obtain⟨u1,u2,rfl,h5,h6⟩:=h;rw[(g3 _).1 h',(g1 _).1 h5];rw[xx.lg kb mb]at h6;exact⟨u2,h6,by simp⟩
    ·rintro⟨v,h,rfl⟩;refine⟨a::v,[i],by simp,?_,(g3 _).2 rfl⟩;rw[x3.lg x2.v q2,g2];exact⟨[a],v,rfl,(g1 _).2 rfl,by rw[xx.lg kb mb];exact h⟩
   ·constructor
    ·rintro(h|⟨b,hb,h⟩)
     ·exact .inl (.inl h)
     ·rcases fR b i with q|q
      ·exact .inl (.inr ⟨b,q,h⟩)
      ·have:=h.2;rw[show b=i by omega]at this;exact .inr this
    ·rintro((h|⟨b,hb,h⟩)|h)
     ·exact .inl h
     ·exact .inr ⟨b,by omega,h⟩
     ·exact .inr ⟨i,by omega,⟨c1,c2,c3⟩,h⟩
 ·rw[cL]at hs;obtain⟨l',ms,rfl,h1,h2,h3⟩:=hs;refine⟨((L:Int),false,c.u2 ms o l'),?_,l',ms,rfl,h1,h2,h3⟩;simp only[NQ,NO,un,BC.u2];exact bF (cf (aR _)) (by rw[cf (aR _)])
end
end
noncomputable def amW(C:af)(x:Int):Option LV:=
 some [.bool (x != x)]
theorem aAW{x:Int}{r:Option LV}(h:amW CC x=r):CC 112 [vI x]=r:=bR (L:=bS) ak h
noncomputable def amX(C:af)(x y:Int):Option LV:=
 (C 112 [vI x]).bind fun r1=>
 (C 112 [vI y]).bind fun r2=>
 bif (gB r1)then
  bif (gB r2)then
  some [vI 0]
  else
  some [vI (-1)]
 else
  bif (gB r2)then
  some [vI 1]
  else
  bif decide (x<y)then
   some [vI (-1)]
  else
   bif decide (x>y)then
   some [vI 1]
   else
   some [vI 0]
theorem aAX{x y:Int}{r:Option LV}(h:amX CC x y=r):CC 67 [vI x,vI y]=r:=bR (L:=bS) ak h
noncomputable def N4(C:af)(zero:Int)(t6:LV)(t7 t8:Int){β:Type}(kn:ay Int β)(kr:ay ((Int) ⊕ (Int×Bool)) β):Option β:=
 bif decide (t8<t7)then
  (idx t6 t8).bind fun x1=>
  bif (x1.toInt:Int) != zero then
  kr (.inl x1.toInt)
  else
  kn (wrap .i64 (t8+1))
 else
  kr (.inr (t8,decide (t8<t7)))
noncomputable def ac7(C:af)(zero:Int)(t6:LV)(t7:Int):=fun t8=>N4 C zero t6 t7 t8 ct cu
noncomputable def aAY(C:af):da:=cm 49 aaH [zJ,zJ,zJ,zK] [[0],[1,2,3,0,0]] (@N4 C) bS
theorem aAZ(C:af):bt C (aAY C) 66 (Lp [1,1,0,1,0,0] 66):=cj aaH [zJ,zJ,zJ,zK] [[0],[1,2,3,0,0]] (@N4 C) (aY ak)
noncomputable def amY(C:af)(vals:LV):Option LV:=
 (Loop (ac7 C 0 vals (vals.length:Int)) 0).bind (gZ (fun lA=>
  some [vI lA]) (un fun(fL:Int) (hZ:Bool)=>
  some [vI 0]))
theorem aA0{vals:LV}{r:Option LV}(h:amY CC vals=r):CC 66 [ab vals]=r:=bR (br (aAZ CC) ak) h
noncomputable def amZ(C:af)(x y:Int)(aE:LV):Option LV:=
 aL aE y fun x1=>
 aL aE x fun x2=>
 (C 67 [vI x1.toInt,vI x2.toInt]).bind fun r3=>
 (C 67 [vI x,vI y]).bind fun r4=>
 (C 66 [ab ([vI (gI r3),vI (gI r4)]:LV)]).bind fun r5=>
 some [vI (gI r5),ab aE]
theorem aA1{x y:Int}{aE:LV}{r:Option LV}(h:amZ CC x y aE=r):CC 65 [vI x,vI y,ab aE]=r:=bR (L:=bS) ak h
noncomputable def H4(C:af)(a b' i j:Int)(ft aj:LV){β:Type}(kn:ay (Int×LV×LV) β)(kr:ay (Int×Bool×LV×LV) β):Option β:=
 bif decide (j>a)then
  aL ft j fun x1=>
  aL ft (wrap .i64 (j-1)) fun x2=>
  (C 65 [vI x1.toInt,vI x2.toInt,ab aj]).bind fun r3=>
  bif decide (((gI r3):Int)<0)then
  aL ft (wrap .i64 (j-1)) fun x4=>
  aL ft j fun x5=>
  aL ft j fun x6=>
  aL (aG ft j (vI x4.toInt)) (wrap .i64 (j-1)) fun x7=>
  kn (wrap .i64 (j-1),aG (aG ft j (vI x4.toInt)) (wrap .i64 (j-1)) (vI x5.toInt),(dw r3))
  else
  kr (j,decide (((gI r3):Int)<0),ft,(dw r3))
 else
  kr (j,false,ft,aj)
noncomputable def N5(C:af)(a b' i:Int):=un fun j=>un fun ft aj=>H4 C a b' i j ft aj ct cu
noncomputable def H5(C:af)(a b' i:Int)(ft aj:LV){β:Type}(kn:ay (Int×LV×LV) β)(kr:ay (Int×Bool×LV×LV) β):Option β:=
 bif decide (i<b')then
  (Loop (N5 C a b' i) (i,ft,aj)).bind (un fun j_8=>un fun(uI:Bool)=>un fun(aA2:LV) (zX:LV)=>
   kn (wrap .i64 (i+1),aA2,zX))
 else
  kr (i,decide (i<b'),ft,aj)
noncomputable def N6(C:af)(a b':Int):=un fun i=>un fun ft aj=>H5 C a b' i ft aj ct cu
noncomputable def am0(C:af):da:=cm 65 abj (aN 6 56) [[1,2,3,0,0,0,0]] (@H4 C) (cm 17 abk (aN 5 28) [[1,2,0,0,0,0]] (@H5 C) bS)
theorem aA3(C:af):bt C (am0 C) 138 (Lp [1,0,0,1,0,0,1,0,0] 138):=cj abj (aN 6 56) [[1,2,3,0,0,0,0]] (@H4 C) (aY ak)
theorem aA4(C:af):bt C (am0 C) 138 (Lp [1,0,0] 138):=cj abk (aN 5 28) [[1,2,0,0,0,0]] (@H5 C) (aY (br (aA3 C) ak))
noncomputable def aA5(C:af)(a b':Int)(ft ao:LV):Option LV:=
 (Loop (N6 C a b') (wrap .i64 (a+1),ft,ao)).bind (un fun aI5=>un fun(Er:Bool)=>un fun(aA6:LV) (uF:LV)=>
  some [ab aA6,ab uF])
theorem am1{a b':Int}{ft ao:LV}{r:Option LV}(h:aA5 CC a b' ft ao=r):CC 138 [vI a,vI b',ab ft,ab ao]=r:=bR (br (aA4 CC) ak) h
noncomputable def ac8(C:af)(a b' si:Int)(qZ sj:Bool)(length:Int)(t39:Bool)(ft aj:LV){β:Type}(kr:ay (Int×LV×LV) β):Option β:=
 bif t39 then
  (C 140 [vI a,vI b',ab ft,ab aj]).bind fun r3=>
  kr (wrap .i64 (si-1),(gL r3),(dw r3))
 else
  kr (si,ft,aj)
noncomputable def ac9(C:af)(a b' si:Int)(qZ sj:Bool)(length ada hint:Int)(t56:Bool)(ft aj:LV){β:Type}(kr:ay (Int×Int×LV×LV) β):Option β:=
 bif t56 then
  (C 142 [vI a,vI b',ab ft,ab aj]).bind fun r8=>
  kr (wrap .i64 ((wrap .i64 (b'-1))-(wrap .i64 (ada-a))),1,(gL r8),(dw r8))
 else
  kr (ada,hint,ft,aj)
noncomputable def N7(C:af)(a b' si:Int)(qZ sj:Bool)(length ada:Int)(t75:Bool)(ft aj:LV){β:Type}(kr:ay ((Bool×LV×LV) ⊕ (LV×LV)) β):Option β:=
 bif t75 then
  (C 143 [vI a,vI b',ab ft,ab aj]).bind fun jL=>
  bif (gB jL)then
  kr (.inl ((gB jL),(dw jL),(jT jL)))
  else
  kr (.inr ((dw jL),(jT jL)))
 else
  kr (.inr (ft,aj))
noncomputable def U5(C:af)(a b' si:Int)(qZ sj:Bool)(ft aj:LV){β:Type}(kn:ay (Int×Int×Int×Bool×Bool×LV×LV) β)(kr:ay (LV×LV) β):Option β:=
 bif decide (((wrap .i64 (b'-a)):Int)≤12)then
  (C 138 [vI a,vI b',ab ft,ab aj]).bind fun r1=>
  kr ((gL r1),(dw r1))
 else
  bif si==0 then
  (C 139 [vI a,vI b',ab ft,ab aj]).bind fun r2=>
  kr ((gL r2),(dw r2))
  else
  ac8 C a b' si qZ sj (wrap .i64 (b'-a)) (!qZ) ft aj (un fun jh=>un fun(am2:LV) (b_6:LV)=>
   (C 141 [ab am2,vI a,vI b',ab b_6]).bind fun r7=>
   ac9 C a b' jh qZ sj (wrap .i64 (b'-a)) (gI r7) (dm r7) (((dm r7):Int)==2) am2 (jq r7) (un fun ra=>un fun aA7=>un fun(adb:LV) (zY:LV)=>
    bif qZ then
     bif sj then
     N7 C a b' jh qZ sj (wrap .i64 (b'-a)) ra (aA7==1) adb zY (gZ (un fun(Mh:Bool)=>un fun(aA8:LV) (Ep:LV)=>
      kr (aA8,Ep)) (un fun(N8:LV) (yf:LV)=>
      bif decide (a>0)then
       aL N8 (wrap .i64 (a-1)) fun Ae=>
       aL N8 ra fun uN=>
       (C 65 [vI Ae.toInt,vI uN.toInt,ab yf]).bind fun wq=>
       bif !(decide (((gI wq):Int)<0))then
       (C 144 [vI a,vI b',vI ra,ab N8,ab (dw wq)]).bind fun EU=>
       kn ((gI EU),b',jh,qZ,sj,(dw EU),(jT EU))
       else
       (C 145 [vI a,vI b',vI ra,ab N8,ab (dw wq)]).bind fun kq=>
       bif decide (((wrap .i64 ((gI kq)-a)):Int)<(wrap .i64 (b'-(gI kq))))then
        (C 110 [vI a,vI (gI kq),vI jh,ab (jq kq),ab (oR kq)]).bind fun wk=>
        kn (wrap .i64 ((gI kq)+1),b',jh,decide (((wrap .i64 ((gI kq)-a)):Int)≥(wrap .i64 (Int.tdiv (wrap .i64 (b'-a)) 8))),(js kq),(gL wk),(dw wk))
       else
        (C 110 [vI (wrap .i64 ((gI kq)+1)),vI b',vI jh,ab (jq kq),ab (oR kq)]).bind fun Ad=>
        kn (a,(gI kq),jh,decide (((wrap .i64 (b'-(gI kq))):Int)≥(wrap .i64 (Int.tdiv (wrap .i64 (b'-a)) 8))),(js kq),(gL Ad),(dw Ad))
      else
       (C 145 [vI a,vI b',vI ra,ab N8,ab yf]).bind fun nC=>
       bif decide (((wrap .i64 ((gI nC)-a)):Int)<(wrap .i64 (b'-(gI nC))))then
       (C 110 [vI a,vI (gI nC),vI jh,ab (jq nC),ab (oR nC)]).bind fun BY=>
       kn (wrap .i64 ((gI nC)+1),b',jh,decide (((wrap .i64 ((gI nC)-a)):Int)≥(wrap .i64 (Int.tdiv (wrap .i64 (b'-a)) 8))),(js nC),(gL BY),(dw BY))
       else
       (C 110 [vI (wrap .i64 ((gI nC)+1)),vI b',vI jh,ab (jq nC),ab (oR nC)]).bind fun N9=>
       kn (a,(gI nC),jh,decide (((wrap .i64 (b'-(gI nC))):Int)≥(wrap .i64 (Int.tdiv (wrap .i64 (b'-a)) 8))),(js nC),(gL N9),(dw N9))))
     else
     N7 C a b' jh qZ sj (wrap .i64 (b'-a)) ra false adb zY (gZ (un fun(am3:Bool)=>un fun(aA9:LV) (ade:LV)=>
      kr (aA9,ade)) (un fun(Oa:LV) (Ez:LV)=>
      bif decide (a>0)then
       aL Oa (wrap .i64 (a-1)) fun ES=>
       aL Oa ra fun Cf=>
       (C 65 [vI ES.toInt,vI Cf.toInt,ab Ez]).bind fun Ci=>
       bif !(decide (((gI Ci):Int)<0))then
       (C 144 [vI a,vI b',vI ra,ab Oa,ab (dw Ci)]).bind fun Cj=>
       kn ((gI Cj),b',jh,qZ,sj,(dw Cj),(jT Cj))
       else
       (C 145 [vI a,vI b',vI ra,ab Oa,ab (dw Ci)]).bind fun sk=>
       bif decide (((wrap .i64 ((gI sk)-a)):Int)<(wrap .i64 (b'-(gI sk))))then
        (C 110 [vI a,vI (gI sk),vI jh,ab (jq sk),ab (oR sk)]).bind fun mJ=>
        kn (wrap .i64 ((gI sk)+1),b',jh,decide (((wrap .i64 ((gI sk)-a)):Int)≥(wrap .i64 (Int.tdiv (wrap .i64 (b'-a)) 8))),(js sk),(gL mJ),(dw mJ))
       else
        (C 110 [vI (wrap .i64 ((gI sk)+1)),vI b',vI jh,ab (jq sk),ab (oR sk)]).bind fun r40=>
        kn (a,(gI sk),jh,decide (((wrap .i64 (b'-(gI sk))):Int)≥(wrap .i64 (Int.tdiv (wrap .i64 (b'-a)) 8))),(js sk),(gL r40),(dw r40))
      else
       (C 145 [vI a,vI b',vI ra,ab Oa,ab Ez]).bind fun oW=>
       bif decide (((wrap .i64 ((gI oW)-a)):Int)<(wrap .i64 (b'-(gI oW))))then
       (C 110 [vI a,vI (gI oW),vI jh,ab (jq oW),ab (oR oW)]).bind fun H3=>
       kn (wrap .i64 ((gI oW)+1),b',jh,decide (((wrap .i64 ((gI oW)-a)):Int)≥(wrap .i64 (Int.tdiv (wrap .i64 (b'-a)) 8))),(js oW),(gL H3),(dw H3))
       else
       (C 110 [vI (wrap .i64 ((gI oW)+1)),vI b',vI jh,ab (jq oW),ab (oR oW)]).bind fun oX=>
       kn (a,(gI oW),jh,decide (((wrap .i64 (b'-(gI oW))):Int)≥(wrap .i64 (Int.tdiv (wrap .i64 (b'-a)) 8))),(js oW),(gL oX),(dw oX))))
    else
     N7 C a b' jh qZ sj (wrap .i64 (b'-a)) ra false adb zY (gZ (un fun(aBa:Bool)=>un fun(aBb:LV) (MU:LV)=>
      kr (aBb,MU)) (un fun(Ob:LV) (Ab:LV)=>
      bif decide (a>0)then
      aL Ob (wrap .i64 (a-1)) fun ND=>
      aL Ob ra fun x50=>
      (C 65 [vI ND.toInt,vI x50.toInt,ab Ab]).bind fun r51=>
      bif !(decide (((gI r51):Int)<0))then
       (C 144 [vI a,vI b',vI ra,ab Ob,ab (dw r51)]).bind fun r52=>
       kn ((gI r52),b',jh,qZ,sj,(dw r52),(jT r52))
      else
       (C 145 [vI a,vI b',vI ra,ab Ob,ab (dw r51)]).bind fun qm=>
       bif decide (((wrap .i64 ((gI qm)-a)):Int)<(wrap .i64 (b'-(gI qm))))then
       (C 110 [vI a,vI (gI qm),vI jh,ab (jq qm),ab (oR qm)]).bind fun U7=>
       kn (wrap .i64 ((gI qm)+1),b',jh,decide (((wrap .i64 ((gI qm)-a)):Int)≥(wrap .i64 (Int.tdiv (wrap .i64 (b'-a)) 8))),(js qm),(gL U7),(dw U7))
       else
       (C 110 [vI (wrap .i64 ((gI qm)+1)),vI b',vI jh,ab (jq qm),ab (oR qm)]).bind fun r55=>
       kn (a,(gI qm),jh,decide (((wrap .i64 (b'-(gI qm))):Int)≥(wrap .i64 (Int.tdiv (wrap .i64 (b'-a)) 8))),(js qm),(gL r55),(dw r55))
      else
      (C 145 [vI a,vI b',vI ra,ab Ob,ab Ab]).bind fun sm=>
      bif decide (((wrap .i64 ((gI sm)-a)):Int)<(wrap .i64 (b'-(gI sm))))then
       (C 110 [vI a,vI (gI sm),vI jh,ab (jq sm),ab (oR sm)]).bind fun r57=>
       kn (wrap .i64 ((gI sm)+1),b',jh,decide (((wrap .i64 ((gI sm)-a)):Int)≥(wrap .i64 (Int.tdiv (wrap .i64 (b'-a)) 8))),(js sm),(gL r57),(dw r57))
      else
       (C 110 [vI (wrap .i64 ((gI sm)+1)),vI b',vI jh,ab (jq sm),ab (oR sm)]).bind fun r58=>
       kn (a,(gI sm),jh,decide (((wrap .i64 (b'-(gI sm))):Int)≥(wrap .i64 (Int.tdiv (wrap .i64 (b'-a)) 8))),(js sm),(gL r58),(dw r58))))))
noncomputable def am4(C:af):=un fun a=>un fun b'=>un fun si=>un fun qZ=>un fun sj=>un fun ft aj=>U5 C a b' si qZ sj ft aj ct cu
noncomputable def U8(C:af):da:=lu 639 aa9 [[1,2,0,4,5,6,0,0]] (@ac8 C) (lu 911 aba [[1,2,3,4,5,6,0,0,0,0]] (@ac9 C) (lu 1215 abb [[1,2,3,4,5,6,7,0,0,0],[1,2,3,4,5,6,7,0,0]] (@N7 C) (cm 33 abc (aN 7 127) [[0,0]] (@U5 C) bS)))
theorem aBc(C:af):bt C (U8 C) 110 (Cd 39 [1,1,0,0,0,1,1,1,0,1,0] [1,1,0,0,0,1,1,1,0,1,1] 110):=lr aa9 [[1,2,0,4,5,6,0,0]] (@ac8 C) (aY ak) (aY ak)
theorem aBd(C:af):bt C (U8 C) 110 (Cd 56 [1,1,0,0,0,1,1,1,1,1,0,1,0] [1,1,0,0,0,1,1,1,1,1,0,1,1] 110):=lr aba [[1,2,3,4,5,6,0,0,0,0]] (@ac9 C) (aY ak) (aY ak)
theorem aBe(C:af):bt C (U8 C) 110 (Cd 75 [1,1,0,0,0,1,1,1,1,1,1,0,1,0] [1,1,0,0,0,1,1,1,1,1,1,0,1,1] 110):=lr abb [[1,2,3,4,5,6,7,0,0,0],[1,2,3,4,5,6,7,0,0]] (@N7 C) (aY ak) (aY ak)
theorem aBf(C:af):bt C (U8 C) 110 (Lp [1,1,0,0] 110):=cj abc (aN 7 127) [[0,0]] (@U5 C) (aY (br (aBc C) (br (aBd C) (br (aBe C) ak))))
noncomputable def aBg(C:af)(a b' si:Int)(ft ao:LV):Option LV:=
 (Loop (am4 C) (a,b',si,true,true,ft,ao)).bind (un fun(aBh:LV) (acX:LV)=>
  some [ab aBh,ab acX])
theorem aBi{a b' si:Int}{ft ao:LV}{r:Option LV}(h:aBg CC a b' si ft ao=r):CC 110 [vI a,vI b',vI si,ab ft,ab ao]=r:=bR (br (aBf CC) ak) h
noncomputable def am5(C:af)(xs ao:LV):Option LV:=
 (C 111 [.int .u64 (wrap .u64 (xs.length:Int))]).bind fun r1=>
 (C 110 [vI 0,vI (xs.length:Int),vI (gI r1),ab xs,ab ao]).bind fun r2=>
 some [ab (gL r2),ab (dw r2)]
theorem aBj{xs ao:LV}{r:Option LV}(h:am5 CC xs ao=r):CC 64 [ab xs,ab ao]=r:=bR (L:=bS) ak h
def cI(x y:Int):Int:=if x<y then-1 else if y<x then 1 else 0
theorem am6(x y:Int):CC 67 [vI x,vI y]=some [vI (cI x y)]:=by
 unfold cI;have n:∀z:Int,CC 112 [vI z]=some [.bool false]:=fun z=>aAW (by unfold amW;simp);refine aAX ?_;unfold amX;refine bs (n x) (bs (n y) (bF rfl (bF rfl ?_)));by_cases h:x<y
 ·rw[aP h];exact bT (bj h) rfl
 ·rw[aM h];refine bF (cw h) ?_;by_cases h2:y<x
  ·rw[aP h2];exact bT (bj h2) rfl
  ·rw[aM h2];exact bF (cw h2) rfl
theorem aBk(x y:Int):CC 66 [ab [vI x,vI y]]=some [vI (if x=0 then y else x)]:=by
 refine aA0 ?_;unfold amY;by_cases h:x=0
 ·subst h;by_cases h2:y=0
  ·subst h2;refine bs ((kY (y:=1) rfl).trans ((kY (y:=2) rfl).trans (lS rfl))) rfl
  ·refine bs ((kY (y:=1) rfl).trans (lS (r:= .inl y) ?_)) (by simp[gZ]);simp only[ac7,N4];exact bT rfl (bs (a:=vI y) rfl (bT (by simpa using h2) rfl))
 ·refine bs (lS (r:= .inl x) ?_) (by simp[gZ,h]);simp only[ac7,N4];exact bT rfl (bs (a:=vI x) rfl (bT (by simpa using h) rfl))
def Ck(sz:Nat→Nat)(x y:Nat):Prop:=sz y<sz x∨sz x=sz y∧x<y
section
variable {K:Nat}{sz:Nat→Nat}
def oY(K:Nat)(sz:Nat→Nat):LV:=tab K fun i=>nV (sz i)
theorem aBl{x y:Nat}(hx:x<K)(hy:y<K):∃r:Int,CC 65 [vI (x:Int),vI (y:Int),ab (oY K sz)]=some [vI r,ab (oY K sz)]∧(r<0↔Ck sz x y):=by
 refine⟨if cI (sz y:Nat) (sz x:Nat)=0 then cI x y else cI (sz y:Nat) (sz x:Nat),aA1 ?_,?_⟩
 ·unfold amZ;exact(aU (dH hy)).trans ((aU (dH hx)).trans (bs (am6 _ _) (bs (am6 _ _) (bs (aBk _ _) rfl))))
 ·unfold cI Ck;split<;>split<;>(try split)<;>(try split)<;>omega
def yp(sz:Nat→Nat)(l:List Nat):Prop:=l.Pairwise fun x y=> ¬Ck sz y x
theorem adf{P R:List Nat}{x:Nat}:(nS (P++x::R))[P.length]? =some (nV x):=by simp[nS]
theorem am7{P R:List Nat}{x y:Nat}:(nS (P++x::R)).set P.length (nV y)=nS (P++y::R):=by simp[nS]
theorem aBm{x:Nat}{R:List Nat}{b' i:Int}:∀(n:Nat) (P Q:List Nat),P.length=n→n≤1000→(∀q∈P++x::Q,q<K)→yp sz (P++Q)→(∀q∈Q,Ck sz x q)→∃(S:List Nat) (j:Int) (b:Bool),S.Perm (P++x::Q)∧yp sz S∧
  Loop (N5 CC 0 b' i) ((P.length:Int),nS (P++x::(Q++R)),oY K sz)=some (j,b,nS (S++R),oY K sz):=by
 intro n
 induction n with
 |zero=>
  intro P Q hP _ hK hs hq;obtain rfl:P=[]:=tF.1 hP;refine⟨x::Q,0,false,List.Perm.refl _,I5.2 ⟨fun q hm h=> ?_,hs⟩,lS ?_⟩
  ·have:=hq q hm;unfold Ck at*;omega
  ·simp only[N5,H4,un];exact bF rfl rfl
 |succ n ih=>
  intro P Q hP hn hK hs hq;obtain⟨P',p,rfl⟩:∃P' p,P=P'++[p]:=by
   refine⟨P.dropLast,P.getLast (fun e=>by rw[e]at hP;cases hP),(List.dropLast_concat_getLast _).symm⟩
  have hl:P'.length=n:=by simpa using hP
  have hpK:p<K:=hK p (by simp);have hxK:x<K:=hK x (by simp);have e0:(P'++[p])++x::(Q++R)=P'++p::x::(Q++R):=by simp
  have g1:(nS (P'++p::x::(Q++R)))[n+1]? =some (nV x):=by
   have:=adf (P:=P'++[p]) (x:=x) (R:=Q++R);rwa [e0,hP]at this
  have g0:(nS (P'++p::x::(Q++R)))[n]? =some (nV p):=by rw[←hl];exact adf
  have w1:wrap .i64 (((n+1:Nat):Int)-1)=(n:Int):=by rw[show(((n+1:Nat):Int)-1)=(n:Int) by omega];exact wrap64 (by omega) (by omega)
  obtain⟨r,er,hr⟩:=aBl (sz:=sz) hxK hpK;rw[hP,e0];by_cases c:Ck sz x p
  ·obtain⟨S,j,b,h1,h2,h3⟩:=ih P' (p::Q) hl (by omega) (fun q hm=>hK q (by
    rcases fQ.1 hm with h|h
    ·simp[h]
    ·rcases kC.1 h with rfl|h
     ·simp
     ·rcases kC.1 h with rfl|h
      ·simp
      ·simp[h])) (by simpa using hs) fun q hm=>by
    rcases kC.1 hm with rfl|hm
    ·exact c
    ·exact hq q hm
   refine⟨S,j,b,h1.trans ?_,h2,(kY ?_).trans h3⟩
   ·rw[kH];exact(List.Perm.swap _ _ _).append_left P'
   ·simp only[N5,H4,un,aL,aG];refine bT (bj (by omega)) ((aU g1).trans ?_);rw[w1];have s1:(nS (P'++p::x::(Q++R))).set (n+1) (nV p)=nS (P'++p::p::(Q++R)):=by
     have:=am7 (P:=P'++[p]) (x:=x) (y:=p) (R:=Q++R);rw[show P'++[p]++x::(Q++R)=P'++p::x::(Q++R) by simp,show P'++[p]++p::(Q++R)=P'++p::p::(Q++R) by simp,hP]at this;exact this
    have s2:(nS (P'++p::p::(Q++R))).set n (nV x)=nS (P'++x::p::(Q++R)):=by rw[←hl];exact am7
    have g2:(nS (P'++p::p::(Q++R)))[n]? =some (nV p):=by rw[←hl];exact adf
    refine(aU g0).trans (bs er (bT (bj (show r<0 from hr.2 c)) ((aU g0).trans ((aU g1).trans ((aU g1).trans ?_)))))
    rw[show vI (nV p).toInt=nV p from rfl,show vI (nV x).toInt=nV x from rfl];simp only[Int.toNat_natCast,s1];refine(aU g2).trans ?_;simp only[s2];rw[←hl];rfl
  ·refine⟨P'++[p]++x::Q,((n+1:Nat):Int),false,List.Perm.refl _,?_,lS ?_⟩
   ·have lk:=I4.1 hs;refine I4.2 ⟨lk.1,I5.2 ⟨fun q hm h=> ?_,lk.2.1⟩,fun y hy z hz=> ?_⟩
    ·have:=hq q hm;unfold Ck at*;omega
    ·rcases kC.1 hz with rfl|hz
     ·rcases fQ.1 hy with hy|hy
      ·have:=(I4.1 lk.1).2.2 y hy p (iY.2 rfl);unfold Ck at*;omega
      ·rw[iY.1 hy];exact c
     ·exact lk.2.2 y hy z hz
   ·simp only[N5,H4,un,aL,aG];refine bT (bj (by omega)) ((aU g1).trans ?_);rw[w1];have hc:decide (r<0)=false:=cw fun h=>c (hr.1 h);refine(aU g0).trans (bs er (bF hc ?_))
    show some (Sum.inr (((n+1:Nat):Int),decide (r<0),_,oY K sz))=_;rw[hc];simp
theorem aBn(l:List Nat)(hl:l.length≤12)(hK:∀q∈l,q<K):∃R:List Nat,CC 64 [ab (nS l),ab (oY K sz)]=some [ab (nS R),ab (oY K sz)]∧R.Perm l∧yp sz R:=by
 have key:∀(n:Nat) (S R:List Nat),R.length=n→S.length≤1000→n≤100→yp sz S→(S++R).Perm l→∃(T:List Nat) (j:Int) (b:Bool),T.Perm l∧yp sz T∧
   Loop (N6 CC 0 (l.length:Int)) ((S.length:Int),nS (S++R),oY K sz)=some (j,b,nS T,oY K sz):=by
  intro n
  induction n with
  |zero=>
   intro S R hR _ _ hS hp;obtain rfl:R=[]:=tF.1 hR;rw[uZ]at hp⊢;refine⟨S,(S.length:Int),decide ((S.length:Int)<(l.length:Int)),hp,hS,lS ?_⟩;simp only[N6,H5,un];exact bF (cw (by have:=hp.length_eq;omega)) rfl
  |succ n ih=>
   intro S R hR hSl hn hS hp;obtain⟨x,R,rfl⟩:∃x R',R=x::R':=by
    match R,hR with
    |x::R',_=>exact⟨x,R',rfl⟩
   have hll:=hp.length_eq;simp only[kG,List.length_cons]at hll hR;obtain⟨T,j,b,h1,h2,h3⟩:=aBm (K:=K) (sz:=sz) (x:=x) (R:=R) (b':=(l.length:Int)) (i:=(S.length:Int)) S.length S [] rfl hSl (fun q hq=>hK q (hp.mem_iff.1 (by
    rcases fQ.1 hq with h|h
    ·simp[h]
    ·rw[iY.1 h];simp))) (by simpa using hS) fun q h=>by cases h
   have hTl:T.length=S.length+1:=by rw[h1.length_eq];simp
   obtain⟨U,j2,b2,k1,k2,k3⟩:=ih T R (by omega) (by omega) (by omega) h2 ((h1.append_right R).trans (by simpa using hp));refine⟨U,j2,b2,k1,k2,(kY ?_).trans k3⟩;simp only[N6,H5,un];refine bT (bj (by omega)) (bs h3 ?_);simp only[un];rw[bY (by omega),hTl]
 have aBo:∃T:List Nat,T.Perm l∧yp sz T∧CC 138 [vI 0,vI (l.length:Int),ab (nS l),ab (oY K sz)]=some [ab (nS T),ab (oY K sz)]:=by
  cases l with
  |nil=>
   refine⟨[],List.Perm.refl _,List.Pairwise.nil,am1 ?_⟩;refine bs (lS (r:=((1:Int),false,([]:LV),oY K sz)) ?_) rfl;simp only[N6,H5,un];exact bF rfl rfl
  |cons x l=>
   obtain⟨T,j,b,h1,h2,h3⟩:=key l.length [x] l rfl (by simp) (by simp at hl;omega) (List.pairwise_singleton _ _) (List.Perm.refl _);exact⟨T,h1,h2,am1 (bs h3 rfl)⟩
 obtain⟨T,h1,h2,e1⟩:=aBo;have hlen:∃L:Int,CC 111 [.int .u64 (l.length:Int)]=some [vI L]:=by
  generalize l.length=n at hl;rcases(by omega:n=0∨n=1∨n=2∨n=3∨n=4∨n=5∨n=6∨n=7∨n=8∨n=9∨n=10∨n=11∨n=12)with rfl|rfl|rfl|rfl|rfl|rfl|rfl|rfl|rfl|rfl|rfl|rfl|rfl
  ·exact⟨0,gl (N:=60) (n:=30) (by kernel_rfl)⟩
  ·exact⟨1,gl (N:=60) (n:=30) (by kernel_rfl)⟩
  ·exact⟨2,gl (N:=60) (n:=30) (by kernel_rfl)⟩
  ·exact⟨2,gl (N:=60) (n:=30) (by kernel_rfl)⟩
  ·exact⟨3,gl (N:=60) (n:=30) (by kernel_rfl)⟩
  ·exact⟨3,gl (N:=60) (n:=30) (by kernel_rfl)⟩
  ·exact⟨3,gl (N:=60) (n:=30) (by kernel_rfl)⟩
  ·exact⟨3,gl (N:=60) (n:=30) (by kernel_rfl)⟩
  ·exact⟨4,gl (N:=60) (n:=30) (by kernel_rfl)⟩
  ·exact⟨4,gl (N:=60) (n:=30) (by kernel_rfl)⟩
  ·exact⟨4,gl (N:=60) (n:=30) (by kernel_rfl)⟩
  ·exact⟨4,gl (N:=60) (n:=30) (by kernel_rfl)⟩
  ·exact⟨4,gl (N:=60) (n:=30) (by kernel_rfl)⟩
 obtain⟨L,eL⟩:=hlen;have e2:CC 110 [vI 0,vI (l.length:Int),vI L,ab (nS l),ab (oY K sz)]=some [ab (nS T),ab (oY K sz)]:=by
  refine aBi ?_;refine bs (lS (r:=(nS T,oY K sz)) ?_) rfl;simp only[am4,U5,un];have w0:wrap .i64 ((l.length:Int)-0)=(l.length:Int):=by rw[Int.sub_zero];exact wrap64 (by omega) (by omega)
  exact bT (bj (by rw[w0];omega)) (bs e1 rfl)
 refine⟨T,aBj ?_,h1,h2⟩;have wu:wrap .u64 (((nS l).length:Nat):Int)=(l.length:Int):=by
  rw[ff];have:l.length<13:=by omega
  generalize l.length=n at this;rcases(by omega:n=0∨n=1∨n=2∨n=3∨n=4∨n=5∨n=6∨n=7∨n=8∨n=9∨n=10∨n=11∨n=12)with rfl|rfl|rfl|rfl|rfl|rfl|rfl|rfl|rfl|rfl|rfl|rfl|rfl<;>rfl
 unfold am5;rw[wu,ff];exact bs eL (bs e2 rfl)
end
noncomputable def Oc(C:af)(n t8 t9:Int)(Od:LV){β:Type}(kn:ay (Int×LV) β)(kr:ay (Int×Bool×LV) β):Option β:=
 bif decide (t9<t8)then
  bif (decide (0≤n))&&((decide (n≤n))&&(Nat.ble ((n.toNat)*1) bf))then
  aL Od t9 fun x1=>
  kn (wrap .i64 (t9+1),aG Od t9 (au (List.replicate (n.toNat) (V.bool false))))
  else none
 else
  kr (t9,decide (t9<t8),Od)
noncomputable def U9(C:af)(n t8:Int):=un fun t9 Od=>Oc C n t8 t9 Od ct cu
noncomputable def aBp(C:af):da:=cm 49 aaG [zJ,zJ,zK,zK] [[1,2,0,0,0]] (@Oc C) bS
theorem aBq(C:af):bt C (aBp C) 63 (Lp [1,1,0,1,0,0] 63):=cj aaG [zJ,zJ,zK,zK] [[1,2,0,0,0]] (@Oc C) (aY ak)
noncomputable def am8(C:af)(n:Int):Option LV:=
 bif (decide (0≤n))&&((decide (n≤n))&&(Nat.ble ((n.toNat)*24) bf))then
  (Loop (U9 C n ((List.replicate (n.toNat) (au ([]:LV))).length:Int)) (0,List.replicate (n.toNat) (au ([]:LV)))).bind (un fun lA=>un fun(fL:Bool) (aBr:LV)=>
   some [bd aBr])
 else none
theorem aBs{n:Int}{r:Option LV}(h:am8 CC n=r):CC 63 [vI n]=r:=bR (br (aBq CC) ak) h
noncomputable def Oe(C:af)(t:LV)(n x t25 t26 t34:Int)(aj aS aw aC bZ cg dL:LV)(t35:Int)(aH bB:LV){β:Type}(kn:ay (Int×LV×LV) β)(kr:ay (Int×Bool×LV×LV) β):Option β:=
 bif decide (t35<t34)then
  aL aH x fun x5=>
  (idx t x).bind fun x6=>
  (idx x6.toList t35).bind fun x7=>
  (ec Tryz.prog 23 aH [(x.toNat,0)]).bind fun x8=>
  bif (decide (0≤x7.toInt))&&(decide (x7.toInt<(x8.toList.length:Int)))then
  (ec Tryz.prog 23 aH [(x.toNat,0)]).bind fun x9=>
  (x9.toList[(x7.toInt:Int).toNat]?).bind fun mc=>
  aL bB x fun ny=>
  (idx t t35).bind fun ij=>
  (idx ij.toList x).bind fun oT=>
  (ec Tryz.prog 23 bB [(x.toNat,0)]).bind fun pJ=>
  bif (decide (0≤oT.toInt))&&(decide (oT.toInt<(pJ.toList.length:Int)))then
   (ec Tryz.prog 23 bB [(x.toNat,0)]).bind fun uP=>
   (uP.toList[(oT.toInt:Int).toNat]?).bind fun nz=>
   kn (wrap .i64 (t35+1),setRow Tryz.prog (aG x9.toList (x7.toInt) (.bool true)) 23 aH [(x.toNat,0)],setRow Tryz.prog (aG uP.toList (oT.toInt) (.bool true)) 23 bB [(x.toNat,0)])
  else none
  else none
 else
  kr (t35,decide (t35<t34),aH,bB)
noncomputable def Of(C:af)(t:LV)(n x t25 t26 t34:Int)(aj aS aw aC bZ cg dL:LV):=un fun t35=>un fun aH bB=>Oe C t n x t25 t26 t34 aj aS aw aC bZ cg dL t35 aH bB ct cu
noncomputable def Og(C:af)(t:LV)(n x y t25 t26 t65 t66 t78:Int)(aj aS aw aC aH bB cg dL:LV)(t79:Int)(bZ:LV){β:Type}(kn:ay (Int×LV) β)(kr:ay (Int×Bool×LV) β):Option β:=
 bif decide (t79<t78)then
  aL bZ x fun uO=>
  (idx t t79).bind fun wc=>
  (idx wc.toList y).bind fun uJ=>
  (ec Tryz.prog 23 bZ [(x.toNat,0)]).bind fun B4=>
  bif (decide (0≤uJ.toInt))&&(decide (uJ.toInt<(B4.toList.length:Int)))then
  (ec Tryz.prog 23 bZ [(x.toNat,0)]).bind fun Ak=>
  (Ak.toList[(uJ.toInt:Int).toNat]?).bind fun Nz=>
  kn (wrap .i64 (t79+1),setRow Tryz.prog (aG Ak.toList (uJ.toInt) (.bool true)) 23 bZ [(x.toNat,0)])
  else none
 else
  kr (t79,decide (t79<t78),bZ)
noncomputable def Oh(C:af)(t:LV)(n x y t25 t26 t65 t66 t78:Int)(aj aS aw aC aH bB cg dL:LV):=un fun t79 bZ=>Og C t n x y t25 t26 t65 t66 t78 aj aS aw aC aH bB cg dL t79 bZ ct cu
noncomputable def Oi(C:af)(t:LV)(n x t25 t26 t65:Int)(aj aS aw aC aH bB cg dL:LV)(t66:Int)(bZ:LV){β:Type}(kn:ay (Int×LV) β)(kr:ay (Int×Bool×LV) β):Option β:=
 bif decide (t66<t65)then
  aL aH x fun Af=>
  (ec Tryz.prog 23 aH [(x.toNat,0)]).bind fun yk=>
  bif (decide (0≤t66))&&(decide (t66<(yk.toList.length:Int)))then
  (ec Tryz.prog 23 aH [(x.toNat,0)]).bind fun tj=>
  (tj.toList[t66.toNat]?).bind fun uK=>
  bif !uK.toBool then
   kn (wrap .i64 (t66+1),bZ)
  else
   (Loop (Oh C t n x t66 t25 t26 t65 t66 n aj aS aw aC aH bB cg dL) (0,bZ)).bind (un fun aBt=>un fun(aI6:Bool) (Ez:LV)=>
    kn (wrap .i64 (t66+1),Ez))
  else none
 else
  kr (t66,decide (t66<t65),bZ)
noncomputable def Oj(C:af)(t:LV)(n x t25 t26 t65:Int)(aj aS aw aC aH bB cg dL:LV):=un fun t66 bZ=>Oi C t n x t25 t26 t65 aj aS aw aC aH bB cg dL t66 bZ ct cu
noncomputable def Ol(C:af)(t:LV)(n x t25 t26:Int)(t101:Nat)(t102:Int)(Va aS aw aC aH bB bZ cg:LV)(t103:Int)(dL:LV){β:Type}(kn:ay (Int×LV) β)(kr:ay (Int×Bool×LV) β):Option β:=
 bif decide (t103<t102)then
  (ec Tryz.prog 23 Va [(t101,0)]).bind fun x39=>
  bif (decide (0≤t103))&&(decide (t103<(x39.toList.length:Int)))then
  (ec Tryz.prog 23 Va [(t101,0)]).bind fun Al=>
  (Al.toList[t103.toNat]?).bind fun x41=>
  bif x41.toBool then
   aL dL x fun x42=>
   aL dL x fun x43=>
   kn (wrap .i64 (t103+1),aG dL x (vI (wrap .i64 (x42.toInt+1))))
  else
   kn (wrap .i64 (t103+1),dL)
  else none
 else
  kr (t103,decide (t103<t102),dL)
noncomputable def Om(C:af)(t:LV)(n x t25 t26:Int)(t101:Nat)(t102:Int)(Va aS aw aC aH bB bZ cg:LV):=un fun t103 dL=>Ol C t n x t25 t26 t101 t102 Va aS aw aC aH bB bZ cg t103 dL ct cu
noncomputable def On(C:af)(t:LV)(n t25:Int)(aj aS aw aC:LV)(t26:Int)(aH bB bZ cg dL:LV){β:Type}(kn:ay (Int×LV×LV×LV×LV×LV) β)(kr:ay (Int×Bool×LV×LV×LV×LV×LV) β):Option β:=
 bif decide (t26<t25)then
  aL cg t26 fun x4=>
  (Loop (Of C t n t26 t25 t26 n aj aS aw aC bZ (aG cg t26 (vI t26)) dL) (0,aH,bB)).bind (un fun aBu=>un fun(aBv:Bool)=>un fun(qi:LV) (lz:LV)=>
   (Loop (Oj C t n t26 t25 t26 n aj aS aw aC qi lz (aG cg t26 (vI t26)) dL) (0,bZ)).bind (un fun aI7=>un fun(aI8:Bool) (BW:LV)=>
    aL BW t26 fun UF=>
    (ec Tryz.prog 23 BW [(t26.toNat,0)]).bind fun EM=>
    (Loop (Om C t n t26 t25 t26 (t26.toNat) (EM.toList.length:Int) BW aj aS aw aC qi lz (aG cg t26 (vI t26))) (0,dL)).bind (un fun aBa=>un fun(amI:Bool) (MU:LV)=>
     kn (wrap .i64 (t26+1),qi,lz,BW,aG cg t26 (vI t26),MU))))
 else
  kr (t26,decide (t26<t25),aH,bB,bZ,cg,dL)
noncomputable def Vb(C:af)(t:LV)(n t25:Int)(aj aS aw aC:LV):=un fun t26=>un fun aH=>un fun bB=>un fun bZ=>un fun cg dL=>On C t n t25 aj aS aw aC t26 aH bB bZ cg dL ct cu
noncomputable def Oo(C:af):da:=cm 145 ZL (aN 16 6208) [[1,2,3,4,5,6,0,0,8,9,10,11,0,0,14,15,16]] (@Oe C) (cm 305 ZM (aN 19 66048) [[1,2,3,4,5,6,7,8,9,0,0,11,12,13,14,15,16,0,18,19]] (@Og C) (cm 241 ZN (aN 16 8256) [[1,2,3,4,5,6,0,0,8,9,10,11,12,13,0,15,16]] (@Oi C) (cm 401 ZO (aN 17 65664) [[1,2,3,4,5,6,7,0,0,9,10,11,12,13,14,15,16,0]] (@Ol C) (cm 81 ZP (aN 13 7944) [[1,2,3,0,0,5,6,7,8,0,0,0,0,0]] (@On C) bS))))
theorem aBw(C:af):bt C (Oo C) 24 (Lp [1,1,1,1,0,1,0,0,1,1,0,0,1,1,0,1,0,0] 24):=cj ZL (aN 16 6208) [[1,2,3,4,5,6,0,0,8,9,10,11,0,0,14,15,16]] (@Oe C) (aY ak)
theorem aBx(C:af):bt C (Oo C) 24 (Lp [1,1,1,1,0,1,0,0,1,1,0,0,1,1,1,0,1,0,0,1,1,0,0,1,1,1,0,0] 24):=cj ZM (aN 19 66048) [[1,2,3,4,5,6,7,8,9,0,0,11,12,13,14,15,16,0,18,19]] (@Og C) (aY ak)
theorem aBy(C:af):bt C (Oo C) 24 (Lp [1,1,1,1,0,1,0,0,1,1,0,0,1,1,1,0,1,0,0] 24):=cj ZN (aN 16 8256) [[1,2,3,4,5,6,0,0,8,9,10,11,12,13,0,15,16]] (@Oi C) (aY (br (aBx C) ak))
theorem aBz(C:af):bt C (Oo C) 24 (Lp [1,1,1,1,0,1,0,0,1,1,0,0,1,1,1,1,1,0,0] 24):=cj ZO (aN 17 65664) [[1,2,3,4,5,6,7,0,0,9,10,11,12,13,14,15,16,0]] (@Ol C) (aY ak)
theorem aBA(C:af):bt C (Oo C) 24 (Lp [1,1,1,1,0,1,0,0] 24):=cj ZP (aN 13 7944) [[1,2,3,0,0,5,6,7,8,0,0,0,0,0]] (@On C) (aY (br (aBw C) (br (aBy C) (br (aBz C) ak))))
noncomputable def am9(C:af)(t:LV):Option LV:=
 (C 63 [vI (t.length:Int)]).bind fun r1=>
 (C 63 [vI (t.length:Int)]).bind fun r2=>
 (C 63 [vI (t.length:Int)]).bind fun r3=>
 bif (decide (0≤(t.length:Int)))&&((decide ((t.length:Int)≤(t.length:Int)))&&(Nat.ble (((t.length:Int).toNat)*8) bf))then
  bif (decide (0≤(t.length:Int)))&&((decide ((t.length:Int)≤(t.length:Int)))&&(Nat.ble (((t.length:Int).toNat)*8) bf))then
  (Loop (Vb C t (t.length:Int) (t.length:Int) ([]:LV) ([]:LV) ([]:LV) ([]:LV)) (0,(gL r1),(gL r2),(gL r3),List.replicate ((t.length:Int).toNat) (vI 0),List.replicate ((t.length:Int).toNat) (vI 0))).bind (un fun aI9=>un fun(aJa:Bool)=>un fun(MV:LV)=>un fun(MW:LV)=>un fun(ED:LV)=>un fun(EE:LV) (MX:LV)=>
   (C 64 [ab EE,ab MX]).bind fun U7=>
   some [bd MV,bd MW,bd ED,ab (gL U7)])
  else none
 else none
theorem aBB{t:LV}{r:Option LV}(h:am9 CC t=r):CC 24 [aq t]=r:=bR (br (aBA CC) ak) h
theorem Vc{R R':Nat→Nat→Prop}{x y:Nat}(h:R x y↔R' x y):rB R x y=rB R' x y:=by
 by_cases c:R x y
 ·rw[lF c,lF (h.1 c)]
 ·rw[oV c,oV fun q=>c (h.2 q)]
theorem uX{K:Nat}{R R':Nat→Nat→Prop}(h:∀x y,x<K→y<K→(R x y↔R' x y)):dq K R=dq K R':=
 dA fun x hx=>congrArg _ (dA fun y hy=>congrArg _ (Vc (h x y hx hy)))
theorem oz{K:Nat}{R:Nat→Nat→Prop}{x:Nat}(hx:x<K):(dq K R)[x]? =some (au (tab K fun y=> .bool (rB R x y))):=dH hx
theorem adg{K:Nat}{R:Nat→Nat→Prop}{x z:Nat}(hx:x<K)(hz:z<K):(dq K R).set x (au ((tab K fun y=>V.bool (rB R x y)).set z (.bool true)))=dq K fun x' y=>R x' y∨x'=x∧y=z:=by
 unfold dq;rw[jf,jf];refine dA fun x' _=> ?_;by_cases c:x'=x
 ·subst c;rw[aP rfl];refine congrArg _ (dA fun y _=> ?_);by_cases d:y=z
  ·subst d;rw[aP rfl,lF (.inr ⟨rfl,rfl⟩)]
  ·rw[aM d];exact congrArg _ (Vc ⟨.inl,fun h=>h.resolve_right fun q=>d q.2⟩)
 ·rw[aM c];exact congrArg _ (dA fun y _=>congrArg _ (Vc ⟨.inl,fun h=>h.resolve_right fun q=>c q.1⟩))
section
variable {K:Nat}{mul:Nat→Nat→Nat}{t:LV}(ht:t=tab K fun i=>ab (tab K fun j=>nV (mul i j)))(hm:∀i j,i<K→j<K→mul i j<K)(hK:K≤400)
include ht in
theorem EV{x:Nat}(hx:x<K):idx t (x:Int)=some (ab (tab K fun j=>nV (mul x j))):=by rw[ht];exact pC hx
theorem aBC{n:Nat}(hn:n≤400):CC 63 [vI (n:Int)]=some [bd (dq n fun _ _=>False)]:=by
 refine aBs ?_;unfold am8;rw[Int.toNat_natCast,CD];have e:List.replicate n (V.bool false)=tab n fun y=> .bool (rB (fun _ _=>False) 0 y):=by
  rw[mG];exact dA fun y _=>by rw[oV id]
 have key:=EC (step:=U9 CC (n:Int) (n:Int)) (fun i a=>((i:Int),a)) n (fun x=>au (List.replicate n (V.bool false))) (List.replicate n (au ([]:LV))) (by simp) (fun a=>((n:Int),false,a)) (fun i hi a ha=> ?_) ?_
 ·refine bT (iB (by omega) (by omega)) (bs key ?_);refine congrArg (fun l=>some [bd l]) (dA fun x _=> ?_);rw[e];exact congrArg _ (dA fun y _=>by rw[oV id,oV id])
 ·simp only[U9,Oc,un];refine bT (cF hi) (bT (iB (by omega) (by omega)) ((aU (cv (by omega))).trans ?_));rw[bY (by omega)];simp only[aG,Int.toNat_natCast]
 ·simp only[U9,Oc,un];exact bF (cf (aR _)) (by rw[cf (aR _)])
include ht hm hK
theorem aBD{x:Nat}(hx:x<K){R0 L0:Nat→Nat→Prop}{k1 k2:Int}{l1 l2 l3 l4 l5 l6 l7:LV}:Loop (Of CC t (K:Int) (x:Int) k1 k2 (K:Int) l1 l2 l3 l4 l5 l6 l7) (0,dq K R0,dq K L0)=
  some ((K:Int),false,dq K (fun x' y=>R0 x' y∨x'=x∧∃s,s<K∧mul x s=y),dq K fun x' y=>L0 x' y∨x'=x∧∃s,s<K∧mul s x=y):=by
 have e0:∀{R0:Nat→Nat→Prop} {f:Nat→Nat},dq K R0=dq K fun x' y=>R0 x' y∨x'=x∧∃s,s<0∧f s=y:=fun {R0 f}=>uX fun x' y _ _=>⟨.inl,fun h=>h.resolve_right fun⟨_,s,hs,_⟩=>by omega⟩
 have e1:∀{R0:Nat→Nat→Prop} {f:Nat→Nat} {i:Nat},i<K→(dq K fun x' y=>(R0 x' y∨x'=x∧∃s,s<i∧f s=y)∨x'=x∧y=f i)=dq K fun x' y=>R0 x' y∨x'=x∧∃s,s<i+1∧f s=y:=fun {R0 f i} _=>uX fun x' y _ _=>by
  constructor
  ·rintro((h|⟨h,s,hs,e⟩)|⟨h,e⟩)
   ·exact .inl h
   ·exact .inr ⟨h,s,by omega,e⟩
   ·exact .inr ⟨h,i,by omega,e.symm⟩
  ·rintro(h|⟨h,s,hs,e⟩)
   ·exact .inl (.inl h)
   ·rcases fR s i with q|q
    ·exact .inl (.inr ⟨h,s,q,e⟩)
    ·exact .inr ⟨h,by rw[←e,show s=i by omega]⟩
 have key:=gp (step:=Of CC t (K:Int) (x:Int) k1 k2 (K:Int) l1 l2 l3 l4 l5 l6 l7) K (fun i=>((i:Int),dq K (fun x' y=>R0 x' y∨x'=x∧∃s,s<i∧mul x s=y),dq K fun x' y=>L0 x' y∨x'=x∧∃s,s<i∧mul s x=y))
  ((K:Int),false,dq K (fun x' y=>R0 x' y∨x'=x∧∃s,s<K∧mul x s=y),dq K fun x' y=>L0 x' y∨x'=x∧∃s,s<K∧mul s x=y) (fun i hi=> ?_) ?_
 ·rw[←e0,←e0]at key;exact key
 ·have hz:=hm _ _ hx hi;have hz2:=hm _ _ hi hx;simp only[Of,Oe,un];refine bT (cF hi) ((aU (oz hx)).trans (bs (EV ht hx) (bs (oy hi) (bs (tn (oz hx)) ?_))));refine(bT (by rw[V.fa,fi];exact qj hz) (bs (tn (oz hx)) (bs (by rw[V.fa];exact dH hz) ((aU (oz hx)).trans (bs (EV ht hi) (bs (oy hx) (bs (tn (oz hx)) (bT (by rw[V.fa,fi];exact qj hz2) (bs (tn (oz hx)) (bs (by rw[V.fa];exact dH hz2) ?_))))))))));simp only[aG,Int.toNat_natCast,V.fa,show(nV (mul x i)).toInt=((mul x i:Nat):Int)from rfl,show(nV (mul i x)).toInt=((mul i x:Nat):Int)from rfl];rw[UC (oz hx),UC (oz hx),adg hx hz,adg hx hz2,e1 hi,e1 hi,bY (by omega)]
 ·simp only[Of,Oe,un];exact bF (cf (aR _)) (by rw[cf (aR _)])
theorem aBE{x y:Nat}(hx:x<K)(hy:y<K){R0:Nat→Nat→Prop}{k1 k2 k3 k4:Int}{l1 l2 l3 l4 l5 l6 l7 l8:LV}:Loop (Oh CC t (K:Int) (x:Int) (y:Int) k1 k2 k3 k4 (K:Int) l1 l2 l3 l4 l5 l6 l7 l8) (0,dq K R0)=
  some ((K:Int),false,dq K (fun x' z=>R0 x' z∨x'=x∧∃s,s<K∧mul s y=z)):=by
 have e0:dq K R0=dq K fun x' z=>R0 x' z∨x'=x∧∃s,s<0∧mul s y=z:=uX fun x' y _ _=>⟨.inl,fun h=>h.resolve_right fun⟨_,s,hs,_⟩=>by omega⟩
 have key:=gp (step:=Oh CC t (K:Int) (x:Int) (y:Int) k1 k2 k3 k4 (K:Int) l1 l2 l3 l4 l5 l6 l7 l8) K (fun i=>((i:Int),dq K (fun x' z=>R0 x' z∨x'=x∧∃s,s<i∧mul s y=z)))
  ((K:Int),false,dq K (fun x' z=>R0 x' z∨x'=x∧∃s,s<K∧mul s y=z)) (fun i hi=> ?_) ?_
 ·rw[←e0]at key;exact key
 ·have hz:=hm _ _ hi hy;simp only[Oh,Og,un];refine bT (cF hi) ((aU (oz hx)).trans (bs (EV ht hi) (bs (oy hy) (bs (tn (oz hx)) (bT (by rw[V.fa,fi];exact qj hz) (bs (tn (oz hx)) (bs (by rw[V.fa];exact dH hz) ?_)))))));simp only[aG,Int.toNat_natCast,V.fa,show(nV (mul i y)).toInt=((mul i y:Nat):Int)from rfl];rw[UC (oz hx),adg hx hz,bY (by omega)];refine congrArg (fun l=>some (Sum.inl (((i+1:Nat):Int),l))) (uX fun x' z _ _=> ?_);constructor
  ·rintro((h|⟨h,s,hs,e⟩)|⟨h,e⟩)
   ·exact .inl h
   ·exact .inr ⟨h,s,by omega,e⟩
   ·exact .inr ⟨h,i,by omega,e.symm⟩
  ·rintro(h|⟨h,s,hs,e⟩)
   ·exact .inl (.inl h)
   ·rcases fR s i with q|q
    ·exact .inl (.inr ⟨h,s,q,e⟩)
    ·exact .inr ⟨h,by rw[←e,show s=i by omega]⟩
 ·simp only[Oh,Og,un];exact bF (cf (aR _)) (by rw[cf (aR _)])
theorem aBF{x:Nat}(hx:x<K){R7 R0:Nat→Nat→Prop}{k1 k2:Int}{l1 l2 l3 l4 l5 l6 l7:LV}:Loop (Oj CC t (K:Int) (x:Int) k1 k2 (K:Int) l1 l2 l3 l4 (dq K R7) l5 l6 l7) (0,dq K R0)=
  some ((K:Int),false,dq K (fun x' z=>R0 x' z∨x'=x∧∃y,y<K∧R7 x y∧∃s,s<K∧mul s y=z)):=by
 have e0:dq K R0=dq K fun x' z=>R0 x' z∨x'=x∧∃y,y<0∧R7 x y∧∃s,s<K∧mul s y=z:=uX fun x' y _ _=>⟨.inl,fun h=>h.resolve_right fun⟨_,s,hs,_⟩=>by omega⟩
 have key:=gp (step:=Oj CC t (K:Int) (x:Int) k1 k2 (K:Int) l1 l2 l3 l4 (dq K R7) l5 l6 l7) K (fun i=>((i:Int),dq K (fun x' z=>R0 x' z∨x'=x∧∃y,y<i∧R7 x y∧∃s,s<K∧mul s y=z)))
  ((K:Int),false,dq K (fun x' z=>R0 x' z∨x'=x∧∃y,y<K∧R7 x y∧∃s,s<K∧mul s y=z)) (fun i hi=> ?_) ?_
 ·rw[←e0]at key;exact key
 ·simp only[Oj,Oi,un];refine bT (cF hi) ((aU (oz hx)).trans (bs (tn (oz hx)) (bT (by rw[V.fa,fi];exact qj hi) (bs (tn (oz hx)) (bs (by rw[V.fa,Int.toNat_natCast];exact dH hi) ?_)))));by_cases c:R7 x i
  ·refine bF (by show(!rB R7 x i)=false;rw[lF c];rfl) (bs (aBE ht hm hK hx hi) ?_);simp only[un];rw[bY (by omega)];refine congrArg (fun l=>some (Sum.inl (((i+1:Nat):Int),l))) (uX fun x' z _ _=> ?_);constructor
   ·rintro((h|⟨h,s,hs,e⟩)|⟨h,e⟩)
    ·exact .inl h
    ·exact .inr ⟨h,s,by omega,e⟩
    ·exact .inr ⟨h,i,by omega,c,e⟩
   ·rintro(h|⟨h,s,hs,e⟩)
    ·exact .inl (.inl h)
    ·rcases fR s i with q|q
     ·exact .inl (.inr ⟨h,s,q,e⟩)
     ·rw[show s=i by omega]at e;exact .inr ⟨h,e.2⟩
  ·refine bT (by show(!rB R7 x i)=true;rw[oV c];rfl) ?_;rw[bY (by omega)];refine congrArg (fun l=>some (Sum.inl (((i+1:Nat):Int),l))) (uX fun x' z _ _=>yR Iff.rfl (yS Iff.rfl ⟨fun⟨y,hy,h⟩=>⟨y,by omega,h⟩,fun⟨y,hy,h⟩=>⟨y,?_,h⟩⟩));rcases fR y i with q|q
   ·exact q
   ·exact absurd h.1 (by rw[show y=i by omega];exact c)
 ·simp only[Oj,Oi,un];exact bF (cf (aR _)) (by rw[cf (aR _)])
noncomputable def iT(R:Nat→Nat→Prop)(x j:Nat):Nat:=((List.range j).filter fun y=>rB R x y).length
omit ht hm hK in
theorem aBG{R:Nat→Nat→Prop}{x j:Nat}:iT R x j≤j:=lR (List.length_filter_le _ _) (by simp)
omit ht hm hK in
theorem ana{R:Nat→Nat→Prop}{x j:Nat}:iT R x (j+1)=iT R x j+if rB R x j=true then 1 else 0:=by
 unfold iT;rw[Fy,List.filter_append,kG];cases h:rB R x j<;>simp[h]
omit ht hm in
theorem aBH{x:Nat}(hx:x<K){R:Nat→Nat→Prop}{g:Nat→Nat}(hg:g x=0){k1 k2:Int}{l1 l2 l3 l4 l5 l6 l7 t:LV}:Loop (Om CC t (K:Int) (x:Int) k1 k2 x (K:Int) (dq K R) l1 l2 l3 l4 l5 l6 l7) (0,tab K fun j=>nV (g j))=
  some ((K:Int),false,tab K fun j=>nV (if j=x then iT R x K else g j)):=by
 have e0:(tab K fun j=>nV (g j))=tab K fun j=>nV (if j=x then iT R x 0 else g j):=dA fun j _=>by
  by_cases c:j=x
  ·rw[aP c,c,hg];rfl
  ·rw[aM c]
 have key:=gp (step:=Om CC t (K:Int) (x:Int) k1 k2 x (K:Int) (dq K R) l1 l2 l3 l4 l5 l6 l7) K (fun i=>((i:Int),tab K fun j=>nV (if j=x then iT R x i else g j)))
  ((K:Int),false,tab K fun j=>nV (if j=x then iT R x K else g j)) (fun i hi=> ?_) ?_
 ·rw[←e0]at key;exact key
 ·have hc:iT R x i≤i:=aBG;have pX:(tab K fun j=>nV (if j=x then iT R x i else g j))[x]? =some (nV (iT R x i)):=by rw[dH hx,aP rfl]
  simp only[Om,Ol,un];refine bT (cF hi) (bs (tn (oz hx)) (bT (by rw[V.fa,fi];exact qj hi) (bs (tn (oz hx)) (bs (by rw[V.fa,Int.toNat_natCast];exact dH hi) ?_))));rw[bY (by omega)];cases hb:rB R x i with
  |true=>
   refine bT rfl ((aU pX).trans ((aU pX).trans ?_));simp only[aG,Int.toNat_natCast,show(nV (iT R x i)).toInt=((iT R x i:Nat):Int)from rfl];rw[bY (by omega),show vI ((iT R x i+1:Nat):Int)=nV (iT R x i+1)from rfl,jf];refine congrArg (fun l=>some (Sum.inl (((i+1:Nat):Int),l))) (dA fun j _=> ?_);by_cases c:j=x
   ·rw[aP c,aP c,ana,aP hb]
   ·rw[aM c,aM c,aM c]
  |false=>
   refine bF rfl ?_;refine congrArg (fun l=>some (Sum.inl (((i+1:Nat):Int),l))) (dA fun j _=> ?_);simp[ana,hb]
 ·simp only[Om,Ol,un];exact bF (cf (aR _)) (by rw[cf (aR _)])
end
def jY(m:Da)(w:List Nat):List Nat:=w.foldl (b8 m.gT) (List.range m.n)
def vl(m:Da)(S:List (List Nat))(w:List Nat):Nat:=jH S (jY m w)
section
variable {m:Da}(hm:m.Ok)
include hm
theorem anb:∀(w:List Nat) {f:List Nat},Tr m.n f→WL m.L w→Tr m.n (w.foldl (b8 m.gT) f)
 | [],_,hf,_=>hf
 |x::w,f,hf,hw=>anb w (f:=b8 m.gT f x) (hf.comp (hm.gT hw.head)) hw.tail
theorem adh{w:List Nat}(hw:WL m.L w):Tr m.n (jY m w):=anb hm w MP hw
theorem aBI:∀(w:List Nat) {f:List Nat},Tr m.n f→WL m.L w→w.foldl (b8 m.gT) f=comp f (jY m w):=by
 intro w
 induction w with
 |nil=>exact fun {f} hf _=>(comp_id hf).symm
 |cons x w ih=>
  intro f hf hw;have h1:=hm.gT hw.head;have e1:jY m (x::w)=comp (m.gT x) (jY m w):=by
   show w.foldl (b8 m.gT) (b8 m.gT (List.range m.n) x)=_;rw[ih (f:=b8 m.gT (List.range m.n) x) (MP.comp h1) hw.tail,amd (L:=m.L) (fun x hx=>hm.gT hx) hw.head]
  rw[e1,←acw hf h1];exact ih (hf.comp h1) hw.tail
theorem anc{u v:List Nat}(hu:WL m.L u)(hv:WL m.L v):jY m (u++v)=comp (jY m u) (jY m v):=by
 unfold jY;rw[Fx];exact aBI hm v (adh hm hu) hv
theorem ane:∀(w:List Nat) {f:List Nat} {q:Nat},Tr m.n f→q<m.n→WL m.L w→(w.foldl (b8 m.gT) f).getD q 0=m.run (f.getD q 0) w
 | [],_,_,_,_,_=>rfl
 |x::w,f,q,hf,hq,hw=>by
  have h1:=hm.gT hw.head;rw[List.foldl_cons,ane w (f:=b8 m.gT f x) (hf.comp h1) hq hw.tail,Da.ak7];refine congrArg (fun p=>m.run p w) ?_;have eC:q<f.length:=by rw[hf.1];exact hq
  have h2:=hf.at eC;unfold b8 comp;rw[getD_map (k:=fun i=>(m.gT x).getD i 0) eC,dK eC,Da.gT,getD_map (by grind),dK (l:=List.range m.n) (by grind),P4]
theorem EW{w:List Nat}{q:Nat}(hq:q<m.n)(hw:WL m.L w):(jY m w).getD q 0=m.run q w:=by
 unfold jY;rw[ane hm w MP hq hw,dK (by grind),P4]
theorem aBJ{u v:List Nat}(hu:WL m.L u)(hv:WL m.L v):jY m u=jY m v↔∀q,q<m.n→m.run q u=m.run q v:=by
 constructor
 ·intro e q hq;rw[←EW hm hq hu,←EW hm hq hv,e]
 ·intro h;have h1:=adh hm hu;have h2:=adh hm hv;refine yQ (h1.1.trans h2.1.symm) fun i a b=> ?_;have hi:i<m.n:=by rw[←h1.1];exact a
  rw[←dK (d:=0) a,←dK (d:=0) b,EW hm hi hu,EW hm hi hv,h i hi]
section
variable {S:List (List Nat)}(hS:wj m S)
include hS
omit hm in
theorem anf:∀(w:List Nat) {f:List Nat},f∈S→WL m.L w→w.foldl (b8 m.gT) f∈S
 | [],_,hf,_=>hf
 |x::w,f,hf,hw=>anf w (hS.cl f hf x hw.head) hw.tail
omit hm in
theorem adi:List.range m.n∈S:=by
 rw[←hS.HR,dK hS.pos];exact fx _
omit hm in
theorem ang{w:List Nat}(hw:WL m.L w):jY m w∈S:=anf hS w (adi hS) hw
omit hm in
theorem Cl{w:List Nat}(hw:WL m.L w):vl m S w<S.length:=wa (ang hS hw)
omit hm in
theorem Ap{w:List Nat}(hw:WL m.L w):S.getD (vl m S w) []=jY m w:=by
 rw[dK (Cl hS hw)];exact abU (ang hS hw)
omit hm in
theorem Aq{i:Nat}(hi:i<S.length):∃w,WL m.L w∧vl m S w=i:=by
 obtain⟨w,hw,e⟩:=hS.re i hi;refine⟨w,hw,?_⟩;unfold vl jY;rw[←e,dK hi];exact abV hS.nd hi
omit hm in
theorem adj:vl m S []=0:=by
 unfold vl;show jH S (List.range m.n)=0;rw[←hS.HR,dK hS.pos];exact abV hS.nd hS.pos
theorem yq{u v:List Nat}(hu:WL m.L u)(hv:WL m.L v):eH S (vl m S u) (vl m S v)=vl m S (u++v):=by
 unfold eH;rw[Ap hS hu,Ap hS hv,←anc hm hu hv];rfl
omit hm hS in
theorem aBK{w:List Nat}{x:Nat}(hx:x<m.L):(fM m.L m.gT S (jY m w)).getD x 0=vl m S (w++[x]):=by
 unfold fM vl jY;rw[getD_map (by simpa using hx),dK (by simpa using hx),P4,Fx];rfl
theorem H6{i j:Nat}(hi:i<S.length)(hj:j<S.length):eH S i j<S.length:=by
 obtain⟨u,hu,rfl⟩:=Aq hS hi;obtain⟨v,hv,rfl⟩:=Aq hS hj;rw[yq hm hS hu hv];exact Cl hS (WL.app.2 ⟨hu,hv⟩)
theorem aBL{i j k:Nat}(hi:i<S.length)(hj:j<S.length)(hk:k<S.length):eH S (eH S i j) k=eH S i (eH S j k):=by
 obtain⟨u,hu,rfl⟩:=Aq hS hi;obtain⟨v,hv,rfl⟩:=Aq hS hj;obtain⟨w,hw,rfl⟩:=Aq hS hk;rw[yq hm hS hu hv,yq hm hS hv hw,yq hm hS (WL.app.2 ⟨hu,hv⟩) hw,yq hm hS hu (WL.app.2 ⟨hv,hw⟩),kH]
end
end
def nD(m:Da)(S:List (List Nat)):Da:=⟨m.L,0,tab S.length fun i=>m.fin ((S.getD i []).getD m.st 0),tab S.length fun i=>fM m.L m.gT S (S.getD i [])⟩
section
variable {m:Da}(hm:m.Ok){S:List (List Nat)}(hS:wj m S)
theorem H7:(nD m S).n=S.length:=fi
theorem anh{i:Nat}(hi:i<S.length):(nD m S).fin i=m.fin ((S.getD i []).getD m.st 0):=Ew hi
theorem ani{i x:Nat}(hi:i<S.length)(hx:x<m.L):(nD m S).nx i x=jH S (b8 m.gT (S.getD i []) x):=by
 unfold Da.nx nD;simp only;rw[Ew hi];unfold fM;grind
include hm hS
theorem anj:(nD m S).Ok:=by
 refine⟨hm.l1,hm.l6,by rw[H7];exact fi,fun r hr=> ?_,by rw[H7];exact hS.pos,by rw[H7];have:=hS.le;omega⟩;obtain⟨i,hi,rfl⟩:=alo.1 hr;refine⟨by simp[fM,nD],fun q hq=> ?_⟩;obtain⟨x,hx,rfl⟩:=iZ.1 hq;rw[H7];exact wa (hS.cl _ (by grind) x (gM.1 hx))
omit hm in
theorem ank:∀(w:List Nat) {f:List Nat},f∈S→WL m.L w→(nD m S).run (jH S f) w=jH S (w.foldl (b8 m.gT) f)
 | [],_,_,_=>rfl
 |x::w,f,hf,hw=>by
  rw[Da.ak7,ani (wa hf) hw.head,dK (wa hf),abU hf];exact ank w (hS.cl f hf x hw.head) hw.tail
omit hm in
theorem aBM{w:List Nat}(hw:WL m.L w):(nD m S).run 0 w=vl m S w:=by
 have:=ank hS w (adi hS) hw;rwa [show jH S (List.range m.n)=0 from adj hS]at this
theorem aBN{w:List Nat}(hw:WL m.L w):(nD m S).acc (nD m S).st w=m.acc m.st w:=by
 show(nD m S).fin ((nD m S).run 0 w)=m.fin (m.run m.st w);rw[aBM hS hw,anh (Cl hS hw),Ap hS hw,EW hm hm.s hw]
end
theorem aBO{a:Da}(ha:a.Ok){S:List (List Nat)}(hS:wj (minD a) S):minD (nD (minD a) S)=minD a:=by
 have hm:=tt ha;refine(amM (anj hm hS) hm rfl fun w hw=>aBN hm hS hw).trans (azY ha)
theorem aBP{a b:Da}(ha:a.Ok)(hb:b.Ok)(e:minD a=minD b):CC 7 (iC a)=CC 7 (iC b):=by
 have A:∀z,EP CC (a.L:Int) (a.st:Int) a.gq a.ia=z→CC 7 (iC a)=z:=fun z h=>acy h;have B:∀z,EP CC (b.L:Int) (b.st:Int) b.gq b.ia=z→CC 7 (iC b)=z:=fun z h=>acy h;refine A _ (Eq.trans ?_ (B _ rfl).symm);unfold EP;refine bs (BQ ha) (bF rfl (bs (Ux ha) ?_));rw[e];exact(bs (BQ hb) (bF rfl (bs (Ux hb) rfl))).symm
noncomputable def Oq(C:af)(s1 s2:LV)(t12 t13:Int){β:Type}(kn:ay Int β)(kr:ay ((Bool) ⊕ (Int×Bool)) β):Option β:=
 bif decide (t13<t12)then
  (idx s1 t13).bind fun x1=>
  (idx s2 t13).bind fun x2=>
  bif (x1.toInt:Int) != x2.toInt then
  kr (.inl false)
  else
  kn (wrap .i64 (t13+1))
 else
  kr (.inr (t13,decide (t13<t12)))
noncomputable def adk(C:af)(s1 s2:LV)(t12:Int):=fun t13=>Oq C s1 s2 t12 t13 ct cu
noncomputable def aBQ(C:af):da:=cm 65 aaD [zJ,zJ,zJ,zK] [[0],[1,2,3,0,0]] (@Oq C) bS
theorem aBR(C:af):bt C (aBQ C) 60 (Lp [1,1,0,1,0,0] 60):=cj aaD [zJ,zJ,zJ,zK] [[0],[1,2,3,0,0]] (@Oq C) (aY ak)
noncomputable def anl(C:af)(s1 s2:LV):Option LV:=
 bif (s1.length:Int) != (s2.length:Int)then
  some [.bool false]
 else
  (Loop (adk C s1 s2 (s1.length:Int)) 0).bind (gZ (fun(fL:Bool)=>
   some [.bool fL]) (un fun(hZ:Int) (jV:Bool)=>
   some [.bool true]))
theorem aBS{s1 s2:LV}{r:Option LV}(h:anl CC s1 s2=r):CC 60 [ab s1,ab s2]=r:=bR (br (aBR CC) ak) h
noncomputable def Ot(C:af)(s1 s2:LV)(t12 t13:Int){β:Type}(kn:ay Int β)(kr:ay ((Bool) ⊕ (Int×Bool)) β):Option β:=
 bif decide (t13<t12)then
  (idx s1 t13).bind fun x1=>
  (idx s2 t13).bind fun x2=>
  bif !(x1.toBool==x2.toBool)then
  kr (.inl false)
  else
  kn (wrap .i64 (t13+1))
 else
  kr (.inr (t13,decide (t13<t12)))
noncomputable def adl(C:af)(s1 s2:LV)(t12:Int):=fun t13=>Ot C s1 s2 t12 t13 ct cu
noncomputable def aBT(C:af):da:=cm 65 aaF [zJ,zJ,zJ,zK] [[0],[1,2,3,0,0]] (@Ot C) bS
theorem aBU(C:af):bt C (aBT C) 62 (Lp [1,1,0,1,0,0] 62):=cj aaF [zJ,zJ,zJ,zK] [[0],[1,2,3,0,0]] (@Ot C) (aY ak)
noncomputable def anm(C:af)(s1 s2:LV):Option LV:=
 bif (s1.length:Int) != (s2.length:Int)then
  some [.bool false]
 else
  (Loop (adl C s1 s2 (s1.length:Int)) 0).bind (gZ (fun(fL:Bool)=>
   some [.bool fL]) (un fun(hZ:Int) (jV:Bool)=>
   some [.bool true]))
theorem aBV{s1 s2:LV}{r:Option LV}(h:anm CC s1 s2=r):CC 62 [au s1,au s2]=r:=bR (br (aBU CC) ak) h
noncomputable def Ou(C:af)(s1 s2:LV)(t12 t13:Int){β:Type}(kn:ay Int β)(kr:ay ((Bool) ⊕ (Int×Bool)) β):Option β:=
 bif decide (t13<t12)then
  (idx s1 t13).bind fun x1=>
  (idx s2 t13).bind fun x2=>
  bif !(x1.toStr==x2.toStr)then
  kr (.inl false)
  else
  kn (wrap .i64 (t13+1))
 else
  kr (.inr (t13,decide (t13<t12)))
noncomputable def adm(C:af)(s1 s2:LV)(t12:Int):=fun t13=>Ou C s1 s2 t12 t13 ct cu
noncomputable def aBW(C:af):da:=cm 65 aaE [zJ,zJ,zJ,zK] [[0],[1,2,3,0,0]] (@Ou C) bS
theorem aBX(C:af):bt C (aBW C) 61 (Lp [1,1,0,1,0,0] 61):=cj aaE [zJ,zJ,zJ,zK] [[0],[1,2,3,0,0]] (@Ou C) (aY ak)
noncomputable def ano(C:af)(s1 s2:LV):Option LV:=
 bif (s1.length:Int) != (s2.length:Int)then
  some [.bool false]
 else
  (Loop (adm C s1 s2 (s1.length:Int)) 0).bind (gZ (fun(fL:Bool)=>
   some [.bool fL]) (un fun(hZ:Int) (jV:Bool)=>
   some [.bool true]))
theorem aBY{s1 s2:LV}{r:Option LV}(h:ano CC s1 s2=r):CC 61 [cq s1,cq s2]=r:=bR (br (aBX CC) ak) h
noncomputable def Ov(C:af)(n:Int)(t7:LV)(t8 t9:Int){β:Type}(kn:ay Int β)(kr:ay ((Bool) ⊕ (Int×Bool)) β):Option β:=
 bif decide (t9<t8)then
  (idx t7 t9).bind fun x1=>
  bif decide ((x1.toInt:Int)<0)then
  kr (.inl false)
  else
  bif decide ((x1.toInt:Int)≥n)then
   kr (.inl false)
  else
   kn (wrap .i64 (t9+1))
 else
  kr (.inr (t9,decide (t9<t8)))
noncomputable def adn(C:af)(n:Int)(t7:LV)(t8:Int):=fun t9=>Ov C n t7 t8 t9 ct cu
noncomputable def aBZ(C:af):da:=cm 33 aa8 [zJ,zJ,zJ,zK] [[0],[1,2,3,0,0]] (@Ov C) bS
theorem aB0(C:af):bt C (aBZ C) 108 (Lp [1,0,1,0,0] 108):=cj aa8 [zJ,zJ,zJ,zK] [[0],[1,2,3,0,0]] (@Ov C) (aY ak)
noncomputable def anp(C:af)(list:LV)(n:Int):Option LV:=
 (Loop (adn C n list (list.length:Int)) 0).bind (gZ (fun(lA:Bool)=>
  some [.bool lA]) (un fun(fL:Int) (hZ:Bool)=>
  some [.bool true]))
theorem aB1{list:LV}{n:Int}{r:Option LV}(h:anp CC list n=r):CC 108 [ab list,vI n]=r:=bR (br (aB0 CC) ak) h
noncomputable def Ow(C:af)(n:Int)(t53:LV)(t54 ku:Int)(kV mV mf mW mX:LV)(t55:Int){β:Type}(kn:ay Int β)(kr:ay ((Bool) ⊕ (Int×Bool)) β):Option β:=
 bif decide (t55<t54)then
  (idx t53 t55).bind fun x1=>
  bif (x1.toList.length:Int) != n then
  kr (.inl false)
  else
  (C 108 [ab x1.toList,vI n]).bind fun r2=>
  bif !(gB r2)then
   kr (.inl false)
  else
   kn (wrap .i64 (t55+1))
 else
  kr (.inr (t55,decide (t55<t54)))
noncomputable def ado(C:af)(n:Int)(t53:LV)(t54 ku:Int)(kV mV mf mW mX:LV):=fun t55=>Ow C n t53 t54 ku kV mV mf mW mX t55 ct cu
noncomputable def aB2(C:af):da:=cm 113 aaA (aN 10 8) [[0],[1,2,3,0,0,5,6,7,8,9,10]] (@Ow C) bS
theorem aB3(C:af):bt C (aB2 C) 58 (Lp [1,1,1,1,0,1,0,0] 58):=cj aaA (aN 10 8) [[0],[1,2,3,0,0,5,6,7,8,9,10]] (@Ow C) (aY ak)
noncomputable def anq(C:af)(gu:Int)(dN iU iG gx iW:LV):Option LV:=
 bif decide (gu<1)then
  some [.bool false]
 else
  bif decide (gu>6)then
  some [.bool false]
  else
  bif decide ((dN.length:Int)<1)then
   some [.bool false]
  else
   bif decide ((dN.length:Int)>400)then
   some [.bool false]
   else
   bif (iU.length:Int) != (dN.length:Int)then
    some [.bool false]
   else
    bif (gx.length:Int) != (dN.length:Int)then
    some [.bool false]
    else
    bif (iW.length:Int) != (dN.length:Int)then
     some [.bool false]
    else
     bif (iG.length:Int) != gu then
     some [.bool false]
     else
     (Loop (ado C (dN.length:Int) dN (dN.length:Int) gu dN iU iG gx iW) 0).bind (gZ (fun(fL:Bool)=>
      some [.bool fL]) (un fun(hZ:Int) (jV:Bool)=>
      (C 108 [ab iG,vI (dN.length:Int)]).bind fun r6=>
      some [.bool (gB r6)]))
theorem aB4{gu:Int}{dN iU iG gx iW:LV}{r:Option LV}(h:anq CC gu dN iU iG gx iW=r):CC 58 [vI gu,aq dN,cq iU,ab iG,au gx,au iW]=r:=bR (br (aB3 CC) ak) h
noncomputable def Ox(C:af)(x:Int)(row t19:LV)(t20 t21:Int)(t34:LV)(t35 ku:Int)(kV mV mf mW mX:LV)(kj km cD cJ:Int)(aj aS aw:LV)(t36:Int)(aC:LV){β:Type}(kn:ay (Int×LV) β)(kr:ay (Int×Bool×LV) β):Option β:=
 bif decide (t36<t35)then
  (idx t34 t36).bind fun x3=>
  aL aC x fun x4=>
  (idx row x3.toInt).bind fun x5=>
  (ec Tryz.prog 22 aC [(x.toNat,0)]).bind fun x6=>
  bif (decide (0≤t36))&&(decide (t36<(x6.toList.length:Int)))then
  (ec Tryz.prog 22 aC [(x.toNat,0)]).bind fun x7=>
  (x7.toList[t36.toNat]?).bind fun x8=>
  kn (wrap .i64 (t36+1),setRow Tryz.prog (aG x7.toList t36 (vI x5.toInt)) 22 aC [(x.toNat,0)])
  else none
 else
  kr (t36,decide (t36<t35),aC)
noncomputable def Vd(C:af)(x:Int)(row t19:LV)(t20 t21:Int)(t34:LV)(t35 ku:Int)(kV mV mf mW mX:LV)(kj km cD cJ:Int)(aj aS aw:LV):=un fun t36 aC=>Ox C x row t19 t20 t21 t34 t35 ku kV mV mf mW mX kj km cD cJ aj aS aw t36 aC ct cu
noncomputable def Oy(C:af)(t19:LV)(t20 ku:Int)(kV mV mf mW mX:LV)(kj km cD cJ:Int)(aj aS aw:LV)(t21:Int)(aC:LV){β:Type}(kn:ay (Int×LV) β)(kr:ay (Int×Bool×LV) β):Option β:=
 bif decide (t21<t20)then
  (idx t19 t21).bind fun x1=>
  bif (decide (0≤ku))&&((decide (ku≤ku))&&(Nat.ble ((ku.toNat)*8) bf))then
  aL aC t21 fun x2=>
  (Loop (Vd C t21 x1.toList t19 t20 t21 mf (mf.length:Int) ku kV mV mf mW mX kj km cD cJ aj aS aw) (0,aG aC t21 (ab (List.replicate (ku.toNat) (vI 0))))).bind (un fun uI=>un fun(z9:Bool) (zX:LV)=>
   kn (wrap .i64 (t21+1),zX))
  else none
 else
  kr (t21,decide (t21<t20),aC)
noncomputable def adp(C:af)(t19:LV)(t20 ku:Int)(kV mV mf mW mX:LV)(kj km cD cJ:Int)(aj aS aw:LV):=un fun t21 aC=>Oy C t19 t20 ku kV mV mf mW mX kj km cD cJ aj aS aw t21 aC ct cu
noncomputable def anr(C:af):da:=cm 113 aaB (aN 22 2097280) [[1,2,3,4,5,6,7,0,0,9,10,11,12,13,14,15,16,17,18,19,20,21,0]] (@Ox C) (cm 49 aaC (aN 17 65540) [[1,2,0,0,4,5,6,7,8,9,10,11,12,13,14,15,16,0]] (@Oy C) bS)
theorem aB5(C:af):bt C (anr C) 59 (Lp [1,1,0,1,0,0,1,1,0,0,1,1,1,0,0] 59):=cj aaB (aN 22 2097280) [[1,2,3,4,5,6,7,0,0,9,10,11,12,13,14,15,16,17,18,19,20,21,0]] (@Ox C) (aY ak)
theorem aB6(C:af):bt C (anr C) 59 (Lp [1,1,0,1,0,0] 59):=cj aaC (aN 17 65540) [[1,2,0,0,4,5,6,7,8,9,10,11,12,13,14,15,16,0]] (@Oy C) (aY (br (aB5 C) ak))
noncomputable def ans(C:af)(gu:Int)(dN iU iG gx iW:LV):Option LV:=
 bif Nat.ble (gx.length*1) bf then
  bif (decide (0≤(dN.length:Int)))&&((decide ((dN.length:Int)≤(dN.length:Int)))&&(Nat.ble (((dN.length:Int).toNat)*24) bf))then
  (Loop (adp C dN (dN.length:Int) gu dN iU iG gx iW 0 0 gu 0 ([]:LV) ([]:LV) gx) (0,List.replicate ((dN.length:Int).toNat) (ab ([]:LV)))).bind (un fun Uw=>un fun(Er:Bool) (rX:LV)=>
   some [vI gu,vI 0,au gx,aq rX])
  else none
 else none
theorem aB7{gu:Int}{dN iU iG gx iW:LV}{r:Option LV}(h:ans CC gu dN iU iG gx iW=r):CC 59 [vI gu,aq dN,cq iU,ab iG,au gx,au iW]=r:=bR (br (aB6 CC) ak) h
noncomputable def Oz(C:af)(t28:LV)(t29 ku:Int)(kV mV mf mW mX:LV)(uL:Int)(uM Ai yl ant anu:LV)(t30:Int){β:Type}(kn:ay Int β)(kr:ay ((Int) ⊕ (Int×Bool)) β):Option β:=
 bif decide (t30<t29)then
  (idx t28 t30).bind fun x4=>
  (idx kV t30).bind fun x5=>
  (C 60 [ab x4.toList,ab x5.toList]).bind fun r6=>
  bif !(gB r6)then
  kr (.inl 8)
  else
  kn (wrap .i64 (t30+1))
 else
  kr (.inr (t30,decide (t30<t29)))
noncomputable def Ve(C:af)(t28:LV)(t29 ku:Int)(kV mV mf mW mX:LV)(uL:Int)(uM Ai yl ant anu:LV):=fun t30=>Oz C t28 t29 ku kV mV mf mW mX uL uM Ai yl ant anu t30 ct cu
noncomputable def aB8(C:af):da:=cm 113 ZK (aN 15 4) [[0],[1,2,0,0,4,5,6,7,8,9,10,11,12,13,14,15]] (@Oz C) bS
theorem aB9(C:af):bt C (aB8 C) 23 (Lp [1,1,1,1,0,1,0,0] 23):=cj ZK (aN 15 4) [[0],[1,2,0,0,4,5,6,7,8,9,10,11,12,13,14,15]] (@Oz C) (aY ak)
noncomputable def adq(C:af)(gu:Int)(dN iU iG gx iW:LV):Option LV:=
 (C 58 [vI gu,aq dN,cq iU,ab iG,au gx,au iW]).bind fun r1=>
 bif !(gB r1)then
  some [vI 8]
 else
  (C 59 [vI gu,aq dN,cq iU,ab iG,au gx,au iW]).bind fun r2=>
  (C 7 (D7 r2 [])).bind fun r3=>
  bif ((gI (r3.drop 6)):Int) != 0 then
  some [vI 8]
  else
  bif (((dw r3).length:Int):Int) != (dN.length:Int)then
   some [vI 8]
  else
   (Loop (Ve C (dw r3) ((dw r3).length:Int) gu dN iU iG gx iW (gI r3) (dw r3) (jT r3) (jr r3) (oq r3) (qR r3)) 0).bind (gZ (fun v7=>
    some [vI v7]) (un fun(BO:Int) (uI:Bool)=>
    (C 61 [cq (jT r3),cq iU]).bind fun EX=>
    bif !(gB EX)then
    some [vI 8]
    else
    (C 60 [ab (jr r3),ab iG]).bind fun jg=>
    bif !(gB jg)then
     some [vI 8]
    else
     (C 62 [au (oq r3),au gx]).bind fun EY=>
     bif !(gB EY)then
     some [vI 8]
     else
     (C 62 [au (qR r3),au iW]).bind fun jL=>
     bif !(gB jL)then
      some [vI 8]
     else
      some [vI 0]))
theorem aCa{gu:Int}{dN iU iG gx iW:LV}{r:Option LV}(h:adq CC gu dN iU iG gx iW=r):CC 23 [vI gu,aq dN,cq iU,ab iG,au gx,au iW]=r:=bR (br (aB9 CC) ak) h
section
variable {l:LV}(hl:l.length≤1000000)
include hl
theorem anv:CC 60 [ab l,ab l]=some [.bool true]:=by
 refine aBS ?_;unfold anl;refine bF (by simp) (bs (gp l.length (fun i=>(i:Int)) (.inr ((l.length:Int),false)) (fun i hi=> ?_) ?_) rfl)
 ·simp only[adk,Oq];have e:=Yq l i;rw[cv hi]at e;refine bT (cF hi) (bs e (bs e (bF (by simp) ?_)));rw[bY (by omega)]
 ·simp only[adk,Oq];grind
theorem anw:CC 62 [au l,au l]=some [.bool true]:=by
 refine aBV ?_;unfold anm;refine bF (by simp) (bs (gp l.length (fun i=>(i:Int)) (.inr ((l.length:Int),false)) (fun i hi=> ?_) ?_) rfl)
 ·simp only[adl,Ot];have e:=Yq l i;rw[cv hi]at e;refine bT (cF hi) (bs e (bs e (bF (by simp) ?_)));rw[bY (by omega)]
 ·simp only[adl,Ot];grind
theorem aCb:CC 61 [cq l,cq l]=some [.bool true]:=by
 refine aBY ?_;unfold ano;refine bF (by simp) (bs (gp l.length (fun i=>(i:Int)) (.inr ((l.length:Int),false)) (fun i hi=> ?_) ?_) rfl)
 ·simp only[adm,Ou];have e:=Yq l i;rw[cv hi]at e;refine bT (cF hi) (bs e (bs e (bF (by simp) ?_)));rw[bY (by omega)]
 ·simp only[adm,Ou];grind
end
theorem anx{l:List Nat}{n:Nat}(hl:l.length≤1000000)(h:∀y∈l,y<n):CC 108 [ab (nS l),vI (n:Int)]=some [.bool true]:=by
 refine aB1 ?_;unfold anp;rw[ff];refine bs (gp l.length (fun i=>(i:Int)) (.inr ((l.length:Int),false)) (fun i hi=> ?_) ?_) rfl
 ·simp only[adn,Ov];refine bT (cF hi) (bs (qk hi) (bF alV (bF (alU (h _ (fx hi))) ?_)));rw[bY (by omega)]
 ·simp only[adn,Ov];grind
section
variable {m:Da}(hm:m.Ok){S:List (List Nat)}(hS:wj m S)(f:Nat→List UInt8)
def tu(S:List (List Nat))(i:Nat):List Nat:=(List.range S.length).map fun j=>eH S i j
theorem aCc{i:Nat}:(tab S.length fun j=>nV (eH S i j))=nS (tu S i):=by unfold tu nS;rw[AE];rfl
theorem Vf{i:Nat}(hi:i<S.length):idx (lC S) (i:Int)=some (ab (nS (tu S i))):=by rw[←aCc];exact pC hi
include hm hS
theorem aCd{i:Nat}(hi:i<S.length):∀y∈tu S i,y<S.length:=fun y hy=>by
 obtain⟨j,hj,rfl⟩:=iZ.1 hy;exact H6 hm hS hi (gM.1 hj)
theorem aCe:CC 58 (ox m S f)=some [.bool true]:=by
 have h1:=hm.l1;have h6:=hm.l6;have hp:=hS.pos;have hle:=hS.le;have e1:(lC S).length=S.length:=fi;have e2:(mI m S).length=m.L:=by unfold mI;rw[ff,fM,dD,qx]
 have e3:(nA m S).length=S.length:=fi;have e4:(mH m.L m.gT S S.length).length=S.length:=fi;refine aB4 ?_;unfold anq;rw[e1,e2,e3,e4,fi];refine bF (cw (by omega)) (bF (cw (by omega)) (bF (cw (by omega)) (bF (cw (by omega)) (bF (by simp) (bF (by simp) (bF (by simp) (bF (by simp) ?_)))))));refine bs (gp S.length (fun i=>(i:Int)) (.inr ((S.length:Int),false)) (fun i hi=> ?_) ?_) ?_
 ·simp only[ado,Ow];refine bT (cF hi) (bs (Vf hi) ?_);rw[V.fa];have e5:(nS (tu S i)).length=S.length:=by rw[ff,tu,dD,qx]
  refine bF (by grind) (bs (anx (by rw[ff]at e5;omega) (aCd hm hS hi)) (bF rfl ?_));rw[bY (by omega)]
 ·simp only[ado,Ow];grind
 ·refine bs (anx (l:=fM m.L m.gT S (List.range m.n)) (by rw[fM,dD,qx];omega) fun y hy=> ?_) rfl;obtain⟨x,hx,rfl⟩:=iZ.1 hy;exact wa (hS.cl _ (adi hS) x (gM.1 hx))
omit hm hS in
theorem aCf{x:Nat}(hx:x<m.L):idx (mI m S) (x:Int)=some (nV (vl m S [x])):=by
 unfold mI;rw[qk (by rw[fM,dD,qx];exact hx)];simp[fM,vl,jY]
theorem aCg{i x:Nat}(hi:i<S.length)(hx:x<m.L):idx (nS (tu S i)) (vl m S [x]:Int)=some (nV (jH S (b8 m.gT (S.getD i []) x))):=by
 have oO:WL m.L [x]:=WL.nil.cons hx;have h1:=Cl hS oO;rw[qk (by rw[tu,dD,qx];exact h1)];obtain⟨w,hw,rfl⟩:=Aq hS hi;have:(tu S (vl m S w))[vl m S [x]]'(by rw[tu,dD,qx];exact h1)=eH S (vl m S w) (vl m S [x]):=by simp[tu]
 rw[this,yq hm hS hw oO,Ap hS hw];unfold vl jY;grind
theorem aCh:CC 59 (ox m S f)=some (iC (nD m S)):=by
 have h6:=hm.l6;have hle:=hS.le;have e1:(lC S).length=S.length:=fi;have e2:(mI m S).length=m.L:=by unfold mI;rw[ff,fM,dD,qx]
 have e3:(nA m S).length=S.length:=fi;refine aB7 ?_;unfold ans;rw[e1,e3];refine bT (cap (b:=0) (by omega) (by omega)) (bT (iB (by omega) (by omega)) ?_);rw[Int.toNat_natCast];have oM:∀{i:Nat},i<S.length→∀{k1 k2 k3 k4 k5 k6 k7:Int} {l1 l2 l3 l4 l5 l6 l7 l8 l9:LV} {a:LV},a.length=S.length→Loop (Vd CC (i:Int) (nS (tu S i)) l1 k1 k2 (mI m S) (m.L:Int) k3 l2 l3 l4 l5 l6 k4 k5 k6 k7 l7 l8 l9) (0,a.set i (ab (List.replicate m.L (vI 0))))=some ((m.L:Int),false,a.set i (td m.L ((nD m S).nx i))):=by
  intro i hi k1 k2 k3 k4 k5 k6 k7 l1 l2 l3 l4 l5 l6 l7 l8 l9 a ha;refine EC (fun x b=>((x:Int),a.set i (ab b))) m.L (fun x=>nV ((nD m S).nx i x)) _ (by simp) (fun b=>((m.L:Int),false,a.set i (ab b))) (fun x hx b hb=> ?_) ?_
  ·simp only[Vd,Ox,un,aL,aG,Int.toNat_natCast];have e0:(a.set i (ab b))[i]? =some (ab b):=yL (by omega);refine bT (cF hx) (bs (aCf hx) ((aU e0).trans (bs (aCg hm hS hi hx) (bs (tm e0) ?_))));rw[V.fa];refine bT (qj (by omega)) (bs (tm e0) ?_);rw[V.fa];refine bs (cv (by omega)) ?_;rw[Nu e0,List.set_set,bY (by omega),ani hi hx];rfl
  ·simp only[Vd,Ox,un];grind
 refine bs (EC (fun i a=>((i:Int),a)) S.length (fun i=>td m.L ((nD m S).nx i)) _ (by simp) (fun a=>((S.length:Int),false,a)) (fun i hi a ha=> ?_) ?_) ?_
 ·simp only[adp,Oy,un,aL,aG];refine bT (cF hi) (bs (Vf hi) (bT (iB (by omega) (by omega)) ((BR (by omega)).trans ?_)));rw[V.fa,e2,Int.toNat_natCast,Int.toNat_natCast];refine bs (oM hi ha) ?_;rw[bY (by omega)];rfl
 ·simp only[adp,Oy,un];grind
 ·have e5:nA m S=(nD m S).gq:=by
   unfold nA Da.gq;rw[H7];exact dA fun i hi=>by rw[anh hi]
  have e6:(tab S.length fun i=>td m.L ((nD m S).nx i))=(nD m S).ia:=by unfold Da.ia;rw[H7];rfl
  rw[e6,e5];rfl
end
section
variable {a:Da}(ha:a.Ok){S:List (List Nat)}{f:Nat→List UInt8}(hS:wj (minD a) S)(wv:CC 7 (iC a)=some (ox (minD a) S f++[vI 0]))
include ha hS wv
theorem OA:CC 23 (ox (minD a) S f)=some [vI 0]:=by
 have hm:=tt ha;have hle:=hS.le;have hL6:=hm.l6;have hO:CC 7 (iC (nD (minD a) S))=some (ox (minD a) S f++[vI 0]):=(aBP (anj hm hS) ha (aBO ha hS)).trans wv;have fin:∀z,adq CC ((minD a).L:Int) (lC S) (tab S.length fun j=> .str (f j)) (mI (minD a) S) (nA (minD a) S) (mH (minD a).L (minD a).gT S S.length)=z→CC 23 (ox (minD a) S f)=z:=fun z h=>aCa h;refine fin _ ?_;unfold adq;refine bs (aCe hm hS f) (bF rfl (bs (aCh hm hS f) (bs hO (bF rfl (bF (by simp[ox]) ?_)))));have e1:(lC S).length=S.length:=fi;refine bs (a:= .inr ((S.length:Int),false)) ?_ ?_
 ·show Loop (Ve CC (lC S) ((lC S).length:Int) _ _ _ _ _ _ _ _ _ _ _ _) 0=_;rw[e1];refine gp S.length (fun i=>(i:Int)) _ (fun i hi=> ?_) ?_
  ·simp only[Ve,Oz];refine bT (cF hi) (bs (Vf hi) (bs (Vf hi) (bs (anv (by rw[V.fa,ff,tu,dD,qx];omega)) (bF rfl ?_))));rw[bY (by omega)]
  ·simp only[Ve,Oz];grind
 ·have e2:(mI (minD a) S).length=(minD a).L:=by unfold mI;rw[ff,fM,dD,qx]
  refine bs (aCb (l:=tab S.length fun j=> .str (f j)) (by simp;omega)) (bF rfl (bs (anv (l:=mI (minD a) S) (by omega)) (bF rfl (bs (anw (l:=nA (minD a) S) (by simp[nA];omega)) (bF rfl (bs (anw (l:=mH (minD a).L (minD a).gT S S.length) (by simp[mH];omega)) (bF rfl rfl)))))))
end
noncomputable def OB(C:af)(x t10 t11 ku:Int)(kV mV mf mW mX:LV)(e:Int){β:Type}(kn:ay Int β)(kr:ay (Int×Bool) β):Option β:=
 (idx kV e).bind fun x2=>
 (idx x2.toList e).bind fun x3=>
 bif (x3.toInt:Int) != e then
  (idx kV e).bind fun x4=>
  (idx x4.toList x).bind fun x5=>
  kn x5.toInt
 else
  kr (e,(x3.toInt:Int) != e)
noncomputable def H8(C:af)(x t10 t11 ku:Int)(kV mV mf mW mX:LV):=fun e=>OB C x t10 t11 ku kV mV mf mW mX e ct cu
noncomputable def OC(C:af)(t10 ku:Int)(kV mV mf mW mX:LV)(t11:Int){β:Type}(kn:ay Int β)(kr:ay ((Bool) ⊕ (Int×Bool)) β):Option β:=
 bif decide (t11<t10)then
  (Loop (H8 C t11 t10 t11 ku kV mV mf mW mX) t11).bind (un fun(e_6:Int) (v7:Bool)=>
   (idx kV e_6).bind fun x8=>
   (idx x8.toList t11).bind fun x9=>
   bif (x9.toInt:Int) != e_6 then
   kr (.inl false)
   else
   kn (wrap .i64 (t11+1)))
 else
  kr (.inr (t11,decide (t11<t10)))
noncomputable def H9(C:af)(t10 ku:Int)(kV mV mf mW mX:LV):=fun t11=>OC C t10 ku kV mV mf mW mX t11 ct cu
noncomputable def anz(C:af):da:=cm 113 Zr (aN 10 2) [[1,0,3,4,0,5,6,7,8,9,10]] (@OB C) (cm 65 Zs (aN 8 2) [[0],[1,0,0,3,4,5,6,7,8]] (@OC C) bS)
theorem aCi(C:af):bt C (anz C) 9 (Lp [1,1,0,1,0,0,1,1,0,0,1,1,0,0,0] 9):=cj Zr (aN 10 2) [[1,0,3,4,0,5,6,7,8,9,10]] (@OB C) (aY ak)
theorem aCj(C:af):bt C (anz C) 9 (Lp [1,1,0,1,0,0] 9):=cj Zs (aN 8 2) [[0],[1,0,0,3,4,5,6,7,8]] (@OC C) (aY (br (aCi C) ak))
noncomputable def Vg(C:af)(gu:Int)(dN iU iG gx iW:LV):Option LV:=
 (C 23 [vI gu,aq dN,cq iU,ab iG,au gx,au iW]).bind fun r1=>
 bif ((gI r1):Int) != 0 then
  some [.bool false]
 else
  (Loop (H9 C (dN.length:Int) gu dN iU iG gx iW) 0).bind (gZ (fun(z9:Bool)=>
   some [.bool z9]) (un fun(Mg:Int) (Uw:Bool)=>
   some [.bool true]))
theorem aCk{gu:Int}{dN iU iG gx iW:LV}{r:Option LV}(h:Vg CC gu dN iU iG gx iW=r):CC 9 [vI gu,aq dN,cq iU,ab iG,au gx,au iW]=r:=bR (br (aCj CC) ak) h
section
variable {K:Nat}{mul:Nat→Nat→Nat}{t:LV}(ht:t=tab K fun i=>ab (tab K fun j=>nV (mul i j)))(M:Mn K mul)
include ht M
theorem aCl{x:Nat}(hx:x<K){k1 k2 k3:Int}{l2 l3 l4 l5:LV}:Loop (H8 CC (x:Int) k1 k2 k3 t l2 l3 l4 l5) (x:Int)=some (((pw mul x (eN-1):Nat):Int),false):=by
 have h:=M.tb;have ha:=M.ac;obtain⟨k,hk⟩:=aAe h ha hx;have stop:∀{i:Nat},mul (pw mul x i) (pw mul x i)=pw mul x i→Loop (H8 CC (x:Int) k1 k2 k3 t l2 l3 l4 l5) ((pw mul x i:Nat):Int)=some (((pw mul x (eN-1):Nat):Int),false):=fun {i} c=>by
  have hl:=oU h hx i;rw[←aAh h ha hx c];refine lS ?_;simp only[H8,OB];refine bs (EV ht hl) (bs (oy hl) (bF ?_ ?_))
  ·show(((mul (pw mul x i) (pw mul x i):Nat):Int) != ((pw mul x i:Nat):Int))=false;rw[c];simp
  ·show some (Sum.inr (((pw mul x i:Nat):Int),((mul (pw mul x i) (pw mul x i):Nat):Int) != ((pw mul x i:Nat):Int)))=_;rw[c];simp
 have key:∀d i,i+d=k→Loop (H8 CC (x:Int) k1 k2 k3 t l2 l3 l4 l5) ((pw mul x i:Nat):Int)=some (((pw mul x (eN-1):Nat):Int),false):=by
  intro d
  induction d with
  |zero=>intro i hi;obtain rfl:i=k:=hi;exact stop hk
  |succ d ih=>
   intro i hi;by_cases c:mul (pw mul x i) (pw mul x i)=pw mul x i
   ·exact stop c
   ·have hl:=oU h hx i;refine(kY ?_).trans (ih (i+1) (by omega))
    simp only[H8,OB];refine bs (EV ht hl) (bs (oy hl) (bT ?_ (bs (EV ht hl) (bs (oy hx) rfl))));show(((mul (pw mul x i) (pw mul x i):Nat):Int) != ((pw mul x i:Nat):Int))=true;simp;omega
 exact key k 0 (by omega)
theorem aCm{k3:Int}{l2 l3 l4 l5:LV}:(uW K mul∧Loop (H9 CC (K:Int) k3 t l2 l3 l4 l5) 0=some (.inr ((K:Int),false)))∨(¬uW K mul∧Loop (H9 CC (K:Int) k3 t l2 l3 l4 l5) 0=some (.inl false)):=by
 have h:=M.tb;have hk4:=h.k4;have key:=alp (step:=H9 CC (K:Int) k3 t l2 l3 l4 l5) (fun x=> !decide (mul (pw mul x (eN-1)) x=pw mul x (eN-1))) K (fun i=>(i:Int)) (fun _=> .inl false) (.inr ((K:Int),false)) (fun i hi=> ?_) ?_
 ·rcases key with⟨i,hi,hb,_,e⟩|⟨hb,e⟩
  ·refine .inr ⟨fun A=> ?_,e⟩;rw[bj (A i hi)]at hb;cases hb
  ·refine .inl ⟨fun x hx=> ?_,e⟩;have:=hb x hx;simpa using this
 ·have hl:=oU h hi (eN-1);simp only[H9,OC];refine bT (cF hi) (bs (aCl ht M hi) ?_);simp only[un];refine bs (EV ht hl) (bs (oy hi) ?_);by_cases c:mul (pw mul i (eN-1)) i=pw mul i (eN-1)
  ·rw[bj c];refine bF ?_ ?_
   ·show(((mul (pw mul i (eN-1)) i:Nat):Int) != ((pw mul i (eN-1):Nat):Int))=false;rw[c];simp
   ·rw[bY (by omega)];rfl
  ·rw[cw c];refine bT ?_ rfl;show(((mul (pw mul i (eN-1)) i:Nat):Int) != ((pw mul i (eN-1):Nat):Int))=true;simp;omega
 ·simp only[H9,OC];exact bF (cf (aR _)) (by rw[cf (aR _)])
end
section
variable {m:Da}(hm:m.Ok){S:List (List Nat)}(hS:wj m S)
include hm hS
theorem anA:Mn S.length (eH S):=by
 refine⟨⟨hS.pos,hS.le,fun _ _ hi hj=>H6 hm hS hi hj⟩,fun i j k hi hj hk=>aBL hm hS hi hj hk,fun j hj=> ?_⟩;obtain⟨w,hw,rfl⟩:=Aq hS hj;have e0:vl m S []=0:=adj hS;constructor
 ·rw[←e0,yq hm hS WL.nil hw];rfl
 ·rw[←e0,yq hm hS hw WL.nil,uZ]
theorem aCn:UY S.length (eH S) (WL m.L) (vl m S):=
 ⟨fun w hw=>Cl hS hw,adj hS,fun u v hu hv=>(yq hm hS hu hv).symm,fun u v=>WL.app⟩
end
section
variable {a:Da}(ha:a.Ok){S:List (List Nat)}(hS:wj (minD a) S){f:Nat→List UInt8}(wv:CC 7 (iC a)=some (ox (minD a) S f++[vI 0]))
include ha hS wv
theorem aCo:(uW S.length (eH S)∧CC 9 (ox (minD a) S f)=some [.bool true])∨(¬uW S.length (eH S)∧CC 9 (ox (minD a) S f)=some [.bool false]):=by
 have fin:∀z,Vg CC ((minD a).L:Int) (lC S) (tab S.length fun j=> .str (f j)) (mI (minD a) S) (nA (minD a) S) (mH (minD a).L (minD a).gT S S.length)=z→CC 9 (ox (minD a) S f)=z:=fun z h=>aCk h;have hl:(lC S).length=S.length:=fi;rcases aCm (t:=lC S) rfl (anA (tt ha) hS) (k3:=((minD a).L:Int)) (l2:=tab S.length fun j=> .str (f j)) (l3:=mI (minD a) S) (l4:=nA (minD a) S) (l5:=mH (minD a).L (minD a).gT S S.length)with⟨h1,h2⟩|⟨h1,h2⟩
 ·refine .inl ⟨h1,fin _ ?_⟩;unfold Vg;rw[hl];exact bs (OA ha hS wv) (bF rfl (bs h2 rfl))
 ·refine .inr ⟨h1,fin _ ?_⟩;unfold Vg;rw[hl];exact bs (OA ha hS wv) (bF rfl (bs h2 rfl))
end
theorem pL{a b n m k:Nat}(ha:a≤n)(hb:b≤m)(h:n*m≤k):a*b≤k:=lR (Fz ha hb) h
section
variable {c:BC}{L K:Nat}{mul:Nat→Nat→Nat}{im:Nat→Nat}(B:BK c L K mul im)
variable {cX:List Nd}{o:LV}{of:Nat→Nat}(kb:GV L cX)(ho:o=tab K fun i=>nV (of i)){m:Nat}(hm:m<K)
include B kb ho hm
theorem aCp{ns:List Nd}{k0:Nat}(x0:Xt L cX ns k0)(hn:ns.length≤700000){x:Nat}(hx:x<K)(mb:of x<cX.length){l:List Nat}(hl:l.length≤700000){Q:List Nat→Prop}(hQ:dR ns l Q){k1 k2:Int}{l1:LV}:
  ∃(l':List Nat) (ms:List Nd),Loop (NS CC (m:Int) c.t c.tw (x:Int) l1 k1 k2 c.im (L:Int)) (0,c.u2 ns o l)=some ((L:Int),false,c.u2 ms o l')∧Xt L ns ms (L*(4*L))∧l'.length≤l.length+L*L∧dR ms l' fun w=>Q w∨∃a,a<L∧∃b,b<L∧wm K mul im cX of m x a b w:=by
 have hL:=B.L6;have key:=gH (step:=NS CC (m:Int) c.t c.tw (x:Int) l1 k1 k2 c.im (L:Int)) (fun i (s:Int×Int×LV×LV×LV×LV×LV×LV×LV×LV×LV×LV×LV×LV×LV)=> ∃(l':List Nat) (ms:List Nd),s=((i:Int),c.u2 ms o l')∧Xt L ns ms (i*(4*L))∧l'.length≤l.length+i*L∧dR ms l' fun w=>Q w∨∃a,a<i∧∃b,b<L∧wm K mul im cX of m x a b w)
  (fun r=> ∃(l':List Nat) (ms:List Nd),r=((L:Int),false,c.u2 ms o l')∧Xt L ns ms (L*(4*L))∧l'.length≤l.length+L*L∧dR ms l' fun w=>Q w∨∃a,a<L∧∃b,b<L∧wm K mul im cX of m x a b w) L 0 (0,c.u2 ns o l)
  (fun i _ hi s hs=> ?_) (fun s hs=> ?_) ⟨l,ns,rfl,Xt.refl x0.v,by simp,hQ.same fun w=>⟨fun h=>h.resolve_right fun⟨b,hb,_⟩=>by omega,.inl⟩⟩
 ·obtain⟨r,e1,l',ms,rfl,h1,h2,h3⟩:=key;exact⟨l',ms,e1,h1,h2,h3⟩
 ·obtain⟨l',ms,rfl,h1,h2,h3⟩:=hs;rw[cL]at hi;have zs:=h1.l;have b1:i*(4*L)≤1000:=pL (n:=6) (m:=24) (by omega) (by omega) (by omega);have b2:i*L≤1000:=pL (n:=6) (m:=6) (by omega) (by omega) (by omega);obtain⟨l2,m2,e2,g1,g2,g3⟩:=aAV B kb ho hm (x0.trans h1) (by omega) hx mb hi (l:=l') (by omega) h3 (k1:=k1) (k2:=k2) (k3:=(L:Int)) (k4:=(i:Int)) (l1:=l1) (l2:=c.im);refine⟨(((i+1:Nat):Int),c.u2 m2 o l2),?_,l2,m2,rfl,(h1.trans g1).mono (Nat.le_of_eq (sy _ _).symm),by rw[sy];omega,g3.same fun w=> ?_⟩
  ·simp only[NS,NR,un,BC.u2];refine bT (cF hi) (bs (B.Cg hi) ?_);rw[B.U3];refine bs e2 ?_;rw[bY (by omega)];rfl
  ·constructor
   ·rintro(h|⟨a,ha,h⟩)
    ·exact .inl (.inl h)
    ·rcases fR a i with q|q
     ·exact .inl (.inr ⟨a,q,h⟩)
     ·rw[show a=i by omega]at h;exact .inr h
   ·rintro((h|⟨a,ha,h⟩)|h)
    ·exact .inl h
    ·exact .inr ⟨a,by omega,h⟩
    ·exact .inr ⟨i,by omega,h⟩
 ·rw[cL]at hs;obtain⟨l',ms,rfl,h1,h2,h3⟩:=hs;refine⟨((L:Int),false,c.u2 ms o l'),?_,l',ms,rfl,h1,h2,h3⟩;simp only[NS,NR,un,BC.u2];exact bF (cf (aR _)) (by rw[cf (aR _)])
theorem aCq{av:List Nat}(yr:∀x∈av,x<K∧of x<cX.length)(dr:av.length≤400){ns:List Nd}{k0:Nat}(x0:Xt L cX ns k0)(hn:ns.length≤600000){l:List Nat}(hl:l.length≤600000){Q:List Nat→Prop}(hQ:dR ns l Q):
  ∃(l':List Nat) (ms:List Nd),Loop (NU CC (m:Int) c.t c.tw (nS av) (av.length:Int)) (0,c.u2 ns o l)=some ((av.length:Int),false,c.u2 ms o l')∧Xt L ns ms (av.length*(L*(4*L)))∧l'.length≤l.length+av.length*(L*L)∧dR ms l' fun w=>Q w∨∃x,x∈av∧∃a,a<L∧∃b,b<L∧wm K mul im cX of m x a b w:=by
 have hL:=B.L6;have c1:L*(4*L)≤144:=pL (n:=6) (m:=24) (by omega) (by omega) (by omega);have c2:L*L≤36:=pL (n:=6) (m:=6) (by omega) (by omega) (by omega);have key:=gH (step:=NU CC (m:Int) c.t c.tw (nS av) (av.length:Int)) (fun i (s:Int×Int×LV×LV×LV×LV×LV×LV×LV×LV×LV×LV×LV×LV×LV)=> ∃(l':List Nat) (ms:List Nd),s=((i:Int),c.u2 ms o l')∧Xt L ns ms (i*(L*(4*L)))∧l'.length≤l.length+i*(L*L)∧dR ms l' fun w=>Q w∨∃x,x∈av.take i∧∃a,a<L∧∃b,b<L∧wm K mul im cX of m x a b w)
  (fun r=> ∃(l':List Nat) (ms:List Nd),r=((av.length:Int),false,c.u2 ms o l')∧Xt L ns ms (av.length*(L*(4*L)))∧l'.length≤l.length+av.length*(L*L)∧dR ms l' fun w=>Q w∨∃x,x∈av∧∃a,a<L∧∃b,b<L∧wm K mul im cX of m x a b w) av.length 0 (0,c.u2 ns o l)
  (fun i _ hi s hs=> ?_) (fun s hs=> ?_) ⟨l,ns,rfl,Xt.refl x0.v,by simp,hQ.same fun w=>⟨fun h=>h.resolve_right fun⟨b,hb,_⟩=>(by simp at hb),.inl⟩⟩
 ·obtain⟨r,e1,l',ms,rfl,h1,h2,h3⟩:=key;exact⟨l',ms,e1,h1,h2,h3⟩
 ·obtain⟨l',ms,rfl,h1,h2,h3⟩:=hs;rw[cL]at hi;have zs:=h1.l;have b1:i*(L*(4*L))≤57600:=pL (n:=400) (m:=144) (by omega) c1 (by omega);have b2:i*(L*L)≤14400:=pL (n:=400) (m:=36) (by omega) c2 (by omega);obtain⟨hx,mb⟩:=yr av[i] (fx hi);obtain⟨l2,m2,e2,g1,g2,g3⟩:=aCp B kb ho hm (x0.trans h1) (by omega) hx mb (l:=l') (by omega) h3 (k1:=(av.length:Int)) (k2:=(i:Int)) (l1:=nS av);refine⟨(((i+1:Nat):Int),c.u2 m2 o l2),?_,l2,m2,rfl,(h1.trans g1).mono (Nat.le_of_eq (sy _ _).symm),by rw[sy];omega,g3.same fun w=> ?_⟩
  ·simp only[NU,NT,un,BC.u2];refine bT (cF hi) (bs (qk hi) ?_);rw[B.U3];refine bs e2 ?_;rw[bY (by omega)];rfl
  ·rw[u9 hi];constructor
   ·rintro(h|⟨x,hx,h⟩)
    ·exact .inl (.inl h)
    ·rcases fQ.1 hx with q|q
     ·exact .inl (.inr ⟨x,q,h⟩)
     ·rw[iY.1 q]at h;exact .inr h
   ·rintro((h|⟨x,hx,h⟩)|h)
    ·exact .inl h
    ·exact .inr ⟨x,Fv _ hx,h⟩
    ·exact .inr ⟨av[i],Fu _ (iY.2 rfl),h⟩
 ·rw[cL]at hs;obtain⟨l',ms,rfl,h1,h2,h3⟩:=hs;refine⟨((av.length:Int),false,c.u2 ms o l'),?_,l',ms,rfl,h1,h2,h3.same fun w=>by rw[tH]⟩;simp only[NU,NT,un,BC.u2];exact bF (cf (aR _)) (by rw[cf (aR _)])
omit kb ho in
theorem aCr{ns:List Nd}(hv:GV L ns)(hn:ns.length≤600000){l1:LV}:
  ∃(l':List Nat) (ms:List Nd),Loop (H2 CC (m:Int) l1 c.t c.tw c.im (L:Int)) (0,c.u2 ns o [])=some ((L:Int),false,c.u2 ms o l')∧Xt L ns ms L∧l'.length≤L∧dR ms l' fun w=> ∃a,a<L∧¬Jr K mul (im a) m∧w=[a]:=by
 have hL:=B.L6;have key:=gH (step:=H2 CC (m:Int) l1 c.t c.tw c.im (L:Int)) (fun i (s:Int×Int×LV×LV×LV×LV×LV×LV×LV×LV×LV×LV×LV×LV×LV)=> ∃(l':List Nat) (ms:List Nd),s=((i:Int),c.u2 ms o l')∧Xt L ns ms i∧l'.length≤i∧dR ms l' fun w=> ∃a,a<i∧¬Jr K mul (im a) m∧w=[a])
  (fun r=> ∃(l':List Nat) (ms:List Nd),r=((L:Int),false,c.u2 ms o l')∧Xt L ns ms L∧l'.length≤L∧dR ms l' fun w=> ∃a,a<L∧¬Jr K mul (im a) m∧w=[a]) L 0 (0,c.u2 ns o [])
  (fun i _ hi s hs=> ?_) (fun s hs=> ?_) ⟨[],ns,rfl,Xt.refl hv,by simp,dR.nil fun w h=>by obtain⟨x,h,_⟩:=h;omega⟩
 ·obtain⟨r,e1,l',ms,rfl,h1,h2,h3⟩:=key;exact⟨l',ms,e1,h1,h2,h3⟩
 ·obtain⟨l,ms,rfl,h1,h2,h3⟩:=hs;rw[cL]at hi;have:=h1.l;have wo:=B.lI i hi;by_cases hq:Jr K mul (im i) m
  ·refine⟨(((i+1:Nat):Int),c.u2 ms o l),?_,l,ms,rfl,h1.mono (by omega),by omega,h3.same fun w=> ?_⟩
   ·simp only[H2,H0,un,BC.u2];refine bT (cF hi) (bs (B.Cg hi) (bs (by rw[B.eJ];exact jJ wo) (bs (jK hm) (bF (by show(!rB _ _ _)=false;rw[lF hq];rfl) ?_))));rw[bY (by omega)]
   ·exact⟨fun⟨x,a,b,d⟩=>⟨x,by rcases fR x i with h|h;exact h;exact absurd hq (by rwa [show x=i by omega]at b),b,d⟩,fun⟨x,a,b,d⟩=>⟨x,by omega,b,d⟩⟩
  ·obtain⟨j,pK,e,g1,g2,g3⟩:=HV (c:=c) (o:=o) h1.v (by omega) hL hi;refine⟨(((i+1:Nat):Int),c.u2 pK o (l++[j])),?_,l++[j],pK,rfl,h1.trans g1,by simp;omega,h3.add h1.v g1 g2 g3 fun w=> ?_⟩
   ·simp only[H2,H0,un,BC.u2];refine bT (cF hi) (bs (B.Cg hi) (bs (by rw[B.eJ];exact jJ wo) (bs (jK hm) (bT (by show(!rB _ _ _)=true;rw[oV hq];rfl) (bs e (bT (HZ (by omega)) ?_))))));rw[bY (by omega),←NN];rfl
   ·constructor
    ·rintro⟨x,a,b,d⟩;rcases fR x i with h|h
     ·exact .inl ⟨x,h,b,d⟩
     ·exact .inr (by rw[d,show x=i by omega])
    ·rintro(⟨x,a,b,d⟩|d)
     ·exact⟨x,by omega,b,d⟩
     ·exact⟨i,by omega,hq,d⟩
 ·rw[cL]at hs;obtain⟨l,ms,rfl,h1,h2,h3⟩:=hs;refine⟨((L:Int),false,c.u2 ms o l),?_,l,ms,rfl,h1,h2,h3⟩;simp only[H2,H0,un,BC.u2];exact bF (cf (aR _)) (by rw[cf (aR _)])
def BC.ol(c:BC)(ns:List Nd)(o:LV)(l:List Nat):LV:=[vI c.L,aq c.t,cq c.w,ab c.im,au c.ac,au c.pl,bd c.rt,bd c.lf,bd c.tw,ab c.od,fK (cO Nd.v 0 ns),ab o,ab (nS l),cz (ns.map Nd.v)]
theorem aCs{av:List Nat}(yr:∀x∈av,x<K∧of x<cX.length)(dr:av.length≤400){ns:List Nd}{k0:Nat}(x0:Xt L cX ns k0)(hn:ns.length≤500000):
  ∃(l:List Nat) (ms:List Nd),CC 73 (vI (m:Int)::ab (nS av)::c.i ns o)=some (c.ol ms o l)∧Xt L ns ms (L+av.length*(L*(4*L)))∧l.length≤L+av.length*(L*L)∧
   dR ms l fun w=>(∃a,a<L∧¬Jr K mul (im a) m∧w=[a])∨∃x,x∈av∧∃a,a<L∧∃b,b<L∧wm K mul im cX of m x a b w:=by
 have fin:∀z,ac4 CC (m:Int) (nS av) c.L c.t c.w c.im c.ac c.pl c.rt c.lf c.tw c.od (ns.map Nd.v) (cO Nd.v 0 ns) o=z→CC 73 (vI (m:Int)::ab (nS av)::c.i ns o)=z:=fun z h=>aAU h;have hL:=B.L6;obtain⟨l1,m1,e1,x1,q1,h1⟩:=aCr B hm (o:=o) x0.v (by omega) (l1:=nS av);have zs:=x1.l;obtain⟨l2,m2,e2,x2,q2,h2⟩:=aCq B kb ho hm yr dr (x0.trans x1) (by omega) (l:=l1) (by omega) h1;refine⟨l2,m2,fin _ ?_,x1.trans x2,by omega,h2⟩;unfold ac4;rw[B.U3,ff];exact bs e1 (bs e2 rfl)
end
noncomputable def wx(C:af)(m:Int)(above t:LV)(x a ax:Int)(t30:LV)(t31 t32:Int)(t40:LV)(t41 t42:Int)(t89:Bool)(bJ:Int)(bC bK bh bL bM bH bI bD bE ao aj bW bX cU nQ qn lH aH:LV){β:Type}(kr:ay (Int×LV×LV×LV×LV×LV×LV×LV×LV×LV×LV×LV×LV×LV) β):Option β:=
 bif t89 then
  aL aj x fun oT=>
  (C 68 [vI a,vI bJ,aq bC,cq bK,ab bh,au bL,au bM,bd bH,bd bI,bd bD,ab bE,cz aH,fK ao,ab aj]).bind fun rb=>
  (C 70 (vI oT.toInt::(vI (gI rb)::(kh rb (oS rb []))))).bind fun jt=>
  bif Nat.ble ((qn.length+([vI (gI jt)]:LV).length)*8) bf then
  jS (nq rb) x <|
  bif (Nat.beq (x.toNat) (x.toNat))&&true then
   ((nq rb)[x.toNat]?).bind fun nz=>
   bif decide (nz.toInt=oT.toInt)then
   kr ((dm jt),(jT jt),(jr jt),(oq jt),(qR jt),(sW jt),(sX jt),(sY jt),(sZ jt),(vQ jt),(ux jt),(nq jt),qn++([vI (gI jt)]:LV),(s6 jt))
   else none
  else none
  else none
 else
  kr (bJ,bC,bK,bh,bL,bM,bH,bI,bD,bE,ao,aj,qn,aH)
noncomputable def pM(C:af)(m:Int)(above t:LV)(x a:Int)(t30:LV)(t31 t32:Int)(t40:LV)(t41 t42:Int)(t133:Bool)(bJ:Int)(bC bK bh bL bM bH bI bD bE ao aj bW bX cU nQ qn lH aH:LV){β:Type}(kr:ay (Int×LV×LV×LV×LV×LV×LV×LV×LV×LV×LV×LV×LV×LV) β):Option β:=
 bif t133 then
  (C 68 [vI a,vI bJ,aq bC,cq bK,ab bh,au bL,au bM,bd bH,bd bI,bd bD,ab bE,cz aH,fK ao,ab aj]).bind fun Cj=>
  aL (nq Cj) x fun EM=>
  (C 70 (vI (gI Cj)::(vI EM.toInt::(kh Cj (oS Cj []))))).bind fun mJ=>
  bif Nat.ble ((lH.length+([vI (gI mJ)]:LV).length)*8) bf then
  jS aj x <|
  bif (Nat.beq (x.toNat) (x.toNat))&&true then
   (aj[x.toNat]?).bind fun Al=>
   bif decide (Al.toInt=EM.toInt)then
   kr ((dm mJ),(jT mJ),(jr mJ),(oq mJ),(qR mJ),(sW mJ),(sX mJ),(sY mJ),(sZ mJ),(vQ mJ),(ux mJ),(nq mJ),lH++([vI (gI mJ)]:LV),(s6 mJ))
   else none
  else none
  else none
 else
  kr (bJ,bC,bK,bh,bL,bM,bH,bI,bD,bE,ao,aj,lH,aH)
noncomputable def OD(C:af)(m:Int)(above t:LV)(x:Int)(t30:LV)(t31 t32:Int)(t40:LV)(t41:Int)(bW bX cU nQ:LV)(t42 bJ:Int)(bC bK bh bL bM bH bI bD bE ao aj qn lH aH:LV){β:Type}(kn:ay (Int×Int×LV×LV×LV×LV×LV×LV×LV×LV×LV×LV×LV×LV×LV×LV) β)(kr:ay (Int×Bool×Int×LV×LV×LV×LV×LV×LV×LV×LV×LV×LV×LV×LV×LV×LV) β):Option β:=
 bif decide (t42<t41)then
  (idx t40 t42).bind fun x2=>
  (idx t x).bind fun x3=>
  (idx x3.toList x2.toInt).bind fun x4=>
  (idx t x2.toInt).bind fun x5=>
  (idx x5.toList x).bind fun x6=>
  (idx bW m).bind fun x7=>
  (idx x7.toList x4.toInt).bind fun x8=>
  bif x8.toBool then
  (idx bW x4.toInt).bind fun x9=>
  (idx x9.toList m).bind fun mc=>
  bif mc.toBool then
   (idx bW m).bind fun ny=>
   (idx ny.toList x).bind fun ij=>
   wx C m above t x t42 x6.toInt t30 t31 t32 t40 t41 t42 (!ij.toBool) bJ bC bK bh bL bM bH bI bD bE ao aj bW bX cU nQ qn lH aH (un fun uS=>un fun(uT:LV)=>un fun(uU:LV)=>un fun(Ia:LV)=>un fun(adr:LV)=>un fun(ads:LV)=>un fun(adt:LV)=>un fun(adu:LV)=>un fun(adv:LV)=>un fun(adw:LV)=>un fun(Ud:LV)=>un fun(OE:LV)=>un fun(Ib:LV) (adx:LV)=>
    (idx bX m).bind fun HN=>
    (idx HN.toList x6.toInt).bind fun NP=>
    bif NP.toBool then
    (idx bX x6.toInt).bind fun x33=>
    (idx x33.toList m).bind fun ES=>
    bif ES.toBool then
     (idx bX m).bind fun Cf=>
     (idx Cf.toList x).bind fun EL=>
     pM C m above t x t42 t30 t31 t32 t40 t41 t42 (!EL.toBool) uS uT uU Ia adr ads adt adu adv adw Ud OE bW bX cU nQ Ib lH adx (un fun aCt=>un fun(aCu:LV)=>un fun(aCv:LV)=>un fun(aCw:LV)=>un fun(aCx:LV)=>un fun(aCy:LV)=>un fun(acQ:LV)=>un fun(acR:LV)=>un fun(acS:LV)=>un fun(acT:LV)=>un fun(ED:LV)=>un fun(EE:LV)=>un fun(aCz:LV) (MY:LV)=>
      kn (wrap .i64 (t42+1),aCt,aCu,aCv,aCw,aCx,aCy,acQ,acR,acS,acT,ED,EE,Ib,aCz,MY))
    else
     pM C m above t x t42 t30 t31 t32 t40 t41 t42 false uS uT uU Ia adr ads adt adu adv adw Ud OE bW bX cU nQ Ib lH adx (un fun acU=>un fun(acW:LV)=>un fun(aCA:LV)=>un fun(aCB:LV)=>un fun(aCC:LV)=>un fun(aCD:LV)=>un fun(aCE:LV)=>un fun(aCF:LV)=>un fun(acY:LV)=>un fun(acZ:LV)=>un fun(acb:LV)=>un fun(acd:LV)=>un fun(aCG:LV) (T8:LV)=>
      kn (wrap .i64 (t42+1),acU,acW,aCA,aCB,aCC,aCD,aCE,aCF,acY,acZ,acb,acd,Ib,aCG,T8))
    else
    pM C m above t x t42 t30 t31 t32 t40 t41 t42 false uS uT uU Ia adr ads adt adu adv adw Ud OE bW bX cU nQ Ib lH adx (un fun ac0=>un fun(ac1:LV)=>un fun(ac2:LV)=>un fun(ac3:LV)=>un fun(aCH:LV)=>un fun(aCI:LV)=>un fun(aCJ:LV)=>un fun(aCK:LV)=>un fun(aCL:LV)=>un fun(aCM:LV)=>un fun(aCN:LV)=>un fun(aCO:LV)=>un fun(aCP:LV) (aCQ:LV)=>
     kn (wrap .i64 (t42+1),ac0,ac1,ac2,ac3,aCH,aCI,aCJ,aCK,aCL,aCM,aCN,aCO,Ib,aCP,aCQ)))
  else
   wx C m above t x t42 x6.toInt t30 t31 t32 t40 t41 t42 false bJ bC bK bh bL bM bH bI bD bE ao aj bW bX cU nQ qn lH aH (un fun NV=>un fun(NW:LV)=>un fun(NX:LV)=>un fun(NY:LV)=>un fun(NZ:LV)=>un fun(N3:LV)=>un fun(ady:LV)=>un fun(adz:LV)=>un fun(adA:LV)=>un fun(adB:LV)=>un fun(adC:LV)=>un fun(adD:LV)=>un fun(Ic:LV) (adE:LV)=>
    (idx bX m).bind fun x97=>
    (idx x97.toList x6.toInt).bind fun x98=>
    bif x98.toBool then
    (idx bX x6.toInt).bind fun x99=>
    (idx x99.toList m).bind fun aCR=>
    bif aCR.toBool then
     (idx bX m).bind fun aCS=>
     (idx aCS.toList x).bind fun aCT=>
     pM C m above t x t42 t30 t31 t32 t40 t41 t42 (!aCT.toBool) NV NW NX NY NZ N3 ady adz adA adB adC adD bW bX cU nQ Ic lH adE (un fun aCU=>un fun(aCV:LV)=>un fun(aCW:LV)=>un fun(aCX:LV)=>un fun(aCY:LV)=>un fun(aCZ:LV)=>un fun(aC0:LV)=>un fun(aC1:LV)=>un fun(aC2:LV)=>un fun(aC3:LV)=>un fun(aC4:LV)=>un fun(aC5:LV)=>un fun(aC6:LV) (aC7:LV)=>
      kn (wrap .i64 (t42+1),aCU,aCV,aCW,aCX,aCY,aCZ,aC0,aC1,aC2,aC3,aC4,aC5,Ic,aC6,aC7))
    else
     pM C m above t x t42 t30 t31 t32 t40 t41 t42 false NV NW NX NY NZ N3 ady adz adA adB adC adD bW bX cU nQ Ic lH adE (un fun aC8=>un fun(aC9:LV)=>un fun(aDa:LV)=>un fun(aDb:LV)=>un fun(aDc:LV)=>un fun(aDd:LV)=>un fun(aDe:LV)=>un fun(aDf:LV)=>un fun(aDg:LV)=>un fun(aDh:LV)=>un fun(aDi:LV)=>un fun(aDj:LV)=>un fun(aDk:LV) (aDl:LV)=>
      kn (wrap .i64 (t42+1),aC8,aC9,aDa,aDb,aDc,aDd,aDe,aDf,aDg,aDh,aDi,aDj,Ic,aDk,aDl))
    else
    pM C m above t x t42 t30 t31 t32 t40 t41 t42 false NV NW NX NY NZ N3 ady adz adA adB adC adD bW bX cU nQ Ic lH adE (un fun aDm=>un fun(aDn:LV)=>un fun(aDo:LV)=>un fun(aDp:LV)=>un fun(aDq:LV)=>un fun(aDr:LV)=>un fun(aDs:LV)=>un fun(aDt:LV)=>un fun(aDu:LV)=>un fun(aDv:LV)=>un fun(aDw:LV)=>un fun(aDx:LV)=>un fun(aDy:LV) (aDz:LV)=>
     kn (wrap .i64 (t42+1),aDm,aDn,aDo,aDp,aDq,aDr,aDs,aDt,aDu,aDv,aDw,aDx,Ic,aDy,aDz)))
  else
  wx C m above t x t42 x6.toInt t30 t31 t32 t40 t41 t42 false bJ bC bK bh bL bM bH bI bD bE ao aj bW bX cU nQ qn lH aH (un fun adF=>un fun(adG:LV)=>un fun(adH:LV)=>un fun(adI:LV)=>un fun(adJ:LV)=>un fun(adK:LV)=>un fun(adL:LV)=>un fun(adM:LV)=>un fun(adN:LV)=>un fun(adO:LV)=>un fun(adP:LV)=>un fun(adQ:LV)=>un fun(Ie:LV) (adR:LV)=>
   (idx bX m).bind fun aDA=>
   (idx aDA.toList x6.toInt).bind fun aDB=>
   bif aDB.toBool then
    (idx bX x6.toInt).bind fun aDC=>
    (idx aDC.toList m).bind fun aDD=>
    bif aDD.toBool then
    (idx bX m).bind fun aDE=>
    (idx aDE.toList x).bind fun aDF=>
    pM C m above t x t42 t30 t31 t32 t40 t41 t42 (!aDF.toBool) adF adG adH adI adJ adK adL adM adN adO adP adQ bW bX cU nQ Ie lH adR (un fun aDG=>un fun(aDH:LV)=>un fun(aDI:LV)=>un fun(aDJ:LV)=>un fun(aDK:LV)=>un fun(aDL:LV)=>un fun(aDM:LV)=>un fun(aDN:LV)=>un fun(aDO:LV)=>un fun(aDP:LV)=>un fun(aDQ:LV)=>un fun(aDR:LV)=>un fun(aDS:LV) (aDT:LV)=>
     kn (wrap .i64 (t42+1),aDG,aDH,aDI,aDJ,aDK,aDL,aDM,aDN,aDO,aDP,aDQ,aDR,Ie,aDS,aDT))
    else
    pM C m above t x t42 t30 t31 t32 t40 t41 t42 false adF adG adH adI adJ adK adL adM adN adO adP adQ bW bX cU nQ Ie lH adR (un fun aDU=>un fun(aDV:LV)=>un fun(aDW:LV)=>un fun(aDX:LV)=>un fun(aDY:LV)=>un fun(aDZ:LV)=>un fun(aD0:LV)=>un fun(aD1:LV)=>un fun(aD2:LV)=>un fun(aD3:LV)=>un fun(aD4:LV)=>un fun(aD5:LV)=>un fun(aD6:LV) (aD7:LV)=>
     kn (wrap .i64 (t42+1),aDU,aDV,aDW,aDX,aDY,aDZ,aD0,aD1,aD2,aD3,aD4,aD5,Ie,aD6,aD7))
   else
    pM C m above t x t42 t30 t31 t32 t40 t41 t42 false adF adG adH adI adJ adK adL adM adN adO adP adQ bW bX cU nQ Ie lH adR (un fun aD8=>un fun(aD9:LV)=>un fun(aEa:LV)=>un fun(aEb:LV)=>un fun(aEc:LV)=>un fun(aEd:LV)=>un fun(aEe:LV)=>un fun(aEf:LV)=>un fun(aEg:LV)=>un fun(aEh:LV)=>un fun(aEi:LV)=>un fun(aEj:LV)=>un fun(aEk:LV) (aEl:LV)=>
     kn (wrap .i64 (t42+1),aD8,aD9,aEa,aEb,aEc,aEd,aEe,aEf,aEg,aEh,aEi,aEj,Ie,aEk,aEl)))
 else
  kr (t42,decide (t42<t41),bJ,bC,bK,bh,bL,bM,bH,bI,bD,bE,ao,aj,qn,lH,aH)
noncomputable def OF(C:af)(m:Int)(above t:LV)(x:Int)(t30:LV)(t31 t32:Int)(t40:LV)(t41:Int)(bW bX cU nQ:LV):=un fun t42=>un fun bJ=>un fun bC=>un fun bK=>un fun bh=>un fun bL=>un fun bM=>un fun bH=>un fun bI=>un fun bD=>un fun bE=>un fun ao=>un fun aj=>un fun qn=>un fun lH aH=>OD C m above t x t30 t31 t32 t40 t41 bW bX cU nQ t42 bJ bC bK bh bL bM bH bI bD bE ao aj qn lH aH ct cu
noncomputable def OG(C:af)(m:Int)(above t t30:LV)(t31:Int)(bW bX cU nQ:LV)(t32 bJ:Int)(bC bK bh bL bM bH bI bD bE ao aj qn lH aH:LV){β:Type}(kn:ay (Int×Int×LV×LV×LV×LV×LV×LV×LV×LV×LV×LV×LV×LV×LV×LV) β)(kr:ay (Int×Bool×Int×LV×LV×LV×LV×LV×LV×LV×LV×LV×LV×LV×LV×LV×LV) β):Option β:=
 bif decide (t32<t31)then
  (idx t30 t32).bind fun x1=>
  (Loop (OF C m above t x1.toInt t30 t31 t32 bh (bh.length:Int) bW bX cU nQ) (0,bJ,bC,bK,bh,bL,bM,bH,bI,bD,bE,ao,aj,qn,lH,aH)).bind (un fun aJb=>un fun(aJc:Bool)=>un fun aEm=>un fun(aEn:LV)=>un fun(aEo:LV)=>un fun(aEp:LV)=>un fun(aEq:LV)=>un fun(aEr:LV)=>un fun(aEs:LV)=>un fun(aEt:LV)=>un fun(aEu:LV)=>un fun(aEv:LV)=>un fun(aEw:LV)=>un fun(aEx:LV)=>un fun(aEy:LV)=>un fun(aEz:LV) (aEA:LV)=>
   kn (wrap .i64 (t32+1),aEm,aEn,aEo,aEp,aEq,aEr,aEs,aEt,aEu,aEv,aEw,aEx,aEy,aEz,aEA))
 else
  kr (t32,decide (t32<t31),bJ,bC,bK,bh,bL,bM,bH,bI,bD,bE,ao,aj,qn,lH,aH)
noncomputable def OH(C:af)(m:Int)(above t t30:LV)(t31:Int)(bW bX cU nQ:LV):=un fun t32=>un fun bJ=>un fun bC=>un fun bK=>un fun bh=>un fun bL=>un fun bM=>un fun bH=>un fun bI=>un fun bD=>un fun bE=>un fun ao=>un fun aj=>un fun qn=>un fun lH aH=>OG C m above t t30 t31 bW bX cU nQ t32 bJ bC bK bh bL bM bH bI bD bE ao aj qn lH aH ct cu
noncomputable def Vh(C:af):da:=lu 1439 ZR [[1,2,3,4,5,6,7,8,9,10,11,12,0,0,0,0,0,0,0,0,0,0,0,0,26,27,28,29,0,31,0]] (@wx C) (lu 2143 ZS [[1,2,3,4,6,7,8,9,10,11,0,0,0,0,0,0,0,0,0,0,0,0,25,26,27,28,29,0,0]] (@pM C) (cm 113 ZT (aN 29 473955840) [[1,2,3,4,5,6,7,8,9,0,0,0,0,0,0,0,0,0,0,0,0,0,0,23,24,25,26,0,0,0]] (@OD C) (cm 65 ZU (aN 25 29622240) [[1,2,3,4,5,0,0,0,0,0,0,0,0,0,0,0,0,0,0,19,20,21,22,0,0,0]] (@OG C) bS)))
theorem aEB(C:af):bt C (Vh C) 26 (Cd 89 [1,1,1,0,1,0,0,1,1,0,0,1,1,0,0,1,1,0,0,1,1,0,1,0] [1,1,1,0,1,0,0,1,1,0,0,1,1,0,0,1,1,0,0,1,1,0,1,1] 26):=lr ZR [[1,2,3,4,5,6,7,8,9,10,11,12,0,0,0,0,0,0,0,0,0,0,0,0,26,27,28,29,0,31,0]] (@wx C) (aY ak) (aY ak)
theorem aEC(C:af):bt C (Vh C) 26 (Cd 133 [1,1,1,0,1,0,0,1,1,0,0,1,1,0,0,1,1,0,0,1,1,1,1,0] [1,1,1,0,1,0,0,1,1,0,0,1,1,0,0,1,1,0,0,1,1,1,1,1] 26):=lr ZS [[1,2,3,4,6,7,8,9,10,11,0,0,0,0,0,0,0,0,0,0,0,0,25,26,27,28,29,0,0]] (@pM C) (aY ak) (aY ak)
theorem aED(C:af):bt C (Vh C) 26 (Lp [1,1,1,0,1,0,0,1,1,0,0,1,1,0,0] 26):=cj ZT (aN 29 473955840) [[1,2,3,4,5,6,7,8,9,0,0,0,0,0,0,0,0,0,0,0,0,0,0,23,24,25,26,0,0,0]] (@OD C) (aY (br (aEB C) (br (aEC C) ak)))
theorem aEE(C:af):bt C (Vh C) 26 (Lp [1,1,1,0,1,0,0] 26):=cj ZU (aN 25 29622240) [[1,2,3,4,5,0,0,0,0,0,0,0,0,0,0,0,0,0,0,19,20,21,22,0,0,0]] (@OG C) (aY (br (aED C) ak))
noncomputable def Vi(C:af)(m:Int)(above:LV)(bJ:Int)(bC bK bh bL bM bH bI bD bE aE ao aj:LV):Option LV:=
 (Loop (OH C m above bC above (above.length:Int) bH bI bD bE) (0,bJ,bC,bK,bh,bL,bM,bH,bI,bD,bE,ao,aj,([]:LV),([]:LV),aE)).bind (un fun aJd=>un fun(aJe:Bool)=>un fun aEF=>un fun(aEG:LV)=>un fun(aEH:LV)=>un fun(aEI:LV)=>un fun(aEJ:LV)=>un fun(aEK:LV)=>un fun(aEL:LV)=>un fun(aEM:LV)=>un fun(aEN:LV)=>un fun(aEO:LV)=>un fun(aEP:LV)=>un fun(aEQ:LV)=>un fun(aER:LV)=>un fun(aES:LV) (aET:LV)=>
  (C 27 [ab aER,vI aEF,aq aEG,cq aEH,ab aEI,au aEJ,au aEK,bd aEL,bd aEM,bd aEN,ab aEO,cz aET,fK aEP,ab aEQ]).bind fun adS=>
  (C 71 (kh adS (oS adS []))).bind fun adT=>
  (C 70 (vI (gI adS)::(vI (gI adT)::(kh adT (oS adT []))))).bind fun adU=>
  (C 71 (kh adU (oS adU []))).bind fun adV=>
  (C 27 (ab aES::(kh adV (oS adV [])))).bind fun adW=>
  (C 70 (vI (gI adV)::(vI (gI adW)::(kh adW (oS adW []))))).bind fun adX=>
  (C 72 (vI (gI adU)::(vI (gI adX)::(kh adX (oS adX []))))).bind fun Vj=>
  (C 73 (vI m::(ab above::(kh Vj (oS Vj []))))).bind fun oZ=>
  bif (((gL (((oZ.drop 10).drop 1).drop 1)).length:Int):Int)==0 then
   some (vI (gI Vj)::(SG oZ [bd (sW oZ),bd (sX oZ),bd (sY oZ),ab (sZ oZ),fK (gL (oZ.drop 10)),ab (gL ((oZ.drop 10).drop 1)),cz (gL ((((oZ.drop 10).drop 1).drop 1).drop 1))]))
  else
   (C 69 (ab (gL (((oZ.drop 10).drop 1).drop 1))::(SG oZ [bd (sW oZ),bd (sX oZ),bd (sY oZ),ab (sZ oZ),cz (gL ((((oZ.drop 10).drop 1).drop 1).drop 1)),fK (gL (oZ.drop 10)),ab (gL ((oZ.drop 10).drop 1))]))).bind fun adY=>
   (C 72 (vI (gI Vj)::(vI (gI adY)::(kh adY (oS adY []))))).bind fun adZ=>
   some (vI (gI adZ)::(kh adZ (zN adZ []))))
theorem aEU{m:Int}{above:LV}{bJ:Int}{bC bK bh bL bM bH bI bD bE aE ao aj:LV}{r:Option LV}(h:Vi CC m above bJ bC bK bh bL bM bH bI bD bE aE ao aj=r):CC 26 [vI m,ab above,vI bJ,aq bC,cq bK,ab bh,au bL,au bM,bd bH,bd bI,bd bD,ab bE,cz aE,fK ao,ab aj]=r:=bR (br (aEE CC) ak) h
def yu(K:Nat)(mul:Nat→Nat→Nat)(im:Nat→Nat)(cX:List Nd)(of:Nat→Nat)(m x a:Nat)(w:List Nat):Prop:=
 (Rr K mul m (mul x (im a))∧Rr K mul (mul x (im a)) m∧¬Rr K mul m x)∧∃u,lg cX (of x) u∧w=u++[a]
def yv(K:Nat)(mul:Nat→Nat→Nat)(im:Nat→Nat)(cX:List Nd)(of:Nat→Nat)(m x a:Nat)(w:List Nat):Prop:=
 (Lr K mul m (mul (im a) x)∧Lr K mul (mul (im a) x) m∧¬Lr K mul m x)∧∃v,lg cX (of x) v∧w=a::v
theorem Ig{Q P R:Prop}(h:¬P):Q∨P∧R↔Q:=⟨fun h'=>h'.resolve_right fun q=>h q.1,.inl⟩
section
variable {c:BC}{L K:Nat}{mul:Nat→Nat→Nat}{im:Nat→Nat}(B:BK c L K mul im)
variable {cX:List Nd}{o:LV}{of:Nat→Nat}(kb:GV L cX)(ho:o=tab K fun i=>nV (of i)){m:Nat}(hm:m<K)
variable {ns:List Nd}{k0:Nat}(x0:Xt L cX ns k0)(hn:ns.length≤800000){x a:Nat}(hx:x<K)(mb:of x<cX.length)(ha:a<L)
include B kb ho x0 hn hx mb ha
theorem aEV{l:List Nat}(hl:l.length≤800000){Q:List Nat→Prop}(hQ:dR ns l Q){k9 k1 k2 k4 k5 k6:Int}{l1 l2 l3 l4 l5 l6 l7 l8 l9:LV}:∃(l':List Nat) (ms:List Nd),
  (∀{β:Type} (kr:_→Option β),wx CC k9 l1 l2 (x:Int) (a:Int) k1 l3 k2 k4 l4 k5 k6 true c.L c.t c.w c.im c.ac c.pl c.rt c.lf c.tw c.od (cO Nd.v 0 ns) o l5 l6 l7 l8 (nS l) l9 (ns.map Nd.v) kr=kr (c.u2 ms o l'))∧
  Xt L ns ms 2∧l'.length≤l.length+1∧dR ms l' fun w=>Q w∨∃u,lg cX (of x) u∧w=u++[a]:=by
 have hL:=B.L6;obtain⟨i1,m1,e1,x1,q1,g1⟩:=HV (c:=c) (o:=o) x0.v (by omega) hL ha;have zs:=x1.l;have xx:=x0.trans x1;have pr:of x<m1.length:=fY mb xx.le;obtain⟨i2,m2,e2,x2,q2,g2⟩:=B5 (c:=c) (o:=o) x1.v (by omega) hL pr q1;refine⟨l++[i2],m2,fun kr=> ?_,x1.trans x2,by simp,hQ.add x0.v (x1.trans x2) q2 (R:=fun w=> ∃u,lg cX (of x) u∧w=u++[a]) (fun w=> ?_) fun w=>Iff.rfl⟩
 ·unfold wx;refine bT rfl ((ac5 ho hx).trans (bs e1 (bs e2 (bT (HZ (by omega)) ((ac6 ho hx).trans (bT (by simp) (bs (U4 ho hx) (bT (by simp) ?_))))))));unfold BC.u2;rw[←NN];rfl
 ·rw[g2];constructor
  ·rintro⟨u,v,rfl,h,h'⟩;rw[xx.lg kb mb]at h;exact⟨u,h,by rw[(g1 _).1 h']⟩
  ·rintro⟨u,h,rfl⟩;exact⟨u,[a],rfl,by rw[xx.lg kb mb];exact h,(g1 _).2 rfl⟩
theorem aEW{l:List Nat}(hl:l.length≤800000){Q:List Nat→Prop}(hQ:dR ns l Q){k9 k2 k4 k5 k6:Int}{l1 l2 l3 l4 l5 l6 l7 l8 l9:LV}:∃(l':List Nat) (ms:List Nd),
  (∀{β:Type} (kr:_→Option β),pM CC k9 l1 l2 (x:Int) (a:Int) l3 k2 k4 l4 k5 k6 true c.L c.t c.w c.im c.ac c.pl c.rt c.lf c.tw c.od (cO Nd.v 0 ns) o l5 l6 l7 l8 l9 (nS l) (ns.map Nd.v) kr=kr (c.u2 ms o l'))∧
  Xt L ns ms 2∧l'.length≤l.length+1∧dR ms l' fun w=>Q w∨∃v,lg cX (of x) v∧w=a::v:=by
 have hL:=B.L6;obtain⟨i1,m1,e1,x1,q1,g1⟩:=HV (c:=c) (o:=o) x0.v (by omega) hL ha;have zs:=x1.l;have xx:=x0.trans x1;have pr:of x<m1.length:=fY mb xx.le;obtain⟨i2,m2,e2,x2,q2,g2⟩:=B5 (c:=c) (o:=o) x1.v (by omega) hL q1 pr;refine⟨l++[i2],m2,fun kr=> ?_,x1.trans x2,by simp,hQ.add x0.v (x1.trans x2) q2 (R:=fun w=> ∃v,lg cX (of x) v∧w=a::v) (fun w=> ?_) fun w=>Iff.rfl⟩
 ·unfold pM;refine bT rfl (bs e1 ((ac5 ho hx).trans (bs e2 (bT (HZ (by omega)) ((ac6 ho hx).trans (bT (by simp) (bs (U4 ho hx) (bT (by simp) ?_))))))));unfold BC.u2;rw[←NN];rfl
 ·rw[g2];constructor
  ·rintro⟨u,v,rfl,h,h'⟩;rw[xx.lg kb mb]at h';exact⟨v,h',by rw[(g1 _).1 h];rfl⟩
  ·rintro⟨v,h,rfl⟩;exact⟨[a],v,rfl,(g1 _).2 rfl,by rw[xx.lg kb mb];exact h⟩
include hm
theorem aEX{l:List Nat}(hl:l.length≤800000){Q:List Nat→Prop}(hQ:dR ns l Q){k1 k2 k4 k5 k6:Int}{l1 l2 l3 l4 l5 l6 l7 l9:LV}:∃(l':List Nat) (ms:List Nd),
  (∀{β:Type} (kr:_→Option β),((idx c.rt (m:Int)).bind fun x7=>(idx x7.toList ((mul x (im a):Nat):Int)).bind fun x8=>bif x8.toBool then
    (idx c.rt ((mul x (im a):Nat):Int)).bind fun x9=>(idx x9.toList (m:Int)).bind fun mc=>bif mc.toBool then
     (idx c.rt (m:Int)).bind fun ny=>(idx ny.toList (x:Int)).bind fun ij=>wx CC (m:Int) l1 l2 (x:Int) (a:Int) k1 l3 k2 k4 l4 k5 k6 (!ij.toBool) c.L c.t c.w c.im c.ac c.pl c.rt c.lf c.tw c.od (cO Nd.v 0 ns) o c.rt l5 l6 l7 (nS l) l9 (ns.map Nd.v) kr
     else wx CC (m:Int) l1 l2 (x:Int) (a:Int) k1 l3 k2 k4 l4 k5 k6 false c.L c.t c.w c.im c.ac c.pl c.rt c.lf c.tw c.od (cO Nd.v 0 ns) o c.rt l5 l6 l7 (nS l) l9 (ns.map Nd.v) kr
    else wx CC (m:Int) l1 l2 (x:Int) (a:Int) k1 l3 k2 k4 l4 k5 k6 false c.L c.t c.w c.im c.ac c.pl c.rt c.lf c.tw c.od (cO Nd.v 0 ns) o c.rt l5 l6 l7 (nS l) l9 (ns.map Nd.v) kr)=kr (c.u2 ms o l'))∧
  Xt L ns ms 2∧l'.length≤l.length+1∧dR ms l' fun w=>Q w∨yu K mul im cX of m x a w:=by
 have hz:=B.ml _ _ hx (B.lI a ha);have no:∀{β:Type} (kr:_→Option β),wx CC (m:Int) l1 l2 (x:Int) (a:Int) k1 l3 k2 k4 l4 k5 k6 false c.L c.t c.w c.im c.ac c.pl c.rt c.lf c.tw c.od (cO Nd.v 0 ns) o c.rt l5 l6 l7 (nS l) l9 (ns.map Nd.v) kr=kr (c.u2 ns o l):=fun kr=>rfl;by_cases c1:Rr K mul m (mul x (im a))
 case neg=>exact⟨l,ns,fun kr=>bs (by rw[B.eR];exact jJ hm) (bs (jK hz) (bF (oV c1) (no kr))),Xt.refl x0.v,by omega,hQ.same fun w=>Ig fun h=>c1 h.1⟩
 by_cases c2:Rr K mul (mul x (im a)) m
 case neg=>exact⟨l,ns,fun kr=>bs (by rw[B.eR];exact jJ hm) (bs (jK hz) (bT (lF c1) (bs (by rw[B.eR];exact jJ hz) (bs (jK hm) (bF (oV c2) (no kr)))))),Xt.refl x0.v,by omega,hQ.same fun w=>Ig fun h=>c2 h.2.1⟩
 by_cases c3:Rr K mul m x
 case pos=>
  refine⟨l,ns,fun kr=>bs (by rw[B.eR];exact jJ hm) (bs (jK hz) (bT (lF c1) (bs (by rw[B.eR];exact jJ hz) (bs (jK hm) (bT (lF c2) (bs (by rw[B.eR];exact jJ hm) (bs (jK hx) ?_))))))),Xt.refl x0.v,by omega,hQ.same fun w=>Ig fun h=>h.2.2 c3⟩;rw[show(!(V.bool (rB (Rr K mul) m x)).toBool)=false by show(!rB (Rr K mul) m x)=false;rw[lF c3];rfl];exact no kr
 obtain⟨l',ms,e,g1,g2,g3⟩:=aEV B kb ho x0 hn hx mb ha hl hQ (k9:=(m:Int)) (k1:=k1) (k2:=k2) (k4:=k4) (k5:=k5) (k6:=k6) (l1:=l1) (l2:=l2) (l3:=l3) (l4:=l4) (l5:=c.rt) (l6:=l5) (l7:=l6) (l8:=l7) (l9:=l9);refine⟨l',ms,fun kr=>bs (by rw[B.eR];exact jJ hm) (bs (jK hz) (bT (lF c1) (bs (by rw[B.eR];exact jJ hz) (bs (jK hm) (bT (lF c2) (bs (by rw[B.eR];exact jJ hm) (bs (jK hx) ?_))))))),g1,g2,g3.same fun w=>yR Iff.rfl ⟨fun h=>h.2,fun h=>⟨⟨c1,c2,c3⟩,h⟩⟩⟩;rw[show(!(V.bool (rB (Rr K mul) m x)).toBool)=true by show(!rB (Rr K mul) m x)=true;rw[oV c3];rfl];exact e kr
theorem aEY{l:List Nat}(hl:l.length≤800000){Q:List Nat→Prop}(hQ:dR ns l Q){k2 k4 k5 k6:Int}{l1 l2 l3 l4 l5 l6 l7 l9:LV}:∃(l':List Nat) (ms:List Nd),
  (∀{β:Type} (kr:_→Option β),((idx c.lf (m:Int)).bind fun x7=>(idx x7.toList ((mul (im a) x:Nat):Int)).bind fun x8=>bif x8.toBool then
    (idx c.lf ((mul (im a) x:Nat):Int)).bind fun x9=>(idx x9.toList (m:Int)).bind fun mc=>bif mc.toBool then
     (idx c.lf (m:Int)).bind fun ny=>(idx ny.toList (x:Int)).bind fun ij=>pM CC (m:Int) l1 l2 (x:Int) (a:Int) l3 k2 k4 l4 k5 k6 (!ij.toBool) c.L c.t c.w c.im c.ac c.pl c.rt c.lf c.tw c.od (cO Nd.v 0 ns) o l5 c.lf l6 l7 l9 (nS l) (ns.map Nd.v) kr
     else pM CC (m:Int) l1 l2 (x:Int) (a:Int) l3 k2 k4 l4 k5 k6 false c.L c.t c.w c.im c.ac c.pl c.rt c.lf c.tw c.od (cO Nd.v 0 ns) o l5 c.lf l6 l7 l9 (nS l) (ns.map Nd.v) kr
    else pM CC (m:Int) l1 l2 (x:Int) (a:Int) l3 k2 k4 l4 k5 k6 false c.L c.t c.w c.im c.ac c.pl c.rt c.lf c.tw c.od (cO Nd.v 0 ns) o l5 c.lf l6 l7 l9 (nS l) (ns.map Nd.v) kr)=kr (c.u2 ms o l'))∧
  Xt L ns ms 2∧l'.length≤l.length+1∧dR ms l' fun w=>Q w∨yv K mul im cX of m x a w:=by
 have hz:=B.ml _ _ (B.lI a ha) hx;have no:∀{β:Type} (kr:_→Option β),pM CC (m:Int) l1 l2 (x:Int) (a:Int) l3 k2 k4 l4 k5 k6 false c.L c.t c.w c.im c.ac c.pl c.rt c.lf c.tw c.od (cO Nd.v 0 ns) o l5 c.lf l6 l7 l9 (nS l) (ns.map Nd.v) kr=kr (c.u2 ns o l):=fun kr=>rfl;by_cases c1:Lr K mul m (mul (im a) x)
 case neg=>exact⟨l,ns,fun kr=>bs (by rw[B.eL];exact jJ hm) (bs (jK hz) (bF (oV c1) (no kr))),Xt.refl x0.v,by omega,hQ.same fun w=>Ig fun h=>c1 h.1⟩
 by_cases c2:Lr K mul (mul (im a) x) m
 case neg=>exact⟨l,ns,fun kr=>bs (by rw[B.eL];exact jJ hm) (bs (jK hz) (bT (lF c1) (bs (by rw[B.eL];exact jJ hz) (bs (jK hm) (bF (oV c2) (no kr)))))),Xt.refl x0.v,by omega,hQ.same fun w=>Ig fun h=>c2 h.2.1⟩
 by_cases c3:Lr K mul m x
 case pos=>
  refine⟨l,ns,fun kr=>bs (by rw[B.eL];exact jJ hm) (bs (jK hz) (bT (lF c1) (bs (by rw[B.eL];exact jJ hz) (bs (jK hm) (bT (lF c2) (bs (by rw[B.eL];exact jJ hm) (bs (jK hx) ?_))))))),Xt.refl x0.v,by omega,hQ.same fun w=>Ig fun h=>h.2.2 c3⟩;rw[show(!(V.bool (rB (Lr K mul) m x)).toBool)=false by show(!rB (Lr K mul) m x)=false;rw[lF c3];rfl];exact no kr
 obtain⟨l',ms,e,g1,g2,g3⟩:=aEW B kb ho x0 hn hx mb ha hl hQ (k9:=(m:Int)) (k2:=k2) (k4:=k4) (k5:=k5) (k6:=k6) (l1:=l1) (l2:=l2) (l3:=l3) (l4:=l4) (l5:=l5) (l6:=c.lf) (l7:=l6) (l8:=l7) (l9:=l9);refine⟨l',ms,fun kr=>bs (by rw[B.eL];exact jJ hm) (bs (jK hz) (bT (lF c1) (bs (by rw[B.eL];exact jJ hz) (bs (jK hm) (bT (lF c2) (bs (by rw[B.eL];exact jJ hm) (bs (jK hx) ?_))))))),g1,g2,g3.same fun w=>yR Iff.rfl ⟨fun h=>h.2,fun h=>⟨⟨c1,c2,c3⟩,h⟩⟩⟩;rw[show(!(V.bool (rB (Lr K mul) m x)).toBool)=true by show(!rB (Lr K mul) m x)=true;rw[oV c3];rfl];exact e kr
end
def BC.u3(c:BC)(ns:List Nd)(o:LV)(l l':List Nat):Int×LV×LV×LV×LV×LV×LV×LV×LV×LV×LV×LV×LV×LV×LV:=(c.L,c.t,c.w,c.im,c.ac,c.pl,c.rt,c.lf,c.tw,c.od,cO Nd.v 0 ns,o,nS l,nS l',ns.map Nd.v)
theorem anB{i:Nat}{Q P:Prop}{R:Nat→Prop}(hP:R i↔P):(Q∨∃a,a<i+1∧R a)↔(Q∨∃a,a<i∧R a)∨P:=by
 grind
theorem anC{l:List Nat}{i:Nat}(hi:i<l.length){Q P:Prop}{R:Nat→Prop}(hP:R l[i]↔P):(Q∨∃a,a∈l.take (i+1)∧R a)↔(Q∨∃a,a∈l.take i∧R a)∨P:=by
 rw[u9 hi];grind
section
variable {c:BC}{L K:Nat}{mul:Nat→Nat→Nat}{im:Nat→Nat}(B:BK c L K mul im)
variable {cX:List Nd}{o:LV}{of:Nat→Nat}(kb:GV L cX)(ho:o=tab K fun i=>nV (of i)){m:Nat}(hm:m<K)
include B kb ho hm
theorem aEZ{ns:List Nd}{k0:Nat}(x0:Xt L cX ns k0)(hn:ns.length≤700000){x:Nat}(hx:x<K)(mb:of x<cX.length){l l':List Nat}(hl:l.length≤700000)(pZ:l'.length≤700000){Q Q':List Nat→Prop}(hQ:dR ns l Q)(hQ':dR ns l' Q'){k1 k2:Int}{l1 l2:LV}:
  ∃(p p':List Nat) (ms:List Nd),Loop (OF CC (m:Int) l1 c.t (x:Int) l2 k1 k2 c.im (L:Int) c.rt c.lf c.tw c.od) (0,c.u3 ns o l l')=some ((L:Int),false,c.u3 ms o p p')∧Xt L ns ms (L*4)∧p.length≤l.length+L∧p'.length≤l'.length+L∧
   dR ms p (fun w=>Q w∨∃a,a<L∧yu K mul im cX of m x a w)∧dR ms p' fun w=>Q' w∨∃a,a<L∧yv K mul im cX of m x a w:=by
 have hL:=B.L6;have key:=gH (step:=OF CC (m:Int) l1 c.t (x:Int) l2 k1 k2 c.im (L:Int) c.rt c.lf c.tw c.od)
  (fun i (s:Int×Int×LV×LV×LV×LV×LV×LV×LV×LV×LV×LV×LV×LV×LV×LV)=> ∃(p p':List Nat) (ms:List Nd),s=((i:Int),c.u3 ms o p p')∧Xt L ns ms (i*4)∧p.length≤l.length+i∧p'.length≤l'.length+i∧dR ms p (fun w=>Q w∨∃a,a<i∧yu K mul im cX of m x a w)∧dR ms p' fun w=>Q' w∨∃a,a<i∧yv K mul im cX of m x a w)
  (fun r=> ∃(p p':List Nat) (ms:List Nd),r=((L:Int),false,c.u3 ms o p p')∧Xt L ns ms (L*4)∧p.length≤l.length+L∧p'.length≤l'.length+L∧dR ms p (fun w=>Q w∨∃a,a<L∧yu K mul im cX of m x a w)∧dR ms p' fun w=>Q' w∨∃a,a<L∧yv K mul im cX of m x a w) L 0 (0,c.u3 ns o l l')
  (fun i _ hi s hs=> ?_) (fun s hs=> ?_) ⟨l,l',ns,rfl,Xt.refl x0.v,by simp,by simp,hQ.same fun w=>⟨fun h=>h.resolve_right fun⟨b,hb,_⟩=>by omega,.inl⟩,hQ'.same fun w=>⟨fun h=>h.resolve_right fun⟨b,hb,_⟩=>by omega,.inl⟩⟩
 ·grind
 ·obtain⟨p,p',ms,rfl,h1,h2,h3,h4,h5⟩:=hs;rw[cL]at hi;have zs:=h1.l;have wo:=B.lI i hi;obtain⟨q,m1,e1,x1,g1,g2⟩:=aEX B kb ho hm (x0.trans h1) (by omega) hx mb hi (l:=p) (by omega) h4 (k1:=((mul (im i) x:Nat):Int)) (k2:=k1) (k4:=k2) (k5:=(L:Int)) (k6:=(i:Int)) (l1:=l1) (l2:=c.t) (l3:=l2) (l4:=c.im) (l5:=c.lf) (l6:=c.tw) (l7:=c.od) (l9:=nS p');have le2:=x1.l;obtain⟨q',m2,e2,x2,g3,g4⟩:=aEY B kb ho hm (x0.trans (h1.trans x1)) (by omega) hx mb hi (l:=p') (by omega) (h5.ext h1.v x1) (k2:=k1) (k4:=k2) (k5:=(L:Int)) (k6:=(i:Int)) (l1:=l1) (l2:=c.t) (l3:=l2) (l4:=c.im) (l5:=c.rt) (l6:=c.tw) (l7:=c.od) (l9:=nS q);refine⟨(((i+1:Nat):Int),c.u3 m2 o q q'),?_,q,q',m2,rfl,(h1.trans (x1.trans x2)).mono (by omega),by omega,by omega,(g2.ext x1.v x2).same fun w=>anB Iff.rfl,g4.same fun w=>anB Iff.rfl⟩;simp only[OF,OD,un,BC.u3];refine bT (cF hi) (bs (B.Cg hi) (bs (B.row hx) (bs (oy wo) (bs (B.row wo) (bs (oy hx) ?_)))));refine(e1 _).trans ((e2 _).trans ?_)
  simp only[BC.u2,un];rw[bY (by omega)]
 ·rw[cL]at hs;obtain⟨p,p',ms,rfl,h⟩:=hs;refine⟨((L:Int),false,c.u3 ms o p p'),?_,p,p',ms,rfl,h⟩;simp only[OF,OD,un,BC.u3];grind
theorem aE0{av:List Nat}(yr:∀x∈av,x<K∧of x<cX.length)(dr:av.length≤400)(hn:cX.length≤500000){l1:LV}:
  ∃(p p':List Nat) (ms:List Nd),Loop (OH CC (m:Int) l1 c.t (nS av) (av.length:Int) c.rt c.lf c.tw c.od) (0,c.u3 cX o [] [])=some ((av.length:Int),false,c.u3 ms o p p')∧Xt L cX ms (av.length*(L*4))∧p.length≤av.length*L∧p'.length≤av.length*L∧
   dR ms p (fun w=>False∨∃x,x∈av∧∃a,a<L∧yu K mul im cX of m x a w)∧dR ms p' fun w=>False∨∃x,x∈av∧∃a,a<L∧yv K mul im cX of m x a w:=by
 have hL:=B.L6;have key:=gH (step:=OH CC (m:Int) l1 c.t (nS av) (av.length:Int) c.rt c.lf c.tw c.od)
  (fun i (s:Int×Int×LV×LV×LV×LV×LV×LV×LV×LV×LV×LV×LV×LV×LV×LV)=> ∃(p p':List Nat) (ms:List Nd),s=((i:Int),c.u3 ms o p p')∧Xt L cX ms (i*(L*4))∧p.length≤i*L∧p'.length≤i*L∧dR ms p (fun w=>False∨∃x,x∈av.take i∧∃a,a<L∧yu K mul im cX of m x a w)∧dR ms p' fun w=>False∨∃x,x∈av.take i∧∃a,a<L∧yv K mul im cX of m x a w)
  (fun r=> ∃(p p':List Nat) (ms:List Nd),r=((av.length:Int),false,c.u3 ms o p p')∧Xt L cX ms (av.length*(L*4))∧p.length≤av.length*L∧p'.length≤av.length*L∧dR ms p (fun w=>False∨∃x,x∈av∧∃a,a<L∧yu K mul im cX of m x a w)∧dR ms p' fun w=>False∨∃x,x∈av∧∃a,a<L∧yv K mul im cX of m x a w) av.length 0 (0,c.u3 cX o [] [])
  (fun i _ hi s hs=> ?_) (fun s hs=> ?_) ⟨[],[],cX,rfl,Xt.refl kb,by simp,by simp,dR.nil fun w h=>by simp at h,dR.nil fun w h=>by simp at h⟩
 ·grind
 ·obtain⟨p,p',ms,rfl,h1,h2,h3,h4,h5⟩:=hs;rw[cL]at hi;have zs:=h1.l;have b1:i*(L*4)≤9600:=pL (n:=400) (m:=24) (by omega) (by omega) (by omega);have b2:i*L≤2400:=pL (n:=400) (m:=6) (by omega) (by omega) (by omega);obtain⟨hx,mb⟩:=yr av[i] (fx hi);obtain⟨q,q',m2,e2,x2,g1,g2,g3,g4⟩:=aEZ B kb ho hm h1 (by omega) hx mb (l:=p) (l':=p') (by omega) (by omega) h4 h5 (k1:=(av.length:Int)) (k2:=(i:Int)) (l1:=l1) (l2:=nS av);refine⟨(((i+1:Nat):Int),c.u3 m2 o q q'),?_,q,q',m2,rfl,(h1.trans x2).mono (Nat.le_of_eq (sy _ _).symm),by grind,by grind,g3.same fun w=>anC hi Iff.rfl,g4.same fun w=>anC hi Iff.rfl⟩;simp only[OH,OG,un,BC.u3];refine bT (cF hi) (bs (qk hi) ?_);rw[B.U3];refine bs e2 ?_;rw[bY (by omega)];rfl
 ·rw[cL]at hs;obtain⟨p,p',ms,rfl,h⟩:=hs;rw[tH]at h;refine⟨((av.length:Int),false,c.u3 ms o p p'),?_,p,p',ms,rfl,h⟩;simp only[OH,OG,un,BC.u3];grind
def o0(n L:Nat):Nat:=n*(L*4)+n*L+n*L+n*(L*(4*L))+n*(L*L)+L+L+20
def anD(L K:Nat)(mul:Nat→Nat→Nat)(im:Nat→Nat)(cX:List Nd)(of:Nat→Nat)(av:List Nat)(m:Nat)(w:List Nat):Prop:=(∃a,a<L∧¬Jr K mul (im a) m∧w=[a])∨∃x,x∈av∧∃a,a<L∧∃b,b<L∧wm K mul im cX of m x a b w
theorem aE1{av:List Nat}(yr:∀x∈av,x<K∧of x<cX.length)(dr:av.length≤400)(hn:cX.length≤300000):∃(i:Nat) (ms:List Nd),CC 26 (vI (m:Int)::ab (nS av)::c.i cX o)=some (vI (i:Int)::c.o ms o)∧Xt L cX ms (o0 av.length L)∧i<ms.length∧
  ∀w,lg ms i w↔(∃u v,w=u++v∧∃x,x∈av∧∃a,a<L∧yu K mul im cX of m x a u)∧(∃u v,w=u++v∧∃x,x∈av∧∃a,a<L∧yv K mul im cX of m x a v)∧¬∃p f q,w=p++f++q∧anD L K mul im cX of av m f:=by
 have hL:=B.L6;have fin:∀z,Vi CC (m:Int) (nS av) c.L c.t c.w c.im c.ac c.pl c.rt c.lf c.tw c.od (cX.map Nd.v) (cO Nd.v 0 cX) o=z→CC 26 (vI (m:Int)::ab (nS av)::c.i cX o)=z:=fun z h=>aEU h;have b1:av.length*(L*4)≤9600:=pL (n:=400) (m:=24) (by omega) (by omega) (by omega);have b2:av.length*L≤2400:=pL (n:=400) (m:=6) (by omega) (by omega) (by omega);have c1:L*(4*L)≤144:=pL (n:=6) (m:=24) (by omega) (by omega) (by omega);have c2:L*L≤36:=pL (n:=6) (m:=6) (by omega) (by omega) (by omega);have b3:av.length*(L*(4*L))≤57600:=pL (n:=400) (m:=144) (by omega) c1 (by omega);have b4:av.length*(L*L)≤14400:=pL (n:=400) (m:=36) (by omega) c2 (by omega);obtain⟨p,p',m0,e0,x0,l0,Dj,h0,JY⟩:=aE0 B kb ho hm yr dr (by omega) (l1:=nS av);have n0:=x0.l;obtain⟨i1,m1,e1,x1,q1,g1⟩:=US (c:=c) (o:=o) x0.v hL (l:=p) (by omega) h0.lt;have n1:=x1.l;obtain⟨i2,m2,e2,x2,q2,g2⟩:=UO (c:=c) (o:=o) x1.v (by omega) hL;have n2:=x2.l;obtain⟨i3,m3,e3,x3,q3,g3⟩:=B5 (c:=c) (o:=o) x2.v (by omega) hL (fY q1 x2.le) q2;have n3:=x3.l;obtain⟨i4,m4,e4,x4,q4,g4⟩:=UO (c:=c) (o:=o) x3.v (by omega) hL;have n4:=x4.l;have x04:=x1.trans (x2.trans (x3.trans x4))
 have h4':=JY.ext x0.v x04;obtain⟨i5,m5,e5,x5,q5,g5⟩:=US (c:=c) (o:=o) x4.v hL (l:=p') (by omega) h4'.lt;have n5:=x5.l;obtain⟨i6,m6,e6,x6,q6,g6⟩:=B5 (c:=c) (o:=o) x5.v (by omega) hL (fY q4 x5.le) q5;have n6:=x6.l;have EL:=x4.trans (x5.trans x6)
 obtain⟨i7,m7,e7,x7,q7,g7⟩:=amP (c:=c) (o:=o) x6.v (by omega) hL (fY q3 EL.le) q6;have n7:=x7.l;have x07:=x0.trans (x04.trans (x5.trans (x6.trans x7)))
 obtain⟨l8,m8,e8,x8,q8,g8⟩:=aCs B kb ho hm yr dr x07 (by omega);have n8:=x8.l;have frame:∀w,lg m7 i7 w↔(∃u v,w=u++v∧∃x,x∈av∧∃a,a<L∧yu K mul im cX of m x a u)∧(∃u v,w=u++v∧∃x,x∈av∧∃a,a<L∧yv K mul im cX of m x a v):=fun w=>by
  rw[g7,EL.lg x3.v q3,g3,g6];refine yS ⟨?_,?_⟩ ⟨?_,?_⟩
  ·rintro⟨u,v,rfl,h,_⟩;rw[x2.lg x1.v q1,g1,h0.iff]at h;grind
  ·rintro⟨u,v,rfl,h⟩;exact⟨u,v,rfl,by rw[x2.lg x1.v q1,g1,h0.iff];grind,g2 v⟩
  ·rintro⟨u,v,rfl,_,h⟩;rw[g5,h4'.iff]at h;grind
  ·rintro⟨u,v,rfl,h⟩;exact⟨u,v,rfl,by rw[x5.lg x4.v q4];exact g4 u,by rw[g5,h4'.iff];grind⟩
 by_cases hl:l8=[]
 ·subst hl;refine⟨i7,m8,fin _ ?_,(x07.trans x8).mono (by unfold o0;omega),fY q7 x8.le,fun w=> ?_⟩
  ·unfold Vi;rw[ff];exact bs e0 (bs e1 (bs e2 (bs e3 (bs e4 (bs e5 (bs e6 (bs e7 (bs e8 (bT rfl rfl)))))))))
  ·rw[x8.lg x7.v q7,frame w,←and_assoc];refine⟨fun h=>⟨h,?_⟩,fun h=>h.1⟩;rintro⟨p,f,q,rfl,hf⟩;obtain⟨x,hx,_⟩:=(g8.iff f).2 hf;cases hx
 ·obtain⟨i9,m9,e9,x9,q9,g9⟩:=amQ (c:=c) (o:=o) x8.v hL (l:=l8) (by omega) g8.lt;have n9:=x9.l;have x79:=x8.trans x9;obtain⟨i10,m10,e10,mc,ue,g10⟩:=amP (c:=c) (o:=o) x9.v (by omega) hL (fY q7 x79.le) q9;refine⟨i10,m10,fin _ ?_,(x07.trans (x79.trans mc)).mono (by unfold o0;omega),ue,fun w=> ?_⟩
  ·unfold Vi;rw[ff];refine bs e0 (bs e1 (bs e2 (bs e3 (bs e4 (bs e5 (bs e6 (bs e7 (bs e8 (bF ?_ (bs e9 (bs e10 rfl)))))))))));show(((nS l8).length:Int)==0)=false;simp[nS,hl]
  ·rw[g10,x79.lg x7.v q7,frame w,g9,and_assoc];exact yS Iff.rfl (yS Iff.rfl (not_congr ⟨fun⟨p,f,q,e,h⟩=>⟨p,f,q,e,(g8.iff f).1 h⟩,fun⟨p,f,q,e,h⟩=>⟨p,f,q,e,(g8.iff f).2 h⟩⟩))
end
theorem aE2{K:Nat}{mul:Nat→Nat→Nat}{x z:Nat}(hx:x<K)(hm:∀i j,i<K→j<K→mul i j<K):Jr K mul x z↔∃y,y<K∧Rr K mul x y∧∃s,s<K∧mul s y=z:=
 ⟨fun⟨s,t,hs,ht,e⟩=>⟨mul x t,hm _ _ hx ht,⟨t,ht,rfl⟩,s,hs,e⟩,fun⟨y,_,⟨t,ht,e1⟩,s,hs,e2⟩=>⟨s,t,hs,ht,by rw[e1];exact e2⟩⟩
theorem upto{K i:Nat}{R:Nat→Nat→Prop}:∀{x y:Nat},(x<i∧R x y∨x=i∧R i y)↔x<i+1∧R x y:=fun {x y}=>by
 constructor
 ·rintro(⟨h,r⟩|⟨h,r⟩)
  ·exact⟨by omega,r⟩
  ·subst h;exact⟨by omega,r⟩
 ·rintro⟨h,r⟩;rcases fR x i with q|q
  ·exact .inl ⟨q,r⟩
  ·exact .inr ⟨by omega,by rwa [show x=i by omega]at r⟩
section
variable {K:Nat}{mul:Nat→Nat→Nat}{t:LV}(ht:t=tab K fun i=>ab (tab K fun j=>nV (mul i j)))(hm:∀i j,i<K→j<K→mul i j<K)(hK:K≤12)
include ht hm hK
theorem aE3:∃od:List Nat,CC 24 [aq t]=some [bd (dq K (Rr K mul)),bd (dq K (Lr K mul)),bd (dq K (Jr K mul)),ab (nS od)]∧
  od.Perm (List.range K)∧yp (fun x=>iT (Jr K mul) x K) od:=by
 have hl:t.length=K:=by rw[ht];exact fi
 have e0:∀{R:Nat→Nat→Prop},(dq K fun _ _=>False)=dq K fun x y=>x<0∧R x y:=fun {R}=>uX fun x y _ _=>⟨fun h=>h.elim,fun h=>by omega⟩
 have e1:∀{R:Nat→Nat→Prop},(dq K fun x y=>x<K∧R x y)=dq K R:=fun {R}=>uX fun x y hx _=>⟨fun h=>h.2,fun h=>⟨hx,h⟩⟩
 have e2:List.replicate K (vI 0)=tab K fun j=>nV (if j<0 then j else 0):=by rw[mG];exact dA fun j _=>by rw[fH];rfl
 have e3:List.replicate K (vI 0)=tab K fun j=>nV (if j<0 then iT (Jr K mul) j K else 0):=by rw[mG];exact dA fun j _=>by rw[fH];rfl
 have key:=gp (step:=Vb CC t (K:Int) (K:Int) [] [] [] []) K
  (fun i=>((i:Int),dq K (fun x y=>x<i∧Rr K mul x y),dq K (fun x y=>x<i∧Lr K mul x y),dq K (fun x y=>x<i∧Jr K mul x y),(tab K fun j=>nV (if j<i then j else 0)),tab K fun j=>nV (if j<i then iT (Jr K mul) j K else 0)))
  ((K:Int),false,dq K (Rr K mul),dq K (Lr K mul),dq K (Jr K mul),nS (List.range K),oY K fun x=>iT (Jr K mul) x K) (fun i hi=> ?_) ?_
 ·obtain⟨od,e4,h1,h2⟩:=aBn (K:=K) (sz:=fun x=>iT (Jr K mul) x K) (List.range K) (by simp;omega) fun q hq=>gM.1 hq;refine⟨od,aBB ?_,h1,h2⟩;unfold am9;rw[hl,Int.toNat_natCast];have sq:=aBC (n:=K) (by omega);refine bs sq (bs sq (bs sq (bT (iB (n:=K) (by omega) (by omega)) (bT (iB (n:=K) (by omega) (by omega)) ?_))));rw[show(gL [bd (dq K fun _ _=>False)])=dq K fun _ _=>False from rfl];refine bs (a:=((K:Int),false,dq K (Rr K mul),dq K (Lr K mul),dq K (Jr K mul),nS (List.range K),oY K fun x=>iT (Jr K mul) x K)) ?_ (bs e4 rfl);refine Eq.trans (congrArg (Loop _) ?_) key;refine dX rfl (dX e0 (dX e0 (dX e0 (dX e2 e3))))
 ·have og:(tab K fun j=>nV (if j<i then j else 0))[i]? =some (nV 0):=by rw[dH hi,fH]
  have os:(tab K fun j=>nV (if j<i then j else 0)).set i (vI (i:Int))=tab K fun j=>nV (if j<i+1 then j else 0):=by
   rw[jf];refine dA fun j _=> ?_;by_cases c:j=i
   ·rw[aP c,gC,c];rfl
   ·rw[aM c];by_cases d:j<i
    ·rw[aP d,gC]
    ·rw[aM d,fH]
  simp only[Vb,On,un];refine bT (cF hi) ((aU og).trans (bs (aBD ht hm (by omega) hi (R0:=fun x y=>x<i∧Rr K mul x y) (L0:=fun x y=>x<i∧Lr K mul x y)) ?_));simp only[un];have r1:(dq K fun x' y=>(x'<i∧Rr K mul x' y)∨x'=i∧∃s,s<K∧mul i s=y)=dq K fun x y=>x<i+1∧Rr K mul x y:=uX fun x y _ _=>upto (K:=K);have r2:(dq K fun x' y=>(x'<i∧Lr K mul x' y)∨x'=i∧∃s,s<K∧mul s i=y)=dq K fun x y=>x<i+1∧Lr K mul x y:=uX fun x y _ _=>upto (K:=K);rw[r1,r2];refine bs (aBF ht hm (by omega) hi (R7:=fun x y=>x<i+1∧Rr K mul x y) (R0:=fun x y=>x<i∧Jr K mul x y)) ?_;simp only[un];have r3:(dq K fun x' z=>(x'<i∧Jr K mul x' z)∨x'=i∧∃y,y<K∧(i<i+1∧Rr K mul i y)∧∃s,s<K∧mul s y=z)=dq K fun x y=>x<i+1∧Jr K mul x y:=uX fun x z _ _=>by
   rw[←upto (K:=K) (R:=Jr K mul)];refine yR Iff.rfl (yS Iff.rfl ?_);rw[aE2 hi hm];exact⟨fun⟨y,a,b,c⟩=>⟨y,a,b.2,c⟩,fun⟨y,a,b,c⟩=>⟨y,a,⟨by omega,b⟩,c⟩⟩
  rw[r3,Int.toNat_natCast];refine(aU (oz hi)).trans (bs (tn (oz hi)) ?_)
  rw[V.fa,fi];refine bs (aBH (K:=K) (by omega) hi (R:=fun x y=>x<i+1∧Jr K mul x y) (g:=fun j=>if j<i then iT (Jr K mul) j K else 0) (by rw[fH])) ?_;simp only[un,aG,Int.toNat_natCast];rw[os,bY (by omega)];refine congrArg (fun l=>some (Sum.inl (((i+1:Nat):Int),_,_,_,_,l))) (dA fun j _=> ?_);by_cases c:j=i
  ·rw[aP c,gC,c];unfold iT;refine congrArg (fun l:List Nat=>nV l.length) (List.filter_congr fun y _=> ?_);exact Vc ⟨fun h=>h.2,fun h=>⟨by omega,h⟩⟩
  ·rw[aM c];by_cases d:j<i
   ·rw[aP d,gC]
   ·rw[aM d,fH]
 ·simp only[Vb,On,un];refine bF (cf (aR _)) ?_;rw[cf (aR _),e1,e1,e1];have a1:(tab K fun j=>nV (if j<K then j else 0))=nS (List.range K):=by
   unfold tab nS;exact rl fun j hj=>by rw[aP (gM.1 hj)]
  have a2:(tab K fun j=>nV (if j<K then iT (Jr K mul) j K else 0))=oY K fun x=>iT (Jr K mul) x K:=dA fun j hj=>by rw[aP hj]
  rw[a1,a2]
end
noncomputable def Ih(C:af)(t57:LV)(t58 ku:Int)(kV mV mf mW mX:LV)(jx:Int)(aj:LV)(t59 bJ:Int)(bC bK bh bL bM bH bI bD bE aS aw aC:LV){β:Type}(kn:ay (Int×Int×LV×LV×LV×LV×LV×LV×LV×LV×LV×LV×LV×LV) β)(kr:ay (Int×Bool×Int×LV×LV×LV×LV×LV×LV×LV×LV×LV×LV×LV×LV) β):Option β:=
 bif decide (t59<t58)then
  (idx t57 t59).bind fun x4=>
  bif t59==0 then
  (C 25 [vI x4.toInt,vI bJ,aq bC,cq bK,ab bh,au bL,au bM,bd bH,bd bI,bd bD,ab bE,cz aS,fK aw,ab aC]).bind fun r5=>
  bif (decide (0≤x4.toInt))&&(decide (x4.toInt<((nq r5).length:Int)))then
   ((nq r5)[(x4.toInt:Int).toNat]?).bind fun x6=>
   kn (wrap .i64 (t59+1),(dm r5),(jT r5),(jr r5),(oq r5),(qR r5),(sW r5),(sX r5),(sY r5),(sZ r5),(vQ r5),(s6 r5),(ux r5),aG (nq r5) (x4.toInt) (vI (gI r5)))
  else none
  else
  bif (decide (0≤t59))&&(decide (t59≤(bE.length:Int)))then
   (C 26 [vI x4.toInt,ab ((bE.drop 0).take ((t59.toNat)-0)),vI bJ,aq bC,cq bK,ab bh,au bL,au bM,bd bH,bd bI,bd bD,ab bE,cz aS,fK aw,ab aC]).bind fun r7=>
   bif (decide (0≤x4.toInt))&&(decide (x4.toInt<((nq r7).length:Int)))then
   ((nq r7)[(x4.toInt:Int).toNat]?).bind fun x8=>
   kn (wrap .i64 (t59+1),(dm r7),(jT r7),(jr r7),(oq r7),(qR r7),(sW r7),(sX r7),(sY r7),(sZ r7),(vQ r7),(s6 r7),(ux r7),aG (nq r7) (x4.toInt) (vI (gI r7)))
   else none
  else none
 else
  kr (t59,decide (t59<t58),bJ,bC,bK,bh,bL,bM,bH,bI,bD,bE,aS,aw,aC)
noncomputable def Ii(C:af)(t57:LV)(t58 ku:Int)(kV mV mf mW mX:LV)(jx:Int)(aj:LV):=un fun t59=>un fun bJ=>un fun bC=>un fun bK=>un fun bh=>un fun bL=>un fun bM=>un fun bH=>un fun bI=>un fun bD=>un fun bE=>un fun aS=>un fun aw aC=>Ih C t57 t58 ku kV mV mf mW mX jx aj t59 bJ bC bK bh bL bM bH bI bD bE aS aw aC ct cu
noncomputable def OI(C:af)(t93:LV)(t94 jx bJ:Int)(bC bK bh bL bM bH bI bD bE aj aS aw aC:LV)(t95:Int)(Ij:LV){β:Type}(kn:ay (Int×LV) β)(kr:ay (Int×Bool×LV) β):Option β:=
 bif decide (t95<t94)then
  (idx t93 t95).bind fun uK=>
  bif uK.toBool then
  aL aC t95 fun uO=>
  bif Nat.ble ((Ij.length+([vI uO.toInt]:LV).length)*8) bf then
   kn (wrap .i64 (t95+1),Ij++([vI uO.toInt]:LV))
  else none
  else
  kn (wrap .i64 (t95+1),Ij)
 else
  kr (t95,decide (t95<t94),Ij)
noncomputable def OJ(C:af)(t93:LV)(t94 jx bJ:Int)(bC bK bh bL bM bH bI bD bE aj aS aw aC:LV):=un fun t95 Ij=>OI C t93 t94 jx bJ bC bK bh bL bM bH bI bD bE aj aS aw aC t95 Ij ct cu
noncomputable def anE(C:af):da:=cm 177 Zp (aN 24 15727620) [[1,2,0,0,4,5,6,7,8,9,10,0,0,0,0,0,0,0,0,0,0,21,0,0,0]] (@Ih C) (cm 305 Zq (aN 19 16388) [[1,2,0,0,4,5,6,7,8,9,10,11,12,13,14,0,16,17,18,19]] (@OI C) bS)
theorem aE4(C:af):bt C (anE C) 8 (Lp [1,1,1,1,1,1,0,1,0,0] 8):=cj Zp (aN 24 15727620) [[1,2,0,0,4,5,6,7,8,9,10,0,0,0,0,0,0,0,0,0,0,21,0,0,0]] (@Ih C) (aY ak)
theorem aE5(C:af):bt C (anE C) 8 (Lp [1,1,1,1,1,1,1,1,0,1,0,0] 8):=cj Zq (aN 19 16388) [[1,2,0,0,4,5,6,7,8,9,10,11,12,13,14,0,16,17,18,19]] (@OI C) (aY ak)
noncomputable def Ik(C:af)(gu:Int)(dN iU iG gx iW:LV):Option LV:=
 (C 23 [vI gu,aq dN,cq iU,ab iG,au gx,au iW]).bind fun r1=>
 bif ((gI r1):Int) != 0 then
  some [vI 0,vI (gI r1),cz ([]:LV),ab ([]:LV)]
 else
  (C 9 [vI gu,aq dN,cq iU,ab iG,au gx,au iW]).bind fun r2=>
  bif !(gB r2)then
  some [vI 0,vI 20,cz ([]:LV),ab ([]:LV)]
  else
  bif decide (((wrap .i64 ((wrap .i64 (gu+1))*(wrap .i64 ((wrap .i64 (gu+1))*(wrap .i64 ((wrap .i64 ((dN.length:Int)+2))*(wrap .i64 ((wrap .i64 ((dN.length:Int)+2))*8)))))))):Int)>20000)then
   some [vI 0,vI 3,cz ([]:LV),ab ([]:LV)]
  else
   (C 24 [aq dN]).bind fun r3=>
   bif (decide (0≤(dN.length:Int)))&&((decide ((dN.length:Int)≤(dN.length:Int)))&&(Nat.ble (((dN.length:Int).toNat)*8) bf))then
   (Loop (Ii C (jr r3) ((jr r3).length:Int) gu dN iU iG gx iW 0 ([]:LV)) (0,gu,dN,iU,iG,gx,iW,(gL r3),(dw r3),(jT r3),(jr r3),([]:LV),([]:LV),List.replicate ((dN.length:Int).toNat) (vI 0))).bind (un fun uI=>un fun(z9:Bool)=>un fun B6=>un fun(B7:LV)=>un fun(B8:LV)=>un fun(B9:LV)=>un fun(Cc:LV)=>un fun(Ce:LV)=>un fun(uS:LV)=>un fun(uT:LV)=>un fun(uU:LV)=>un fun(Ia:LV)=>un fun(sf:LV)=>un fun(yj:LV) (se:LV)=>
    (Loop (OJ C gx (gx.length:Int) 0 B6 B7 B8 B9 Cc Ce uS uT uU Ia ([]:LV) sf yj se) (0,([]:LV))).bind (un fun ad0=>un fun(alL:Bool) (aE6:LV)=>
     (C 27 [ab aE6,vI B6,aq B7,cq B8,ab B9,au Cc,au Ce,bd uS,bd uT,bd uU,ab Ia,cz sf,fK yj,ab se]).bind fun r29=>
     some [vI (gI r29),vI 0,cz (s6 r29),ab (nq r29)]))
   else none
theorem anF{gu:Int}{dN iU iG gx iW:LV}{r:Option LV}(h:Ik CC gu dN iU iG gx iW=r):CC 8 [vI gu,aq dN,cq iU,ab iG,au gx,au iW]=r:=bR (br (aE4 CC) (br (aE5 CC) ak)) h
theorem filter_lt{α:Type}{p q:α→Bool}:∀{l:List α},(∀y∈l,p y=true→q y=true)→(∃y∈l,q y=true∧p y=false)→(l.filter p).length<(l.filter q).length
 | [],_,⟨y,hy,_⟩=>by cases hy
 |z::l,h,⟨y,hy,h1,h2⟩=>by
  have hle:(l.filter p).length≤(l.filter q).length:=by
   have:∀{l:List α},(∀y∈l,p y=true→q y=true)→(l.filter p).length≤(l.filter q).length:=by
    intro l
    induction l with
    |nil=>intro _;exact aR _
    |cons w l ih=>
     intro h;have:=ih fun y hy=>h y (j5 _ hy);cases hp:p w with
     |true=>rw[CJ hp,CJ (h w (by simp) hp)];simpa using this
     |false=>
      rw[Jb (by simp[hp])];cases hq:q w with
      |true=>rw[CJ hq];simp;omega
      |false=>rw[Jb (by simp[hq])];exact this
   exact this fun y hy=>h y (j5 _ hy)
  rcases kC.1 hy with rfl|hy
  ·rw[Jb (by simp[h2]),CJ h1];simp;omega
  ·have ih:=filter_lt (fun y hy=>h y (j5 _ hy)) ⟨y,hy,h1,h2⟩;cases hp:p z with
   |true=>rw[CJ hp,CJ (h z (by simp) hp)];simpa using ih
   |false=>
    rw[Jb (by simp[hp])];cases hq:q z with
    |true=>rw[CJ hq];simp;omega
    |false=>rw[Jb (by simp[hq])];exact ih
section
variable {K:Nat}{mul:Nat→Nat→Nat}(M:Mn K mul)(ap:uW K mul)
include M
theorem anG{x m:Nat}(hx:x<K)(hm:m<K)(h:Jr K mul x m)(hn:¬Jr K mul m x):iT (Jr K mul) m K<iT (Jr K mul) x K:=by
 refine filter_lt (fun y _ hy=> ?_) ⟨x,gM.2 hx,lF (Jr.refl M hx),oV hn⟩;by_cases c:Jr K mul m y
 ·exact lF (Jr.trans M hx h c)
 ·rw[oV c]at hy;cases hy
include ap
theorem aE7{x:Nat}(hx:x<K)(h0:x≠0):iT (Jr K mul) x K<iT (Jr K mul) 0 K:=by
 refine anG M M.k0 hx ⟨0,x,M.k0,hx,?_⟩ fun h=>h0 (acO M ap hx h);rw[(M.e0 x hx).1,(M.e0 x hx).1]
section
variable {od:List Nat}(hp:od.Perm (List.range K))(hs:yp (fun x=>iT (Jr K mul) x K) od)
include hp hs
theorem anH:∃t,od=0::t:=by
 have h0:0∈od:=hp.mem_iff.2 (gM.2 M.k0);cases od with
 |nil=>cases h0
 |cons y t=>
  by_cases c:y=0
  ·exact⟨t,by rw[c]⟩
  ·exfalso;have ht:0∈t:=(kC.1 h0).resolve_left fun e=>c e.symm;have hy:y<K:=gM.1 (hp.mem_iff.1 (by simp));exact(I5.1 hs).1 0 ht (.inl (aE7 M ap hy c))
omit ap in
theorem aE8{i:Nat}(hi:i<od.length){x:Nat}(hx:x<K)(h:Jr K mul x od[i])(hn:¬Jr K mul od[i] x):x∈od.take i:=by
 have hm:od[i]<K:=gM.1 (hp.mem_iff.1 (fx hi));have hl:=anG M hx hm h hn;have Q7:x∈od:=hp.mem_iff.2 (gM.2 hx);rw[←List.take_append_drop i od]at Q7;refine(fQ.1 Q7).resolve_right fun hd=> ?_;rw[CA hi]at hd;rcases kC.1 hd with e|hd
 ·rw[e]at hl;omega
 ·have h2:yp (fun x=>iT (Jr K mul) x K) (od[i]::od.drop (i+1)):=by
   rw[←CA hi];exact List.Pairwise.sublist (List.drop_sublist _ _) hs
  exact(I5.1 h2).1 x hd (.inl hl)
end
section
variable {L:Nat}{val:List Nat→Nat}(H:UY K mul (WL L) val)
include H
theorem val_zero:∀{w:List Nat},WL L w→(val w=0↔∀x∈w,val [x]=0):=fun {w} hw=>by
 constructor
 ·intro e x hx;obtain⟨u,v,rfl⟩:=List.append_of_mem hx;have e1:u++x::v=u++[x]++v:=by simp
  rw[e1]at hw e;have:=UZ M H hw;rw[e]at this;have oO:WL L [x]:=fun y hy=>hw y (by rw[iY.1 hy];simp);exact acO M ap (H.lt _ oO) this
 ·induction w with
  |nil=>intro _;exact H.nil
  |cons x w ih=>
   intro h;have hx:WL L [x]:=fun y hy=>hw y (by rw[iY.1 hy];simp);rw[show x::w=[x]++w from rfl,H.app _ _ hx hw.tail,ih hw.tail fun y hy=>h y (j5 _ hy),h x (by simp)];exact(M.e0 0 M.k0).1
theorem aE9{m:Nat}(hm:m<K)(kS:m≠0){av:List Nat}(hA:∀x,x<K→Jr K mul x m→¬Jr K mul m x→x∈av){ns:List Nd}{of:Nat→Nat}(sR:∀x∈av,∀w,WL L w→(lg ns (of x) w↔val w=x)){w:List Nat}(hw:WL L w):
  ((∃u v,w=u++v∧∃x,x∈av∧∃a,a<L∧yu K mul (fun a=>val [a]) ns of m x a u)∧(∃u v,w=u++v∧∃x,x∈av∧∃a,a<L∧yv K mul (fun a=>val [a]) ns of m x a v)∧¬∃p f q,w=p++f++q∧anD L K mul (fun a=>val [a]) ns of av m f)↔val w=m:=by
 rw[aAm M ap H hm kS (A:=fun x=>x∈av) hA hw];refine yS ?_ (yS ?_ (not_congr ?_))
 ·constructor
  ·rintro⟨_,v,rfl,x,hx,a,ha,⟨c1,c2,c3⟩,u,hu,rfl⟩;have EZ:WL L u:=fun y hy=>hw y (by simp[hy]);have e:=(sR x hx u EZ).1 hu;subst e;exact⟨u,a,v,by simp,hx,c1,c2,c3⟩
  ·rintro⟨u,a,v,rfl,hx,c1,c2,c3⟩;have EZ:WL L u:=fun y hy=>hw y (by simp[hy]);exact⟨u++[a],v,by simp,val u,hx,a,hw a (by simp),⟨c1,c2,c3⟩,u,(sR _ hx u EZ).2 rfl,rfl⟩
 ·constructor
  ·rintro⟨v,_,rfl,x,hx,a,ha,⟨c1,c2,c3⟩,u,hu,rfl⟩;have EZ:WL L u:=fun y hy=>hw y (by simp[hy]);have e:=(sR x hx u EZ).1 hu;subst e;exact⟨v,a,u,rfl,hx,c1,c2,c3⟩
  ·rintro⟨v,a,u,rfl,hx,c1,c2,c3⟩;have EZ:WL L u:=fun y hy=>hw y (by simp[hy]);exact⟨v,a::u,rfl,val u,hx,a,hw a (by simp),⟨c1,c2,c3⟩,u,(sR _ hx u EZ).2 rfl,rfl⟩
 ·constructor
  ·rintro⟨p,f,q,rfl,hf⟩;refine⟨p,f,q,rfl,?_⟩;have Bo:WL L f:=fun y hy=>hw y (by simp[hy]);rcases hf with⟨a,ha,c,rfl⟩|⟨x,hx,a,ha,b,hb,⟨c1,c2,c3⟩,v,hv,rfl⟩
   ·exact .inl ⟨a,rfl,c⟩
   ·have hwv:WL L v:=fun y hy=>Bo y (by simp[hy]);have e:=(sR x hx v hwv).1 hv;subst e;exact .inr ⟨a,v,b,rfl,hx,c1,c2,c3⟩
  ·rintro⟨p,f,q,rfl,hf⟩;refine⟨p,f,q,rfl,?_⟩;have Bo:WL L f:=fun y hy=>hw y (by simp[hy]);rcases hf with⟨a,rfl,c⟩|⟨a,v,b,rfl,hx,c1,c2,c3⟩
   ·exact .inl ⟨a,Bo a (by simp),c,rfl⟩
   ·have hwv:WL L v:=fun y hy=>Bo y (by simp[hy]);exact .inr ⟨val v,hx,a,Bo a (by simp),b,Bo b (by simp),⟨c1,c2,c3⟩,v,(sR _ hx v hwv).2 rfl,rfl⟩
end
end
def BC.u4(c:BC)(ns:List Nd)(o:LV):Int×LV×LV×LV×LV×LV×LV×LV×LV×LV×LV×LV×LV:=(c.L,c.t,c.w,c.im,c.ac,c.pl,c.rt,c.lf,c.tw,c.od,ns.map Nd.v,cO Nd.v 0 ns,o)
theorem ad1{n k L:Nat}(h:n≤k):o0 n L≤o0 k L:=by
 unfold o0;have h1:=fg (L*4) h;have h2:=fg L h;have h3:=fg (L*(4*L)) h;have h4:=fg (L*L) h;omega
theorem anI{K L:Nat}(hK:K≤12)(hL:L≤2):o0 K L≤408:=by
 refine lR (ad1 hK) ?_;rcases(by omega:L=0∨L=1∨L=2)with rfl|rfl|rfl<;>decide
theorem aFa{K L:Nat}(hK:K≤5)(hL:L≤2):o0 K L≤184:=by
 refine lR (ad1 hK) ?_;rcases(by omega:L=0∨L=1∨L=2)with rfl|rfl|rfl<;>decide
theorem anJ{K:Nat}{of:Nat→Nat}{m i:Nat}:aG (tab K fun j=>nV (of j)) (m:Int) (vI (i:Int))=tab K fun j=>nV (if j=m then i else of j):=by
 unfold aG;rw[Int.toNat_natCast,jf];exact dA fun j _=>by
  by_cases c:j=m
  ·rw[aP c,aP c];rfl
  ·rw[aM c,aM c]
section
variable {c:BC}{L K:Nat}{mul:Nat→Nat→Nat}{val:List Nat→Nat}(B:BK c L K mul fun a=>val [a])(M:Mn K mul)(ap:uW K mul)(H:UY K mul (WL L) val)(hK:K≤12)(hL:L≤2)
variable {od:List Nat}(hp:od.Perm (List.range K))(hs:yp (fun x=>iT (Jr K mul) x K) od)(hod:c.od=nS od)
include B M ap H hK hL hp hs hod
theorem aFb{k1 k2:Int}{l1 l2 l3 l4 l5 l6:LV}:∃(of:Nat→Nat) (ns:List Nd),Loop (Ii CC (nS od) (K:Int) k1 l1 l2 l3 l4 l5 k2 l6) (0,c.u4 [] (List.replicate K (vI 0)))=some ((K:Int),false,c.u4 ns (tab K fun j=>nV (of j)))∧
  GV L ns∧ns.length≤K*o0 K L∧∀x,x<K→of x<ns.length∧∀w,WL L w→(lg ns (of x) w↔val w=x):=by
 have pV:od.length=K:=by rw[hp.length_eq];simp
 have kf:od.Nodup:=hp.nodup_iff.2 I6;have hB:=anI hK hL;have aJf:20≤o0 K L:=by unfold o0;omega
 have e0:List.replicate K (vI 0)=tab K fun j=>nV 0:=mG;have key:=gH (step:=Ii CC (nS od) (K:Int) k1 l1 l2 l3 l4 l5 k2 l6) (fun i (s:Int×Int×LV×LV×LV×LV×LV×LV×LV×LV×LV×LV×LV×LV)=> ∃(of:Nat→Nat) (ns:List Nd),s=((i:Int),c.u4 ns (tab K fun j=>nV (of j)))∧GV L ns∧ns.length≤i*o0 K L∧∀x∈od.take i,of x<ns.length∧∀w,WL L w→(lg ns (of x) w↔val w=x))
  (fun r=> ∃(of:Nat→Nat) (ns:List Nd),r=((K:Int),false,c.u4 ns (tab K fun j=>nV (of j)))∧GV L ns∧ns.length≤K*o0 K L∧∀x,x<K→of x<ns.length∧∀w,WL L w→(lg ns (of x) w↔val w=x)) K 0 (0,c.u4 [] (List.replicate K (vI 0)))
  (fun i _ hi s lk=> ?_) (fun s lk=> ?_) ⟨fun _=>0,[],by rw[e0];rfl,fun i d h=>by simp at h,by simp,fun x hx=>by simp at hx⟩
 ·obtain⟨r,e1,of,ns,rfl,h⟩:=key;exact⟨of,ns,e1,h⟩
 ·obtain⟨of,ns,rfl,h1,h2,h3⟩:=lk;rw[cL]at hi;have dO:i<od.length:=by omega
  have b1:i*o0 K L≤4896:=pL (n:=12) (m:=408) (by omega) hB (by omega);have OK:od[i]<K:=gM.1 (hp.mem_iff.1 (fx dO));have next:∀{j:Nat} {ms:List Nd},Xt L ns ms (o0 K L)→j<ms.length→(∀w,WL L w→(lg ms j w↔val w=od[i]))→
    GV L ms∧ms.length≤(i+1)*o0 K L∧∀x∈od.take (i+1),(if x=od[i]then j else of x)<ms.length∧∀w,WL L w→(lg ms (if x=od[i]then j else of x) w↔val w=x):=fun {j ms} X hj hw=>by
   refine⟨X.v,by have:=X.l;rw[sy];omega,fun x hx=> ?_⟩;by_cases cx:x=od[i]
   ·rw[aP cx];exact⟨hj,fun w h=>by rw[hw w h,cx]⟩
   ·rw[aM cx];rw[u9 dO]at hx;obtain⟨q1,q2⟩:=h3 x ((fQ.1 hx).resolve_right fun h=>cx (iY.1 h));exact⟨fY q1 X.le,fun w h=>by rw[X.lg h1 q1];exact q2 w h⟩
  have ofl:((decide (0≤(od[i]:Int)))&&(decide ((od[i]:Int)<((tab K fun j=>nV (of j)).length:Int))))=true:=by rw[fi];exact qj OK
  by_cases c0:i=0
  ·subst c0;obtain⟨t,ht⟩:=anH M ap hp hs;have h0:od[0]=0:=by
    have:od[0]? =some 0:=by rw[ht];rfl
    rw[cv dO]at this;exact fP this
   obtain⟨j,ms,e,X,hj,hw⟩:=aAr (one:=od[0]) (o:=tab K fun j=>nV (of j)) B h1 (by omega);refine⟨(((0+1:Nat):Int),c.u4 ms (tab K fun x=>nV (if x=od[0]then j else of x))),?_,_,ms,rfl,next (X.mono (by omega)) hj fun w pN=> ?_⟩
   ·simp only[Ii,Ih,un,BC.u4];refine bT (cF hi) (bs (qk dO) (bT rfl (bs e (bT ofl (bs (by exact dH (by rw[show((nV od[0]).toInt).toNat=od[0]from rfl];exact OK)) ?_)))));rw[bY (by omega),←anJ];rfl
   ·rw[hw,h0,val_zero M ap H pN];constructor
    ·intro h x hx;refine P5 fun bz=>h ?_;obtain⟨u,v,rfl⟩:=List.append_of_mem hx;exact⟨u,[x],v,by simp,x,pN x hx,bz,rfl⟩
    ·rintro h ⟨p,f,q,rfl,x,_,bz,rfl⟩;exact bz (h x (by simp))
  ·have kS:od[i]≠0:=by
    obtain⟨t,ht⟩:=anH M ap hp hs;intro e;have e1:od[0]? =some 0:=by rw[ht];rfl
    have e2:od[i]? =some 0:=by rw[cv dO,e]
    have FY:0<od.length:=by omega
    rw[cv FY]at e1;have:=(List.getElem_inj (h₀:=FY) (h₁:=dO) kf).1 ((fP e1).trans e.symm);omega
   have yr:∀x∈od.take i,x<K∧of x<ns.length:=fun x hx=>⟨gM.1 (hp.mem_iff.1 (List.mem_of_mem_take hx)),(h3 x hx).1⟩
   have dr:(od.take i).length=i:=by rw[u6];omega
   obtain⟨j,ms,e,X,hj,hw⟩:=aE1 B h1 (o:=tab K fun j=>nV (of j)) rfl OK yr (by omega) (by omega);rw[dr]at X;refine⟨(((i+1:Nat):Int),c.u4 ms (tab K fun x=>nV (if x=od[i]then j else of x))),?_,_,ms,rfl,next (X.mono (ad1 (by omega))) hj fun w pN=> ?_⟩
   ·simp only[Ii,Ih,un,BC.u4];have tk:((c.od.drop 0).take (((i:Int)).toNat-0))=nS (od.take i):=by
     rw[hod,wF,Int.toNat_natCast,Nat.sub_zero];unfold nS;rw[List.map_take]
    refine bT (cF hi) (bs (qk dO) (bF (by simp;omega) (bT (u7.2 ⟨bj (by omega),bj (by show(i:Int)≤((c.od.length:Nat):Int);rw[hod,ff];omega)⟩) ?_)));rw[tk];refine bs e (bT ofl (bs (by exact dH (by rw[show((nV od[i]).toInt).toNat=od[i]from rfl];exact OK)) ?_));rw[bY (by omega),←anJ];rfl
   ·rw[hw];exact aE9 M ap H OK kS (fun x hx h hn=>aE8 M hp hs dO hx h hn) (fun x hx w hw=>(h3 x hx).2 w hw) pN
 ·rw[cL]at lk;obtain⟨of,ns,rfl,h1,h2,h3⟩:=lk;refine⟨((K:Int),false,c.u4 ns (tab K fun j=>nV (of j))),?_,of,ns,rfl,h1,h2,fun x hx=>h3 x ?_⟩
  ·simp only[Ii,Ih,un,BC.u4];exact bF (cf (aR _)) (by rw[cf (aR _)])
  ·rw[←pV,tH];exact hp.mem_iff.2 (gM.2 hx)
end
theorem aFc{K:Nat}{g:Nat→Bool}{of:Nat→Nat}(hK:K≤400){k1 k2:Int}{l1 l2 l3 l4 l5 l6 l7 l8 l9 l10 l11 l12:LV}:Loop (OJ CC (tab K fun i=> .bool (g i)) (K:Int) k1 k2 l1 l2 l3 l4 l5 l6 l7 l8 l9 l10 l11 l12 (tab K fun j=>nV (of j))) (0,[])=some ((K:Int),false,nS (((List.range K).filter g).map of)):=by
 have key:=gp (step:=OJ CC (tab K fun i=> .bool (g i)) (K:Int) k1 k2 l1 l2 l3 l4 l5 l6 l7 l8 l9 l10 l11 l12 (tab K fun j=>nV (of j))) K (fun i=>((i:Int),nS (((List.range i).filter g).map of))) ((K:Int),false,nS (((List.range K).filter g).map of)) (fun i hi=> ?_) ?_
 ·exact key
 ·simp only[OJ,OI,un];refine bT (cF hi) (bs (pC hi) ?_);rw[Fy,List.filter_append,sA];cases hg:g i with
  |true=>
   have hl:((List.range i).filter g).length≤i:=lR (List.length_filter_le _ _) (by simp);refine bT rfl ((aU (dH hi)).trans (bT (HZ (by rw[dD];omega)) ?_));rw[bY (by omega)];simp[hg,nS,nV]
  |false=>
   refine bF rfl ?_;rw[bY (by omega)];simp[hg]
 ·simp only[OJ,OI,un];exact bF (cf (aR _)) (by rw[cf (aR _)])
section
variable {a:Da}(ha:a.Ok){S:List (List Nat)}(hS:wj (minD a) S){f:Nat→List UInt8}(wv:CC 7 (iC a)=some (ox (minD a) S f++[vI 0]))(hL:(minD a).L≤2)
include ha hS wv
theorem aFd(h:CC 9 (ox (minD a) S f)=some [.bool false]):CC 8 (ox (minD a) S f)=some [vI 0,vI 20,cz [],ab []]:=by
 have fin:∀z,Ik CC ((minD a).L:Int) (lC S) (tab S.length fun j=> .str (f j)) (mI (minD a) S) (nA (minD a) S) (mH (minD a).L (minD a).gT S S.length)=z→CC 8 (ox (minD a) S f)=z:=fun z h=>anF h;refine fin _ ?_;unfold Ik;exact bs (OA ha hS wv) (bF rfl (bs h (bT rfl rfl)))
include hL
theorem aFe(ap:uW S.length (eH S))(hA:CC 9 (ox (minD a) S f)=some [.bool true])(hK:S.length≤12):∃r,CC 8 (ox (minD a) S f)=some r∧
  (S.length≤5→∃(i:Nat) (ns:List Nd) (o:LV),r=[vI (i:Int),vI 0,cz (ns.map Nd.v),ab o]∧GV (minD a).L ns∧i<ns.length∧ns.length≤1000∧∀w,WL (minD a).L w→(lg ns i w↔(minD a).acc (minD a).st w=true)):=by
 have hm:=tt ha;have M:=anA hm hS;have H:=aCn hm hS;have fin:∀z,Ik CC ((minD a).L:Int) (lC S) (tab S.length fun j=> .str (f j)) (mI (minD a) S) (nA (minD a) S) (mH (minD a).L (minD a).gT S S.length)=z→CC 8 (ox (minD a) S f)=z:=fun z h=>anF h;have hl:(lC S).length=S.length:=fi;have l1:=hm.l1;obtain⟨od,e1,hp,hs⟩:=aE3 (t:=lC S) (K:=S.length) (mul:=eH S) rfl (fun i j hi hj=>H6 hm hS hi hj) hK;have him:mI (minD a) S=tab (minD a).L fun x=>nV (vl (minD a) S [x]):=by
  unfold mI nS;refine PM fun i=> ?_;by_cases hi:i<(minD a).L
  ·have e:=aBK (m:=minD a) (S:=S) (w:=[]) (x:=i) hi;rw[dH hi];have hlen:(fM (minD a).L (minD a).gT S (List.range (minD a).n)).length=(minD a).L:=by simp[fM]
   rw[mY,cv (by rw[hlen];exact hi)];refine congrArg (fun z=>some (nV z)) ?_;rw[←dK (d:=0)];exact e
  ·rw[P0 (by simp[fM];omega),P0 (by rw[fi];omega)]
 let c:BC:=⟨((minD a).L:Int),lC S,tab S.length fun j=> .str (f j),mI (minD a) S,nA (minD a) S,mH (minD a).L (minD a).gT S S.length,dq S.length (Rr S.length (eH S)),dq S.length (Lr S.length (eH S)),dq S.length (Jr S.length (eH S)),nS od⟩
 have B:BK c (minD a).L S.length (eH S) fun x=>vl (minD a) S [x]:=⟨him,rfl,rfl,rfl,rfl,fun x hx=>Cl hS (fun y hy=>by rw[iY.1 hy];exact hx),fun i j hi hj=>H6 hm hS hi hj,by omega,by omega⟩
 obtain⟨of,ns,e2,h1,h2,h3⟩:=aFb B M ap H hK hL hp hs rfl (k1:=((minD a).L:Int)) (k2:=0) (l1:=lC S) (l2:=tab S.length fun j=> .str (f j)) (l3:=mI (minD a) S) (l4:=nA (minD a) S) (l5:=mH (minD a).L (minD a).gT S S.length) (l6:=[]);have hB:=anI hK hL;have b1:S.length*o0 S.length (minD a).L≤4896:=pL (n:=12) (m:=408) hK hB (by omega);have mz:∀x∈((List.range S.length).filter fun i=>(minD a).fin ((S.getD i []).getD (minD a).st 0)).map of,x<ns.length:=fun x hx=>by
  obtain⟨y,hy,rfl⟩:=iZ.1 hx;exact(h3 y (gM.1 (FA.1 hy).1)).1
 have ld:((List.range S.length).filter fun i=>(minD a).fin ((S.getD i []).getD (minD a).st 0)).length≤S.length:=lR (List.length_filter_le _ _) (by simp);obtain⟨i,ms,e3,X,hi,hw⟩:=US (c:=c) (o:=tab S.length fun j=>nV (of j)) h1 (by omega) (l:=((List.range S.length).filter fun i=>(minD a).fin ((S.getD i []).getD (minD a).st 0)).map of) (by rw[dD];omega) mz;by_cases lim:decide (((wrap .i64 ((wrap .i64 (((minD a).L:Int)+1))*(wrap .i64 ((wrap .i64 (((minD a).L:Int)+1))*(wrap .i64 ((wrap .i64 ((S.length:Int)+2))*(wrap .i64 ((wrap .i64 ((S.length:Int)+2))*8)))))))):Int)>20000)=true
 ·refine⟨[vI 0,vI 3,cz [],ab []],fin _ ?_,fun h5=> ?_⟩
  ·unfold Ik;rw[hl];exact bs (OA ha hS wv) (bF rfl (bs hA (bF rfl (bT lim rfl))))
  ·exfalso;have ka:=hS.pos;revert lim;generalize S.length=n at h5 ka;generalize (minD a).L=k at l1 hL;rcases(by omega:k=1∨k=2)with rfl|rfl<;>rcases(by omega:n=1∨n=2∨n=3∨n=4∨n=5)with rfl|rfl|rfl|rfl|rfl<;>decide
 ·refine⟨[vI (i:Int),vI 0,cz (ms.map Nd.v),ab (tab S.length fun j=>nV (of j))],fin _ ?_,fun h5=>⟨i,ms,_,rfl,X.v,hi,?_,fun w pN=> ?_⟩⟩
  ·unfold Ik;rw[hl,Int.toNat_natCast];refine bs (OA ha hS wv) (bF rfl (bs hA (bF rfl (bF (by simpa using lim) (bs e1 (bT (iB (by omega) (by omega)) ?_))))));have aFf:(((nS od).length:Nat):Int)=(S.length:Int):=by rw[ff,hp.length_eq];simp
   simp only[PU,wF,V.jE,V.fa,gI,gL,gB,gS,js,mR,vR,uy,BB,dm,jo,uw,LB,G2,dw,jT,ux,nq,s6,jr,oq,qR,sW,sX,sY,sZ,vQ,G1,GZ,G0,xP,xQ,xR,vM,vN,xS,vO,vP,xT,xU,jq,oR,uv,G3,D6,Lu,Lv,Lt,Lw,lx,Lx,Ly,BA,LA];rw[aFf];refine bs e2 ?_;simp only[BC.u4,un];have dr:(((nA (minD a) S).length:Nat):Int)=(S.length:Int):=by unfold nA;rw[fi]
   rw[dr];refine bs (aFc (by omega)) ?_;exact bs e3 rfl
  ·have:=X.l;rw[dD]at this;have b2:S.length*o0 S.length (minD a).L≤920:=pL (n:=5) (m:=184) h5 (aFa h5 hL) (by omega);omega
  ·rw[hw];constructor
   ·rintro⟨x,hx,h⟩;obtain⟨y,hy,rfl⟩:=iZ.1 hx;obtain⟨Rn,hy2⟩:=FA.1 hy;have e:=((h3 y (gM.1 Rn)).2 w pN).1 h;subst e;rw[Ap hS pN,EW hm hm.s pN]at hy2;exact hy2
   ·intro h;refine⟨of (vl (minD a) S w),iZ.2 ⟨_,FA.2 ⟨gM.2 (Cl hS pN),?_⟩,rfl⟩,((h3 _ (Cl hS pN)).2 w pN).2 rfl⟩;rw[Ap hS pN,EW hm hm.s pN];exact h
end
noncomputable def aFg(C:af)(op:Int):Option LV:=
 bif op==5 then
  bif op==5 then
  some [vI 2]
  else
  bif op==8 then
   some [vI 1]
  else
   some [vI 0]
 else
  bif op==6 then
  bif op==6 then
   some [vI 2]
  else
   bif op==8 then
   some [vI 1]
   else
   some [vI 0]
  else
  bif op==7 then
   some [vI 2]
  else
   bif op==8 then
   some [vI 1]
   else
   some [vI 0]
theorem aFh{op:Int}{r:Option LV}(h:aFg CC op=r):CC 34 [vI op]=r:=bR (L:=bS) ak h
noncomputable def anK(C:af)(part i:Int)(Ar:Bool):Option LV:=
 bif Ar then
  bif decide (part≥0)then
  some [.bool (decide (part<i))]
  else
  some [.bool false]
 else
  some [.bool (part==0)]
theorem aFi{part i:Int}{Ar:Bool}{r:Option LV}(h:anK CC part i Ar=r):CC 126 [vI part,vI i,.bool Ar]=r:=bR (L:=bS) ak h
noncomputable def OL(C:af)(i aO:Int)(t17:Bool)(jy lJ dS fV:Int){β:Type}(kr:ay ((Bool) ⊕ (Unit)) β):Option β:=
 bif t17 then
  bif decide (lJ<0)then
  kr (.inl false)
  else
  bif decide (lJ≥aO)then
   kr (.inl false)
  else
   kr (.inr ())
 else
  bif lJ != 0 then
  kr (.inl false)
  else
  kr (.inr ())
noncomputable def aFj(C:af):da:=lu 287 aaN [[0],[1,4,5,6,7]] (@OL C) bS
theorem aFk(C:af):bt C (aFj C) 86 (Cd 17 [1,1,0,1,0] [1,1,0,1,1] 86):=lr aaN [[0],[1,4,5,6,7]] (@OL C) (aY ak) (aY ak)
noncomputable def anL(C:af)(gJ lE iF iR i aO:Int):Option LV:=
 bif decide (gJ<1)then
  some [.bool false]
 else
  bif decide (gJ>8)then
  some [.bool false]
  else
  OL C i aO (gJ==3) gJ lE iF iR (gZ (fun(qo:Bool)=>
   some [.bool qo]) (fun _=>
   (C 34 [vI gJ]).bind fun r2=>
   (C 126 [vI iF,vI i,.bool (decide (((gI r2):Int)≥1))]).bind fun r3=>
   bif (gB r3)then
    (C 34 [vI gJ]).bind fun r4=>
    (C 126 [vI iR,vI i,.bool (((gI r4):Int)==2)]).bind fun r5=>
    some [.bool (gB r5)]
   else
    some [.bool false]))
theorem aFl{gJ lE iF iR i aO:Int}{r:Option LV}(h:anL CC gJ lE iF iR i aO=r):CC 86 [vI gJ,vI lE,vI iF,vI iR,vI i,vI aO]=r:=bR (br (aFk CC) ak) h
noncomputable def OM(C:af)(aO:Int)(t18:LV)(t19:Int)(gK:LV)(ji t20:Int){β:Type}(kn:ay Int β)(kr:ay ((Int) ⊕ (Int×Bool)) β):Option β:=
 bif decide (t20<t19)then
  (idx t18 t20).bind fun x1=>
  (C 86 (SI x1 [vI t20,vI aO])).bind fun r2=>
  bif !(gB r2)then
  kr (.inl 22)
  else
  kn (wrap .i64 (t20+1))
 else
  kr (.inr (t20,decide (t20<t19)))
noncomputable def ad2(C:af)(aO:Int)(t18:LV)(t19:Int)(gK:LV)(ji:Int):=fun t20=>OM C aO t18 t19 gK ji t20 ct cu
noncomputable def aFm(C:af):da:=cm 97 ZX (aN 6 8) [[0],[1,2,3,0,0,5,6]] (@OM C) bS
theorem aFn(C:af):bt C (aFm C) 32 (Lp [1,1,1,0,1,0,0] 32):=cj ZX (aN 6 8) [[0],[1,2,3,0,0,5,6]] (@OM C) (aY ak)
noncomputable def anM(C:af)(dk:LV)(ew aO:Int):Option LV:=
 bif decide (aO<1)then
  some [vI 1]
 else
  bif decide (aO>6)then
  some [vI 1]
  else
  bif decide ((dk.length:Int)>20000)then
   some [vI 3]
  else
   (Loop (ad2 C aO dk (dk.length:Int) dk ew) 0).bind (gZ (fun fL=>
    some [vI fL]) (un fun(hZ:Int) (jV:Bool)=>
    bif decide (ew<0)then
    some [vI 22]
    else
    bif decide (ew≥(dk.length:Int))then
     some [vI 22]
    else
     some [vI 0]))
theorem aFo{dk:LV}{ew aO:Int}{r:Option LV}(h:anM CC dk ew aO=r):CC 32 [cz dk,vI ew,vI aO]=r:=bR (br (aFn CC) ak) h
def As(op:Nat):Nat:=if 5≤op then(if op=8 then 1 else 2)else 0
theorem Vk{op:Nat}(h:op≤8):CC 34 [vI (op:Int)]=some [vI (As op:Int)]:=by
 refine aFh ?_;rcases(by omega:op=0∨op=1∨op=2∨op=3∨op=4∨op=5∨op=6∨op=7∨op=8)with rfl|rfl|rfl|rfl|rfl|rfl|rfl|rfl|rfl<;>rfl
theorem anN{p i:Nat}{b:Bool}(h1:b=true→p<i)(h2:b=false→p=0):CC 126 [vI (p:Int),vI (i:Int),.bool b]=some [.bool true]:=by
 refine aFi ?_;unfold anK;cases b with
 |true=>
  refine bT rfl (bT (bj (by omega)) ?_);rw[bj (by have:=h1 rfl;omega)]
 |false=>
  refine bF rfl ?_;rw[h2 rfl];rfl
theorem aFp{d:Nd}{L i:Nat}(h:d.Ok L i):CC 86 [vI (d.op:Int),vI (d.x:Int),vI (d.a:Int),vI (d.b:Int),vI (i:Int),vI (L:Int)]=some [.bool true]:=by
 have o1:=h.o1;have o8:=h.o8;refine aFl ?_;unfold anL;refine bF (cw (by omega)) (bF (cw (by omega)) ?_);have key:∀{β:Type} (K:Bool ⊕ Unit→Option β),OL CC (i:Int) (L:Int) ((d.op:Int)==3) (d.op:Int) (d.x:Int) (d.a:Int) (d.b:Int) K=K (.inr ()):=by
  intro β K;unfold OL;by_cases h3:d.op=3
  ·have:=h.x1 h3;exact bT (by simp[h3]) (bF (cw (by omega)) (bF (cw (by omega)) rfl))
  ·have:=h.x0 h3;exact bF (by simp;omega) (bF (by simp[this]) rfl)
 rw[key];simp only[gZ];refine bs (Vk o8) ?_;simp only[V.jE,V.toInt_int,gI,gL,gB,gS];have e1:decide ((As d.op:Int)≥1)=decide (5≤d.op):=by
  unfold As;by_cases h5:5≤d.op
  ·rw[aP h5,bj h5];by_cases h8:d.op=8<;>simp[h8]
  ·rw[aM h5,cw h5];simp
 have e2:((As d.op:Int)==2)=decide (5≤d.op∧d.op≠8):=by
  unfold As;by_cases h5:5≤d.op
  ·rw[aP h5];by_cases h8:d.op=8<;>simp[h5,h8]
  ·rw[aM h5,cw (fun h=>h5 h.1)];rfl
 rw[e1];refine bs (anN (fun hb=>h.a1 (AA hb)) (fun hb=>h.a0 (by have:=yT hb;omega))) (bT rfl ?_);refine bs (Vk o8) ?_;simp only[V.jE,V.toInt_int,gI,gL,gB,gS];rw[e2];refine bs (anN (fun hb=>h.b1 (AA hb).1 (AA hb).2) (fun hb=>h.b0 (by have:=yT hb;omega))) ?_;rfl
theorem Nd.cells{d:Nd}:(d.v.cell 0).toInt=(d.op:Int)∧(d.v.cell 1).toInt=(d.x:Int)∧(d.v.cell 2).toInt=(d.a:Int)∧(d.v.cell 3).toInt=(d.b:Int):=⟨rfl,rfl,rfl,rfl⟩
noncomputable def Il(C:af)(i:Int)(t33:Bool)(gK:LV)(ji:Int)(yw:LV)(jy lJ dS fV:Int){β:Type}(kr:ay LV β):Option β:=
 bif t33 then
  aL yw dS fun x5=>
  kr (aG yw dS (.bool true))
 else
  kr yw
noncomputable def ON(C:af)(gK:LV)(ji i:Int)(yw:LV){β:Type}(kn:ay (Int×LV) β)(kr:ay (Int×Bool×LV) β):Option β:=
 bif decide (i≥0)then
  aL yw i fun x2=>
  bif !x2.toBool then
  kn (wrap .i64 (i-1),yw)
  else
  (idx gK i).bind fun x3=>
  (C 34 [vI ((x3.cell 0).toInt)]).bind fun r4=>
  Il C i (decide (((gI r4):Int)≥1)) gK ji yw ((x3.cell 0).toInt) ((x3.cell 1).toInt) ((x3.cell 2).toInt) ((x3.cell 3).toInt) (fun(ad3:LV)=>
   (C 34 [vI ((x3.cell 0).toInt)]).bind fun r7=>
   bif ((gI r7):Int)==2 then
    aL ad3 ((x3.cell 3).toInt) fun x8=>
    kn (wrap .i64 (i-1),aG ad3 ((x3.cell 3).toInt) (.bool true))
   else
    kn (wrap .i64 (i-1),ad3))
 else
  kr (i,decide (i≥0),yw)
noncomputable def Vl(C:af)(gK:LV)(ji:Int):=un fun i yw=>ON C gK ji i yw ct cu
noncomputable def anO(C:af):da:=lu 543 ZY [[1,3,4,0,6,7,8,9]] (@Il C) (cm 65 ZZ [zK,zJ,zJ,zK] [[0,0,2,3,0]] (@ON C) bS)
theorem aFq(C:af):bt C (anO C) 33 (Cd 33 [1,1,1,0,1,0,0,1,0,0,1,1,0,1,0] [1,1,1,0,1,0,0,1,0,0,1,1,0,1,1] 33):=lr ZY [[1,3,4,0,6,7,8,9]] (@Il C) (aY ak) (aY ak)
theorem aFr(C:af):bt C (anO C) 33 (Lp [1,1,1,0,1,0,0] 33):=cj ZZ [zK,zJ,zJ,zK] [[0,0,2,3,0]] (@ON C) (aY (br (aFq C) ak))
noncomputable def anP(C:af)(dk:LV)(ew:Int):Option LV:=
 bif (decide (0≤(dk.length:Int)))&&((decide ((dk.length:Int)≤(dk.length:Int)))&&(Nat.ble (((dk.length:Int).toNat)*1) bf))then
  aL (List.replicate ((dk.length:Int).toNat) (V.bool false)) ew fun x1=>
  (Loop (Vl C dk ew) (ew,aG (List.replicate ((dk.length:Int).toNat) (V.bool false)) ew (.bool true))).bind (un fun i_9=>un fun(z9:Bool) (aFs:LV)=>
   some [au aFs])
 else none
theorem aFt{dk:LV}{ew:Int}{r:Option LV}(h:anP CC dk ew=r):CC 33 [cz dk,vI ew]=r:=bR (br (aFr CC) ak) h
noncomputable def Im(C:af)(i t22 t23:Int)(t38:Bool)(gK:LV)(ji jx jz:Int)(numbers:LV)(jy lJ dS fV:Int)(E3 aC aH:LV){β:Type}(kr:ay (Int) β):Option β:=
 bif t38 then
  aL numbers dS fun x6=>
  kr x6.toInt
 else
  kr dS
noncomputable def Io(C:af)(i t22 t23:Int)(t48:Bool)(gK:LV)(ji jx jz:Int)(numbers:LV)(jy lJ dS fV:Int)(E3 aC aH:LV){β:Type}(kr:ay (Int) β):Option β:=
 bif t48 then
  aL numbers fV fun x9=>
  kr x9.toInt
 else
  kr fV
noncomputable def OO(C:af)(t22:Int)(gK:LV)(ji jx jz:Int)(E3 aw:LV)(t23:Int)(numbers aC:LV){β:Type}(kn:ay (Int×LV×LV) β)(kr:ay (Int×Bool×LV×LV) β):Option β:=
 bif decide (t23<t22)then
  aL E3 t23 fun x3=>
  bif !x3.toBool then
  kn (wrap .i64 (t23+1),numbers,aC)
  else
  (idx gK t23).bind fun x4=>
  (C 34 [vI ((x4.cell 0).toInt)]).bind fun r5=>
  Im C t23 t22 t23 (decide (((gI r5):Int)≥1)) gK ji jx jz numbers ((x4.cell 0).toInt) ((x4.cell 1).toInt) ((x4.cell 2).toInt) ((x4.cell 3).toInt) E3 aw aC (fun ad4=>
   (C 34 [vI ((x4.cell 0).toInt)]).bind fun r8=>
   Io C t23 t22 t23 (((gI r8):Int)==2) gK ji jx jz numbers ((x4.cell 0).toInt) ((x4.cell 1).toInt) ad4 ((x4.cell 3).toInt) E3 aw aC (fun anQ=>
    aL numbers t23 fun ny=>
    bif Nat.ble ((aC.length+([.agg [vI ((x4.cell 0).toInt),vI ((x4.cell 1).toInt),vI ad4,vI anQ]]:LV).length)*32) bf then
     kn (wrap .i64 (t23+1),aG numbers t23 (vI (aC.length:Int)),aC++([.agg [vI ((x4.cell 0).toInt),vI ((x4.cell 1).toInt),vI ad4,vI anQ]]:LV))
    else none))
 else
  kr (t23,decide (t23<t22),numbers,aC)
noncomputable def Vm(C:af)(t22:Int)(gK:LV)(ji jx jz:Int)(E3 aw:LV):=un fun t23=>un fun numbers aC=>OO C t22 gK ji jx jz E3 aw t23 numbers aC ct cu
noncomputable def ad5(C:af):da:=lu 623 Zt [[1,2,3,5,6,7,8,9,10,11,0,13,14,15,16]] (@Im C) (lu 783 Zu [[1,2,3,5,6,7,8,9,10,11,12,0,14,15,16]] (@Io C) (cm 113 Zv (aN 10 578) [[1,0,0,3,4,5,6,0,8,9,0]] (@OO C) bS))
theorem aFu(C:af):bt C (ad5 C) 11 (Cd 38 [1,1,1,1,0,1,0,0,1,1,0,0,1,1,1,0,1,0] [1,1,1,1,0,1,0,0,1,1,0,0,1,1,1,0,1,1] 11):=lr Zt [[1,2,3,5,6,7,8,9,10,11,0,13,14,15,16]] (@Im C) (aY ak) (aY ak)
theorem aFv(C:af):bt C (ad5 C) 11 (Cd 48 [1,1,1,1,0,1,0,0,1,1,0,0,1,1,1,1,0,1,0] [1,1,1,1,0,1,0,0,1,1,0,0,1,1,1,1,0,1,1] 11):=lr Zu [[1,2,3,5,6,7,8,9,10,11,12,0,14,15,16]] (@Io C) (aY ak) (aY ak)
theorem aFw(C:af):bt C (ad5 C) 11 (Lp [1,1,1,1,0,1,0,0] 11):=cj Zv (aN 10 578) [[1,0,0,3,4,5,6,0,8,9,0]] (@OO C) (aY (br (aFu C) (br (aFv C) ak)))
noncomputable def anR(C:af)(dk:LV)(ew:Int):Option LV:=
 (C 32 [cz dk,vI ew,vI 6]).bind fun r1=>
 bif ((gI r1):Int) != 0 then
  some [vI 0,vI (gI r1),cz ([]:LV)]
 else
  bif (decide (0≤(dk.length:Int)))&&((decide ((dk.length:Int)≤(dk.length:Int)))&&(Nat.ble (((dk.length:Int).toNat)*8) bf))then
  (C 33 [cz dk,vI ew]).bind fun r2=>
  (Loop (Vm C ((gL r2).length:Int) dk ew 0 0 (gL r2) ([]:LV)) (0,List.replicate ((dk.length:Int).toNat) (vI 0),([]:LV))).bind (un fun Uw=>un fun(Er:Bool)=>un fun(aJg:LV) (uF:LV)=>
   some [vI (wrap .i64 ((uF.length:Int)-1)),vI 0,cz uF])
  else none
theorem aFx{dk:LV}{ew:Int}{r:Option LV}(h:anR CC dk ew=r):CC 11 [cz dk,vI ew]=r:=bR (br (aFw CC) ak) h
theorem GV.mono{L L':Nat}{ns:List Nd}(h:GV L ns)(hL:L≤L'):GV L' ns:=fun i d hd=>by
 have o:=h i d hd;exact⟨o.o1,o.o8,fun h=>fY (o.x1 h) hL,o.x0,o.a1,o.a0,o.b1,o.b0⟩
theorem yx{ns:List Nd}{i:Nat}(hi:i<ns.length):idx (ns.map Nd.v) (i:Int)=some ns[i].v:=by rw[zB rfl];simp[hi]
theorem Ip{op:Nat}:decide ((As op:Int)≥1)=decide (5≤op):=by
 unfold As;by_cases h5:5≤op
 ·rw[aP h5,bj h5];by_cases h8:op=8<;>simp[h8]
 ·rw[aM h5,cw h5];simp
theorem Iq{op:Nat}:((As op:Int)==2)=decide (5≤op∧op≠8):=by
 unfold As;by_cases h5:5≤op
 ·rw[aP h5];by_cases h8:op=8<;>simp[h5,h8]
 ·rw[aM h5,cw (fun h=>h5 h.1)];rfl
section
variable {L:Nat}{ns:List Nd}(hv:GV L ns)(h1:1≤L)(h6:L≤6)(hn:ns.length≤20000){r:Nat}(hr:r<ns.length)
include hv hn hr
include h1 h6 in
theorem ad6:CC 32 [cz (ns.map Nd.v),vI (r:Int),vI (L:Int)]=some [vI 0]:=by
 refine aFo ?_;unfold anM;rw[dD];refine bF (cw (by omega)) (bF (cw (by omega)) (bF (cw (by omega)) ?_));refine bs (gp ns.length (fun i=>(i:Int)) (.inr ((ns.length:Int),false)) (fun i hi=> ?_) ?_) ?_
 ·simp only[ad2,OM];refine bT (cF hi) ?_;refine bs (yx hi) ?_
  try simp only[Nd.cells]
  refine bs (aFp (hv i _ (cv hi))) (bF rfl ?_);rw[bY (by omega)]
 ·simp only[ad2,OM];refine bF (cf (aR _)) ?_;rw[cf (aR _)]
 ·simp only[gZ,un];exact bF (cw (by omega)) (bF (cw (by omega)) rfl)
structure Mk(ns:List Nd)(r:Nat)(mk:Nat→Bool):Prop where
 eR:mk r=true
 eLe:∀j,mk j=true→j≤r
 eA:∀(j:Nat) d,ns[j]? =some d→mk j=true→5≤d.op→mk d.a=true
 eB:∀(j:Nat) d,ns[j]? =some d→mk j=true→5≤d.op→d.op≠8→mk d.b=true
omit hv hn hr in
theorem Vn{n a:Nat}{mk:Nat→Bool}:aG (tab n fun i=> .bool (mk i)) (a:Int) (.bool true)=tab n fun i=> .bool (decide (i=a)||mk i):=by
 unfold aG;rw[Int.toNat_natCast,jf];refine dA fun j _=> ?_;by_cases c:j=a
 ·rw[aP c];simp[c]
 ·rw[aM c];simp[c]
theorem anS:∃mk,Mk ns r mk∧CC 33 [cz (ns.map Nd.v),vI (r:Int)]=some [au (tab ns.length fun i=> .bool (mk i))]:=by
 have e0:List.replicate ns.length (V.bool false)=tab ns.length fun _=> .bool false:=mG;have key:=gH (step:=Vl CC (ns.map Nd.v) (r:Int)) (fun t (s:Int×LV)=> ∃mk:Nat→Bool,s=((r:Int)-(t:Int),tab ns.length fun i=> .bool (mk i))∧mk r=true∧(∀j,mk j=true→j≤r)∧(∀(j:Nat) d,r<j+t→ns[j]? =some d→mk j=true→5≤d.op→mk d.a=true)∧∀(j:Nat) d,r<j+t→ns[j]? =some d→mk j=true→5≤d.op→d.op≠8→mk d.b=true)
  (fun x=> ∃mk:Nat→Bool,x=((-1:Int),false,tab ns.length fun i=> .bool (mk i))∧Mk ns r mk) (r+1) 0 ((r:Int),aG (List.replicate ns.length (V.bool false)) (r:Int) (.bool true))
  (fun t _ ht s hs=> ?_) (fun s hs=> ?_) ⟨fun i=>decide (i=r)||false,by rw[e0,Vn (mk:=fun _=>false)];simp,by simp,by simp,fun j d hj hd hm=>by simp at hm;omega,fun j d hj hd hm=>by simp at hm;omega⟩
 ·obtain⟨x,e1,mk,rfl,hm⟩:=key;refine⟨mk,hm,aFt ?_⟩;unfold anP;rw[dD,Int.toNat_natCast];refine bT (iB (by omega) (by omega)) ((aU (v:= .bool false) (by simp[hr])).trans ?_);exact bs e1 rfl
 ·obtain⟨mk,rfl,m1,m2,m3,m4⟩:=hs;rw[cL]at ht;obtain⟨i,hi⟩:∃i:Nat,i+t=r:=⟨r-t,by omega⟩
  have ei:(r:Int)-(t:Int)=(i:Int):=by omega
  have en:wrap .i64 ((i:Int)-1)=(r:Int)-((t+1:Nat):Int):=by rw[show(r:Int)-((t+1:Nat):Int)=(i:Int)-1 by omega];exact wrap64 (by omega) (by omega)
  have gk:i<ns.length:=by omega
  have aD:=hv i _ (cv gk);rw[ei];simp only[Vl,ON,un];cases qp:mk i with
  |false=>
   refine⟨((r:Int)-((t+1:Nat):Int),tab ns.length fun i=> .bool (mk i)),bT (bj (by omega)) ((aU (dH gk)).trans (bT (by rw[qp];rfl) (by rw[en]))),mk,rfl,m1,m2,fun j d hj hd hm h5=> ?_,fun j d hj hd hm h5 h8=> ?_⟩
   ·by_cases c:j=i
    ·rw[c,qp]at hm;cases hm
    ·exact m3 j d (by omega) hd hm h5
   ·by_cases c:j=i
    ·rw[c,qp]at hm;cases hm
    ·exact m4 j d (by omega) hd hm h5 h8
  |true=>
   have pt:=Vk (op:=ns[i].op) aD.o8;by_cases h5:5≤ns[i].op
   ·have ha:=aD.a1 h5;have dr:ns[i].a<ns.length:=by omega
    by_cases h8:ns[i].op=8
    ·refine⟨((r:Int)-((t+1:Nat):Int),tab ns.length fun j=> .bool (decide (j=ns[i].a)||mk j)),bT (bj (by omega)) ((aU (dH gk)).trans (bF (by rw[qp];rfl) (bs (yx gk) ?_))),fun j=>decide (j=ns[i].a)||mk j,rfl,by simp[m1],fun j hj=> ?_,fun j d hj hd hm oA=> ?_,fun j d hj hd hm oA Vo=> ?_⟩
     ·try simp only[Nd.cells]
      refine bs pt ?_;simp only[V.jE,V.toInt_int,gI,gL,gB,gS];rw[Ip];unfold Il;refine bT (bj h5) ((aU (dH dr)).trans (bs pt ?_));simp only[V.jE,V.toInt_int,gI,gL,gB,gS];rw[Iq];refine bF (cw fun h=>h.2 h8) ?_;rw[en,Vn]
     ·simp only[qw,il]at hj;rcases hj with rfl|hj
      ·omega
      ·exact m2 j hj
     ·simp only[qw,il]at hm⊢;by_cases c:j=i
      ·subst c;rw[cv gk]at hd;cases hd;exact .inl rfl
      ·refine .inr (m3 j d (by omega) hd (hm.resolve_left fun e=> ?_) oA);omega
     ·simp only[qw,il]at hm⊢;by_cases c:j=i
      ·subst c;rw[cv gk]at hd;cases hd;exact absurd h8 Vo
      ·refine .inr (m4 j d (by omega) hd (hm.resolve_left fun e=> ?_) oA Vo);omega
    ·have hb:=aD.b1 h5 h8;have qC:ns[i].b<ns.length:=by omega
     refine⟨((r:Int)-((t+1:Nat):Int),tab ns.length fun j=> .bool (decide (j=ns[i].b)||(decide (j=ns[i].a)||mk j))),bT (bj (by omega)) ((aU (dH gk)).trans (bF (by rw[qp];rfl) (bs (yx gk) ?_))),fun j=>decide (j=ns[i].b)||(decide (j=ns[i].a)||mk j),rfl,by simp[m1],fun j hj=> ?_,fun j d hj hd hm oA=> ?_,fun j d hj hd hm oA Vo=> ?_⟩
     ·try simp only[Nd.cells]
      refine bs pt ?_;simp only[V.jE,V.toInt_int,gI,gL,gB,gS];rw[Ip];unfold Il;refine bT (bj h5) ((aU (dH dr)).trans (bs pt ?_));simp only[V.jE,V.toInt_int,gI,gL,gB,gS];rw[Iq,Vn];refine bT (bj ⟨h5,h8⟩) ((aU (dH qC)).trans ?_);rw[en,Vn (mk:=fun j=>decide (j=ns[i].a)||mk j)]
     ·simp only[qw,il]at hj;rcases hj with rfl|rfl|hj
      ·omega
      ·omega
      ·exact m2 j hj
     ·simp only[qw,il]at hm⊢;by_cases c:j=i
      ·subst c;rw[cv gk]at hd;cases hd;exact .inr (.inl rfl)
      ·refine .inr (.inr (m3 j d (by omega) hd ((hm.resolve_left fun e=> ?_).resolve_left fun e=> ?_) oA))<;>omega
     ·simp only[qw,il]at hm⊢;by_cases c:j=i
      ·subst c;rw[cv gk]at hd;cases hd;exact .inl rfl
      ·refine .inr (.inr (m4 j d (by omega) hd ((hm.resolve_left fun e=> ?_).resolve_left fun e=> ?_) oA Vo))<;>omega
   ·refine⟨((r:Int)-((t+1:Nat):Int),tab ns.length fun i=> .bool (mk i)),bT (bj (by omega)) ((aU (dH gk)).trans (bF (by rw[qp];rfl) (bs (yx gk) ?_))),mk,rfl,m1,m2,fun j d hj hd hm oA=> ?_,fun j d hj hd hm oA h8=> ?_⟩
    ·try simp only[Nd.cells]
     refine bs pt ?_;simp only[V.jE,V.toInt_int,gI,gL,gB,gS];rw[Ip];unfold Il;refine bF (cw h5) (bs pt ?_);simp only[V.jE,V.toInt_int,gI,gL,gB,gS];rw[Iq];refine bF (cw fun h=>h5 h.1) ?_;rw[en]
    ·by_cases c:j=i
     ·subst c;rw[cv gk]at hd;cases hd;exact absurd oA h5
     ·exact m3 j d (by omega) hd hm oA
    ·by_cases c:j=i
     ·subst c;rw[cv gk]at hd;cases hd;exact absurd oA h5
     ·exact m4 j d (by omega) hd hm oA h8
 ·obtain⟨mk,rfl,m1,m2,m3,m4⟩:=hs;refine⟨((-1:Int),false,tab ns.length fun i=> .bool (mk i)),?_,mk,rfl,m1,m2,fun j d hd hm h5=>m3 j d (by omega) hd hm h5,fun j d hd hm h5 h8=>m4 j d (by omega) hd hm h5 h8⟩;simp only[Vl,ON,un];rw[show(r:Int)-((0+(r+1):Nat):Int)= -1 by omega];exact bF rfl rfl
end
section
variable {L:Nat}{ns:List Nd}(hv:GV L ns)
include hv
theorem aFy{ms:List Nd}{num:Nat→Nat}(hm:GV L ms){i:Nat}(hi:i<ns.length){d:Nd}(hd:ns[i]? =some d){A B:Nat}
  (hA:5≤d.op→A<ms.length∧lg ms A=lg ns d.a) (Rz:d.op<5→A=d.a) (hB:5≤d.op→d.op≠8→B<ms.length∧lg ms B=lg ns d.b) (hB0:d.op<5∨d.op=8→B=d.b):
  GV L (ms++[⟨d.op,d.x,A,B⟩])∧lg (ms++[⟨d.op,d.x,A,B⟩]) ms.length=lg ns i∧Xt L ms (ms++[⟨d.op,d.x,A,B⟩]) 1:=by
 have ok:=hv i d hd;have hg:GV L (ms++[⟨d.op,d.x,A,B⟩]):=fun j z hz=>by
  rcases fR j ms.length with hj|hj
  ·rw[o6 hj]at hz;exact hm j z hz
  ·rw[qv hj]at hz;have:j=ms.length:=by
    have:=(cP.1 hz).1;simp at this;omega
   subst this;simp at hz;subst hz;exact⟨ok.o1,ok.o8,ok.x1,ok.x0,fun h=>(hA h).1,fun h=>by show A=0;rw[Rz h,ok.a0 h],fun h h'=>(hB h h').1,fun h=>by show B=0;rw[hB0 h,ok.b0 h]⟩
 have X:Xt L ms (ms++[⟨d.op,d.x,A,B⟩]) 1:=⟨hg,Ja _ _,by simp⟩
 refine⟨hg,?_,X⟩;have jl:(ms++[(⟨d.op,d.x,A,B⟩:Nd)])[ms.length]? =some ⟨d.op,d.x,A,B⟩:=by simp
 funext w;rw[yo hg jl w,yo hv hd w];have a':5≤d.op→lg (ms++[⟨d.op,d.x,A,B⟩]) A=lg ns d.a:=fun h=>by rw[X.lg hm (hA h).1,(hA h).2]
 have b':5≤d.op→d.op≠8→lg (ms++[⟨d.op,d.x,A,B⟩]) B=lg ns d.b:=fun h h'=>by rw[X.lg hm (hB h h').1,(hB h h').2]
 clear hA Rz hB hB0 ok hd jl;obtain⟨op,x,a,b⟩:=d;simp only at a' b'⊢;by_cases h5:op=5
 ·subst h5;simp[a' (by omega),b' (by omega) (by omega)]
 by_cases h6:op=6
 ·subst h6;simp[a' (by omega),b' (by omega) (by omega)]
 by_cases h7:op=7
 ·subst h7;simp[a' (by omega),b' (by omega) (by omega)]
 by_cases h8:op=8
 ·subst h8;simp[a' (by omega)]
 simp[h5,h6,h7,h8]
variable (h6:L≤6)(hn:ns.length≤20000){r:Nat}(hr:r<ns.length)
include h6 hn hr
theorem aFz:∃(ms:List Nd) (i:Nat),CC 11 [cz (ns.map Nd.v),vI (r:Int)]=some [vI (i:Int),vI 0,cz (ms.map Nd.v)]∧GV L ms∧ms.length≤ns.length∧i<ms.length∧lg ms i=lg ns r:=by
 obtain⟨mk,hm,er⟩:=anS hv hn hr;have e0:List.replicate ns.length (vI 0)=tab ns.length fun _=>nV 0:=mG;have key:=gH (step:=Vm CC (ns.length:Int) (ns.map Nd.v) (r:Int) 0 0 (tab ns.length fun i=> .bool (mk i)) []) (fun i (s:Int×LV×LV)=> ∃(num:Nat→Nat) (ms:List Nd),s=((i:Int),(tab ns.length fun j=>nV (num j)),ms.map Nd.v)∧GV L ms∧ms.length≤i∧(∀j,j<i→mk j=true→num j<ms.length∧lg ms (num j)=lg ns j)∧(r<i→num r+1=ms.length))
  (fun x=> ∃(num:Nat→Nat) (ms:List Nd),x=((ns.length:Int),false,(tab ns.length fun j=>nV (num j)),ms.map Nd.v)∧GV L ms∧ms.length≤ns.length∧(∀j,j<ns.length→mk j=true→num j<ms.length∧lg ms (num j)=lg ns j)∧num r+1=ms.length) ns.length 0 (0,List.replicate ns.length (vI 0),[])
  (fun i _ hi s hs=> ?_) (fun s hs=> ?_) ⟨fun _=>0,[],by rw[e0];rfl,fun i d h=>by simp at h,by simp,fun j hj=>by omega,fun h=>by omega⟩
 ·obtain⟨x,e1,num,ms,rfl,g1,g2,g3,g4⟩:=key;refine⟨ms,num r,aFx ?_,g1,g2,by omega,(g3 r hr hm.eR).2⟩;unfold anR;rw[dD,Int.toNat_natCast];refine bs (ad6 (hv.mono h6) (by omega) (by omega) hn hr) (bF rfl (bT (iB (by omega) (by omega)) (bs er ?_)));rw[show(gL [au (tab ns.length fun i=> .bool (mk i))])=tab ns.length fun i=> .bool (mk i)from rfl,fi];refine bs e1 ?_;simp only[un];rw[dD,show(ms.length:Int)-1=(num r:Int) by omega,show wrap .i64 (num r:Int)=(num r:Int)from wrap64 (by omega) (by omega)]
 ·obtain⟨num,ms,rfl,g1,g2,g3,g4⟩:=hs;rw[cL]at hi;simp only[Vm,OO,un];cases qp:mk i with
  |false=>
   refine⟨(((i+1:Nat):Int),(tab ns.length fun j=>nV (num j)),ms.map Nd.v),bT (cF hi) ((aU (dH hi)).trans (bT (by rw[qp];rfl) (by rw[bY (by omega)]))),num,ms,rfl,g1,by omega,fun j hj OP=>g3 j ?_ OP,fun h=>g4 ?_⟩
   ·rcases fR j i with q|q
    ·exact q
    ·rw[show j=i by omega,qp]at OP;cases OP
   ·rcases fR r i with q|q
    ·exact q
    ·have:=hm.eR;rw[show r=i by omega,qp]at this;cases this
  |true=>
   have hd:=cv hi;have ok:=hv i _ hd;have pt:=Vk (op:=ns[i].op) ok.o8;have pa:5≤ns[i].op→num ns[i].a<ms.length∧lg ms (num ns[i].a)=lg ns ns[i].a:=fun h=>g3 _ (ok.a1 h) (hm.eA i _ hd qp h);have pb:5≤ns[i].op→ns[i].op≠8→num ns[i].b<ms.length∧lg ms (num ns[i].b)=lg ns ns[i].b:=fun h h'=>g3 _ (ok.b1 h h') (hm.eB i _ hd qp h h');have fin:∀{A B:Nat},(5≤ns[i].op→A<ms.length∧lg ms A=lg ns ns[i].a)→(ns[i].op<5→A=ns[i].a)→(5≤ns[i].op→ns[i].op≠8→B<ms.length∧lg ms B=lg ns ns[i].b)→(ns[i].op<5∨ns[i].op=8→B=ns[i].b)→
     ∃(Vp:Nat→Nat) (pK:List Nd),(((i+1:Nat):Int),aG (tab ns.length fun j=>nV (num j)) (i:Int) (vI (((ms.map Nd.v).length:Nat):Int)),ms.map Nd.v++([.agg [vI (ns[i].op:Int),vI (ns[i].x:Int),vI (A:Int),vI (B:Int)]]:LV))=(((i+1:Nat):Int),(tab ns.length fun j=>nV (Vp j)),pK.map Nd.v)∧GV L pK∧pK.length≤i+1∧(∀j,j<i+1→mk j=true→Vp j<pK.length∧lg pK (Vp j)=lg ns j)∧(r<i+1→Vp r+1=pK.length):=fun {A B} c1 c2 c3 c4=>by
    obtain⟨q1,q2,X⟩:=aFy hv g1 (num:=num) hi hd c1 c2 c3 c4;refine⟨fun j=>if j=i then ms.length else num j,ms++[⟨ns[i].op,ns[i].x,A,B⟩],?_,q1,by simp;omega,fun j hj OP=> ?_,fun h=> ?_⟩
    ·refine dX rfl (dX ?_ (by simp[Nd.v]));show aG _ _ _=_;unfold aG;rw[Int.toNat_natCast,jf,dD];refine dA fun j _=> ?_;by_cases c:j=i
     ·simp only[c,rj];rfl
     ·simp only[c,rh]
    ·by_cases c:j=i
     ·simp only[c,rj];exact⟨by simp,q2⟩
     ·simp only[c,rh];obtain⟨u1,u2⟩:=g3 j (by omega) OP;exact⟨by simp;omega,by rw[X.lg g1 u1,u2]⟩
    ·have:=hm.eLe i qp;rw[show r=i by omega];simp
   have cS:∀{v:V},Nat.ble (((ms.map Nd.v).length+([v]:LV).length)*32) bf=true:=fun {v}=>by rw[fG,zU];simp;omega
   by_cases h5:5≤ns[i].op
   ·have dr:ns[i].a<ns.length:=by have:=ok.a1 h5;omega
    by_cases h8:ns[i].op=8
    ·refine⟨_,bT (cF hi) ((aU (dH hi)).trans (bF (by rw[qp];rfl) (bs (yx hi) ?_))),fin (A:=num ns[i].a) (B:=ns[i].b) pa (fun h=>by omega) (fun _ h=>absurd h8 h) fun _=>rfl⟩
     try simp only[Nd.cells]
     refine bs pt ?_;simp only[V.jE,V.toInt_int,gI,gL,gB,gS];rw[Ip];unfold Im;refine bT (bj h5) ((aU (dH dr)).trans (bs pt ?_));simp only[V.jE,V.toInt_int,gI,gL,gB,gS];rw[Iq];unfold Io;refine bF (cw fun h=>h.2 h8) ((aU (dH hi)).trans (bT cS ?_));rw[bY (by omega)];rfl
    ·have qC:ns[i].b<ns.length:=by have:=ok.b1 h5 h8;omega
     refine⟨_,bT (cF hi) ((aU (dH hi)).trans (bF (by rw[qp];rfl) (bs (yx hi) ?_))),fin (A:=num ns[i].a) (B:=num ns[i].b) pa (fun h=>by omega) pb fun h=>h.elim (fun h=>by omega) fun h=>absurd h h8⟩
     try simp only[Nd.cells]
     refine bs pt ?_;simp only[V.jE,V.toInt_int,gI,gL,gB,gS];rw[Ip];unfold Im;refine bT (bj h5) ((aU (dH dr)).trans (bs pt ?_));simp only[V.jE,V.toInt_int,gI,gL,gB,gS];rw[Iq];unfold Io;refine bT (bj ⟨h5,h8⟩) ((aU (dH qC)).trans ((aU (dH hi)).trans (bT cS ?_)));rw[bY (by omega)];rfl
   ·refine⟨_,bT (cF hi) ((aU (dH hi)).trans (bF (by rw[qp];rfl) (bs (yx hi) ?_))),fin (A:=ns[i].a) (B:=ns[i].b) (fun h=>absurd h h5) (fun _=>rfl) (fun h=>absurd h h5) fun _=>rfl⟩
    try simp only[Nd.cells]
    refine bs pt ?_;simp only[V.jE,V.toInt_int,gI,gL,gB,gS];rw[Ip];unfold Im;refine bF (cw h5) (bs pt ?_);simp only[V.jE,V.toInt_int,gI,gL,gB,gS];rw[Iq];unfold Io;refine bF (cw fun h=>h5 h.1) ((aU (dH hi)).trans (bT cS ?_));rw[bY (by omega)]
 ·rw[cL]at hs;obtain⟨num,ms,rfl,g1,g2,g3,g4⟩:=hs;refine⟨((ns.length:Int),false,(tab ns.length fun j=>nV (num j)),ms.map Nd.v),?_,num,ms,rfl,g1,g2,g3,g4 hr⟩;simp only[Vm,OO,un];exact bF (cf (aR _)) (by rw[cf (aR _)])
end
noncomputable def anT(C:af)(lL lM j:Int):Option LV:=
 bif (decide (0≤(wrap .i64 (Int.tdiv j 64))))&&(decide ((wrap .i64 (Int.tdiv j 64))<2))then
  (([.int .u64 lL,.int .u64 lM]:LV)[0+(((wrap .i64 (Int.tdiv j 64):Int).toNat)*1)]?).bind fun x1=>
  bif decide (0≤(Int.tmod j 64))then
  bif (decide (0≤(wrap .i64 (Int.tdiv j 64))))&&(decide ((wrap .i64 (Int.tdiv j 64))<2))then
   bif Nat.blt (0+(((wrap .i64 (Int.tdiv j 64):Int).toNat)*1)) 2 then
   some [.int .u64 (bif Nat.beq (0+(((wrap .i64 (Int.tdiv j 64):Int).toNat)*1)) 0 then wrap .u64 ((BitVec.ofInt (IntKind.bits .u64) x1.toInt|||BitVec.ofInt (IntKind.bits .u64) (wrap .u64 (1*2^(min (Int.tmod j 64).toNat (IntKind.bits .u64))))).toNat)else lL),.int .u64 (bif Nat.beq (0+(((wrap .i64 (Int.tdiv j 64):Int).toNat)*1)) 1 then wrap .u64 ((BitVec.ofInt (IntKind.bits .u64) x1.toInt|||BitVec.ofInt (IntKind.bits .u64) (wrap .u64 (1*2^(min (Int.tmod j 64).toNat (IntKind.bits .u64))))).toNat)else lM)]
   else none
  else none
  else none
 else none
theorem aFA{lL lM j:Int}{r:Option LV}(h:anT CC lL lM j=r):CC 92 [.int .u64 lL,.int .u64 lM,vI j]=r:=bR (L:=bS) ak h
noncomputable def anU(C:af)(lL lM j:Int):Option LV:=
 bif (decide (0≤(wrap .i64 (Int.tdiv j 64))))&&(decide ((wrap .i64 (Int.tdiv j 64))<2))then
  (([.int .u64 lL,.int .u64 lM]:LV)[0+(((wrap .i64 (Int.tdiv j 64):Int).toNat)*1)]?).bind fun x1=>
  bif decide (0≤(Int.tmod j 64))then
  some [.bool (((wrap .u64 ((BitVec.ofInt (IntKind.bits .u64) (Int.fdiv x1.toInt (2^(min (Int.tmod j 64).toNat (IntKind.bits .u64))))&&&BitVec.ofInt (IntKind.bits .u64) 1).toNat)):Int)==1)]
  else none
 else none
theorem aFB{lL lM j:Int}{r:Option LV}(h:anU CC lL lM j=r):CC 42 [.int .u64 lL,.int .u64 lM,vI j]=r:=bR (L:=bS) ak h
noncomputable def anV(C:af)(lL lM dp dx:Int):Option LV:=
 some [.int .u64 (wrap .u64 ((BitVec.ofInt (IntKind.bits .u64) lL|||BitVec.ofInt (IntKind.bits .u64) dp).toNat)),.int .u64 (wrap .u64 ((BitVec.ofInt (IntKind.bits .u64) lM|||BitVec.ofInt (IntKind.bits .u64) dx).toNat))]
theorem aFC{lL lM dp dx:Int}{r:Option LV}(h:anV CC lL lM dp dx=r):CC 94 [.int .u64 lL,.int .u64 lM,.int .u64 dp,.int .u64 dx]=r:=bR (L:=bS) ak h
noncomputable def anW(C:af)(lL lM dp dx:Int):Option LV:=
 some [.int .u64 (wrap .u64 ((BitVec.ofInt (IntKind.bits .u64) lL&&&BitVec.ofInt (IntKind.bits .u64) dp).toNat)),.int .u64 (wrap .u64 ((BitVec.ofInt (IntKind.bits .u64) lM&&&BitVec.ofInt (IntKind.bits .u64) dx).toNat))]
theorem aFD{lL lM dp dx:Int}{r:Option LV}(h:anW CC lL lM dp dx=r):CC 95 [.int .u64 lL,.int .u64 lM,.int .u64 dp,.int .u64 dx]=r:=bR (L:=bS) ak h
noncomputable def anX(C:af)(lL lM dp dx:Int):Option LV:=
 some [.int .u64 (wrap .u64 ((BitVec.ofInt (IntKind.bits .u64) lL&&& ~~~ BitVec.ofInt (IntKind.bits .u64) dp).toNat)),.int .u64 (wrap .u64 ((BitVec.ofInt (IntKind.bits .u64) lM&&& ~~~ BitVec.ofInt (IntKind.bits .u64) dx).toNat))]
theorem aFE{lL lM dp dx:Int}{r:Option LV}(h:anX CC lL lM dp dx=r):CC 96 [.int .u64 lL,.int .u64 lM,.int .u64 dp,.int .u64 dx]=r:=bR (L:=bS) ak h
noncomputable def OQ(C:af)(last jF jG j Vq Vr:Int){β:Type}(kn:ay (Int×Int×Int) β)(kr:ay (Int×Bool×Int×Int) β):Option β:=
 bif decide (j≤last)then
  (C 92 [.int .u64 Vq,.int .u64 Vr,vI j]).bind fun r1=>
  kn (wrap .i64 (j+1),(gI r1),(dm r1))
 else
  kr (j,decide (j≤last),Vq,Vr)
noncomputable def Vs(C:af)(last jF jG:Int):=un fun j=>un fun Vq Vr=>OQ C last jF jG j Vq Vr ct cu
noncomputable def aFF(C:af):da:=cm 49 aaO (aN 6 50) [[1,0,0,3,4,0,0]] (@OQ C) bS
theorem aFG(C:af):bt C (aFF C) 93 (Lp [1,1,0,1,0,0] 93):=cj aaO (aN 6 50) [[1,0,0,3,4,0,0]] (@OQ C) (aY ak)
noncomputable def anY(C:af)(first last:Int):Option LV:=
 (Loop (Vs C last 0 0) (first,0,0)).bind (un fun j_2=>un fun(fL:Bool)=>un fun(aFH:Int) (aFI:Int)=>
  some [.int .u64 aFH,.int .u64 aFI])
theorem aFJ{first last:Int}{r:Option LV}(h:anY CC first last=r):CC 93 [vI first,vI last]=r:=bR (br (aFG CC) ak) h
noncomputable def OR(C:af)(tables:LV)(w:List UInt8)(i t15 t16 jy lJ dS fV j:Int)(ts:LV){β:Type}(kn:ay (Int×LV) β)(kr:ay (Int×Bool×LV) β):Option β:=
 bif decide (j≤(w.length:Int))then
  (idx tables dS).bind fun yk=>
  (idx yk.toList i).bind fun tj=>
  (C 42 [.int .u64 ((tj.cell 0).toInt),.int .u64 ((tj.cell 1).toInt),vI j]).bind fun wk=>
  bif (gB wk)then
  aL ts i fun uO=>
  (idx tables fV).bind fun wc=>
  (idx wc.toList j).bind fun uJ=>
  (C 94 [.int .u64 ((uO.cell 0).toInt),.int .u64 ((uO.cell 1).toInt),.int .u64 ((uJ.cell 0).toInt),.int .u64 ((uJ.cell 1).toInt)]).bind fun N9=>
  aL ts i fun Ak=>
  kn (wrap .i64 (j+1),aG ts i (.agg [.int .u64 (gI N9),.int .u64 (dm N9)]))
  else
  kn (wrap .i64 (j+1),ts)
 else
  kr (j,decide (j≤(w.length:Int)),ts)
noncomputable def OS(C:af)(tables:LV)(w:List UInt8)(i t15 t16 jy lJ dS fV:Int):=un fun j ts=>OR C tables w i t15 t16 jy lJ dS fV j ts ct cu
noncomputable def OT(C:af)(tables:LV)(w:List UInt8)(i t15 t16 t20:Int)(t67:Bool)(jy lJ dS fV:Int)(ts:LV){β:Type}(kr:ay LV β):Option β:=
 bif t67 then
  (idx tables dS).bind fun mc=>
  (idx mc.toList i).bind fun ny=>
  (idx tables fV).bind fun ij=>
  (idx ij.toList i).bind fun oT=>
  (C 94 [.int .u64 ((ny.cell 0).toInt),.int .u64 ((ny.cell 1).toInt),.int .u64 ((oT.cell 0).toInt),.int .u64 ((oT.cell 1).toInt)]).bind fun rb=>
  aL ts i fun uP=>
  kr (aG ts i (.agg [.int .u64 (gI rb),.int .u64 (dm rb)]))
 else
  bif t20==6 then
  (idx tables dS).bind fun nz=>
  (idx nz.toList i).bind fun pF=>
  (idx tables fV).bind fun wg=>
  (idx wg.toList i).bind fun Ae=>
  (C 95 [.int .u64 ((pF.cell 0).toInt),.int .u64 ((pF.cell 1).toInt),.int .u64 ((Ae.cell 0).toInt),.int .u64 ((Ae.cell 1).toInt)]).bind fun Au=>
  aL ts i fun Af=>
  kr (aG ts i (.agg [.int .u64 (gI Au),.int .u64 (dm Au)]))
  else
  bif t20==7 then
   (Loop (OS C tables w i t15 t16 jy lJ dS fV) (i,ts)).bind (un fun aJh=>un fun(aBt:Bool) (aFK:LV)=>
    kr aFK)
  else
   bif t20==8 then
   (C 93 [vI i,vI (w.length:Int)]).bind fun OU=>
   (idx tables dS).bind fun ES=>
   (idx ES.toList i).bind fun Cf=>
   (C 96 [.int .u64 (gI OU),.int .u64 (dm OU),.int .u64 ((Cf.cell 0).toInt),.int .u64 ((Cf.cell 1).toInt)]).bind fun Ci=>
   aL ts i fun UF=>
   kr (aG ts i (.agg [.int .u64 (gI Ci),.int .u64 (dm Ci)]))
   else
   kr ts
noncomputable def OV(C:af)(tables:LV)(w:List UInt8)(i t15 t16 t20:Int)(t58:Bool)(jy lJ dS fV:Int)(ts:LV){β:Type}(kr:ay LV β):Option β:=
 bif t58 then
  (C 93 [vI i,vI (w.length:Int)]).bind fun r8=>
  aL ts i fun x9=>
  kr (aG ts i (.agg [.int .u64 (gI r8),.int .u64 (dm r8)]))
 else
  OT C tables w i t15 t16 t20 (t20==5) jy lJ dS fV ts (fun(aFL:LV)=>
   kr aFL)
noncomputable def OW(C:af)(tables:LV)(w:List UInt8)(i t15 t16 t20:Int)(t32:Bool)(jy lJ dS fV:Int)(ts:LV){β:Type}(kr:ay LV β):Option β:=
 bif t32 then
  bif decide (i<(w.length:Int))then
  (bif decide (0≤i)then(w[i.toNat]?).map fun b=>V.int .u8 b.toNat else none).bind fun x4=>
  bif ((wrap .i64 (wrap .u8 (x4.toInt-97))):Int)==lJ then
   aL ts i fun x5=>
   (C 92 [.int .u64 ((x5.cell 0).toInt),.int .u64 ((x5.cell 1).toInt),vI (wrap .i64 (i+1))]).bind fun r6=>
   aL ts i fun x7=>
   kr (aG ts i (.agg [.int .u64 (gI r6),.int .u64 (dm r6)]))
  else
   kr ts
  else
  kr ts
 else
  OV C tables w i t15 t16 t20 (t20==4) jy lJ dS fV ts (fun(aFM:LV)=>
   kr aFM)
noncomputable def OX(C:af)(tables:LV)(w:List UInt8)(i t15 t16 t20:Int)(t21:Bool)(jy lJ dS fV:Int)(ts:LV){β:Type}(kr:ay LV β):Option β:=
 bif t21 then
  aL ts i fun x1=>
  (C 92 [.int .u64 ((x1.cell 0).toInt),.int .u64 ((x1.cell 1).toInt),vI i]).bind fun r2=>
  aL ts i fun x3=>
  kr (aG ts i (.agg [.int .u64 (gI r2),.int .u64 (dm r2)]))
 else
  OW C tables w i t15 t16 t20 (t20==3) jy lJ dS fV ts (fun(aFN:LV)=>
   kr aFN)
noncomputable def OY(C:af)(tables:LV)(w:List UInt8)(t15 jy lJ dS fV t16:Int)(ts:LV){β:Type}(kn:ay (Int×LV) β)(kr:ay (Int×Bool×LV) β):Option β:=
 bif decide (t16<t15)then
  OX C tables w t16 t15 t16 jy (jy==2) jy lJ dS fV ts (fun(aFO:LV)=>
   kn (wrap .i64 (t16+1),aFO))
 else
  kr (t16,decide (t16<t15),ts)
noncomputable def Vt(C:af)(tables:LV)(w:List UInt8)(t15 jy lJ dS fV:Int):=un fun t16 ts=>OY C tables w t15 jy lJ dS fV t16 ts ct cu
noncomputable def Ir(C:af):da:=cm 305 Z4 (aN 11 1032) [[1,2,3,0,5,6,0,7,8,9,10,0]] (@OR C) (lu 1087 Z5 [[1,2,4,5,8,9,10,11,0]] (@OT C) (lu 943 Z6 [[1,2,4,5,8,9,10,11,0]] (@OV C) (lu 527 Z7 [[1,2,4,5,8,9,10,11,0]] (@OW C) (lu 351 Z8 [[1,2,4,5,8,9,10,11,0]] (@OX C) (cm 49 Z9 (aN 9 264) [[1,2,3,0,0,5,6,7,8,0]] (@OY C) bS)))))
theorem aFP(C:af):bt C (Ir C) 41 (Lp [1,1,0,1,0,0,1,1,0,0,1,1,0,1,1,1,1,1,1,1,1,1,1,1,0,1,0,0] 41):=cj Z4 (aN 11 1032) [[1,2,3,0,5,6,0,7,8,9,10,0]] (@OR C) (aY ak)
theorem aFQ(C:af):bt C (Ir C) 41 (Cd 67 [1,1,0,1,0,0,1,1,0,0,1,1,0,1,1,1,1,1,1,1,0] [1,1,0,1,0,0,1,1,0,0,1,1,0,1,1,1,1,1,1,1,1] 41):=lr Z5 [[1,2,4,5,8,9,10,11,0]] (@OT C) (aY ak) (aY (br (aFP C) ak))
theorem aFR(C:af):bt C (Ir C) 41 (Cd 58 [1,1,0,1,0,0,1,1,0,0,1,1,0,1,1,1,1,1,0] [1,1,0,1,0,0,1,1,0,0,1,1,0,1,1,1,1,1,1] 41):=lr Z6 [[1,2,4,5,8,9,10,11,0]] (@OV C) (aY ak) (aY (br (aFQ C) ak))
theorem aFS(C:af):bt C (Ir C) 41 (Cd 32 [1,1,0,1,0,0,1,1,0,0,1,1,0,1,1,1,0] [1,1,0,1,0,0,1,1,0,0,1,1,0,1,1,1,1] 41):=lr Z7 [[1,2,4,5,8,9,10,11,0]] (@OW C) (aY ak) (aY (br (aFR C) ak))
theorem aFT(C:af):bt C (Ir C) 41 (Cd 21 [1,1,0,1,0,0,1,1,0,0,1,1,0,1,0] [1,1,0,1,0,0,1,1,0,0,1,1,0,1,1] 41):=lr Z8 [[1,2,4,5,8,9,10,11,0]] (@OX C) (aY ak) (aY (br (aFS C) ak))
theorem aFU(C:af):bt C (Ir C) 41 (Lp [1,1,0,1,0,0] 41):=cj Z9 (aN 9 264) [[1,2,3,0,0,5,6,7,8,0]] (@OY C) (aY (br (aFT C) ak))
noncomputable def anZ(C:af)(gJ lE iF iR:Int)(tables:LV)(w:List UInt8):Option LV:=
 bif (decide (0≤(wrap .i64 ((w.length:Int)+1))))&&((decide ((wrap .i64 ((w.length:Int)+1))≤(wrap .i64 ((w.length:Int)+1))))&&(Nat.ble (((wrap .i64 ((w.length:Int)+1):Int).toNat)*16) bf))then
  (Loop (Vt C tables w ((List.replicate ((wrap .i64 ((w.length:Int)+1):Int).toNat) (V.agg [.int .u64 0,.int .u64 0])).length:Int) gJ lE iF iR) (0,List.replicate ((wrap .i64 ((w.length:Int)+1):Int).toNat) (V.agg [.int .u64 0,.int .u64 0]))).bind (un fun ayE=>un fun(T6:Bool) (aFV:LV)=>
   some [oQ aFV])
 else none
theorem aFW{gJ lE iF iR:Int}{tables:LV}{w:List UInt8}{r:Option LV}(h:anZ CC gJ lE iF iR tables w=r):CC 41 [vI gJ,vI lE,vI iF,vI iR,.list 110 tables,.str w]=r:=bR (br (aFU CC) ak) h
def OZ(x:Nat):V:= .agg [.int .u64 (x:Int),.int .u64 0]
section
variable {c d j:Nat}(hc:c<2^64)(hd:d<2^64)(hj:j<64)
include hc in
theorem ad7(hj:j<64):CC 92 [.int .u64 (c:Int),.int .u64 0,vI (j:Int)]=some [.int .u64 ((c|||2^j:Nat):Int),.int .u64 0]:=by
 refine aFA ?_;have e1:wrap .i64 (Int.tdiv (j:Int) 64)=0:=by rw[Int.tdiv_eq_zero_of_lt (by omega) (by omega)];rfl
 have e2:Int.tmod (j:Int) 64=(j:Int):=Int.tmod_eq_of_lt (by omega) (by omega);unfold anT;simp only[e1,e2];refine bT rfl (bs (a:=V.int .u64 (c:Int)) rfl (bT (bj (by omega)) (bT rfl (bT rfl ?_))));rw[Int.toNat_natCast,abm hj,V.toInt_int,u64_or hc (yP (by omega) hj)];rfl
include hc in
theorem ad8(hj:j<64):CC 42 [.int .u64 (c:Int),.int .u64 0,vI (j:Int)]=some [.bool (c.testBit j)]:=by
 refine aFB ?_;have e1:wrap .i64 (Int.tdiv (j:Int) 64)=0:=by rw[Int.tdiv_eq_zero_of_lt (by omega) (by omega)];rfl
 have e2:Int.tmod (j:Int) 64=(j:Int):=Int.tmod_eq_of_lt (by omega) (by omega);unfold anU;simp only[e1,e2];refine bT rfl (bs (a:=V.int .u64 (c:Int)) rfl (bT (bj (by omega)) ?_));rw[Int.toNat_natCast,V.toInt_int,avZ hc hj]
include hc hd in
theorem an0:CC 94 [.int .u64 (c:Int),.int .u64 0,.int .u64 (d:Int),.int .u64 0]=some [.int .u64 ((c|||d:Nat):Int),.int .u64 0]:=by
 refine aFC ?_;unfold anV;rw[u64_or hc hd];rfl
include hc hd in
theorem aFX:CC 95 [.int .u64 (c:Int),.int .u64 0,.int .u64 (d:Int),.int .u64 0]=some [.int .u64 ((c&&&d:Nat):Int),.int .u64 0]:=by
 refine aFD ?_;unfold anW;rw[u64_and hc hd];rfl
include hc in
theorem aFY(d:Nat):∃x:Nat,x<2^64∧(∀i,x.testBit i=(c.testBit i&& !(d.testBit i)))∧CC 96 [.int .u64 (c:Int),.int .u64 0,.int .u64 (d:Int),.int .u64 0]=some [.int .u64 (x:Int),.int .u64 0]:=by
 obtain⟨x,h1,h2,h3⟩:=u64_andNot d hc;refine⟨x,h1,h2,aFE ?_⟩;unfold anX;rw[h3];rfl
end
theorem ad9{c j i:Nat}:(c|||2^j).testBit i=(c.testBit i||decide (i=j)):=by
 rw[CG,Nat.testBit_two_pow];by_cases h:i=j
 ·subst h;simp
 ·rw[cw h,cw (fun e=>h e.symm)]
theorem aFZ{p n:Nat}(hp:p≤n+1)(hn:n<60):∃x:Nat,x<2^64∧(∀i,x.testBit i=decide (p≤i∧i≤n))∧CC 93 [vI (p:Int),vI (n:Int)]=some [.int .u64 (x:Int),.int .u64 0]:=by
 have key:=gH (step:=Vs CC (n:Int) 0 0) (fun i (s:Int×Int×Int)=> ∃x:Nat,s=(((p+i:Nat):Int),(x:Int),0)∧x<2^64∧∀j,x.testBit j=decide (p≤j∧j<p+i))
  (fun r=> ∃x:Nat,r=(((n+1:Nat):Int),false,(x:Int),0)∧x<2^64∧∀j,x.testBit j=decide (p≤j∧j<n+1)) (n+1-p) 0 ((p:Int),0,0)
  (fun i _ hi s hs=> ?_) (fun s hs=> ?_) ⟨0,rfl,by decide,fun j=>by rw[CK,cw (by omega)]⟩
 ·obtain⟨r,e1,x,rfl,h1,h2⟩:=key;refine⟨x,h1,fun i=>by rw[h2];exact decide_eq_decide.2 (by omega),aFJ ?_⟩;unfold anY;exact bs e1 rfl
 ·obtain⟨x,rfl,h1,h2⟩:=hs;rw[cL]at hi;refine⟨(((p+(i+1):Nat):Int),((x|||2^(p+i):Nat):Int),0),?_,x|||2^(p+i),rfl,yO h1 (yP (by omega) (by omega)),fun j=> ?_⟩
  ·simp only[Vs,OQ,un];refine bT (bj (by omega)) (bs (ad7 h1 (by omega)) ?_);rw[show((p+i:Nat):Int)+1=((p+(i+1):Nat):Int) by omega,show wrap .i64 ((p+(i+1):Nat):Int)=((p+(i+1):Nat):Int)from wrap64 (by omega) (by omega)];rfl
  ·rw[ad9,h2];by_cases c:j=p+i
   ·rw[bj c,Bool.or_true,bj (by omega)]
   ·rw[cw c,Bool.or_false];exact decide_eq_decide.2 (by omega)
 ·obtain⟨x,rfl,h1,h2⟩:=hs;rw[show p+(0+(n+1-p))=n+1 by omega]at h2⊢;refine⟨(((n+1:Nat):Int),false,(x:Int),0),?_,x,rfl,h1,h2⟩;simp only[Vs,OQ,un];refine bF (cw (by omega)) ?_;rw[cw (by omega)]
def iH(u:List Nat)(p q:Nat):List Nat:=(u.drop p).take (q-p)
structure Is(P:List Nat→Prop)(u:List Nat)(p x:Nat):Prop where
 lt:x<2^64
 bit:∀q,q≤u.length→(x.testBit q=true↔p≤q∧P (iH u p q))
structure It(P:List Nat→Prop)(u:List Nat)(t:List Nat):Prop where
 len:t.length=u.length+1
 gd:∀p,p≤u.length→Is P u p (t.getD p 0)
theorem aea{u:List Nat}{p q:Nat}(Iu:p≤q)(hq:q≤u.length){P Q:List Nat→Prop}:(∃a b,iH u p q=a++b∧P a∧Q b)↔∃k,p≤k∧k≤q∧P (iH u p k)∧Q (iH u k q):=by
 have hl:(iH u p q).length=q-p:=by unfold iH;simp;omega
 have e1:∀k,p≤k→k≤q→(iH u p q).take (k-p)=iH u p k:=fun k h1 h2=>by
  unfold iH;rw[List.take_take,show min (k-p) (q-p)=k-p by omega]
 have e2:∀k,p≤k→k≤q→(iH u p q).drop (k-p)=iH u k q:=fun k h1 h2=>by
  unfold iH;rw[List.drop_take,List.drop_drop,show p+(k-p)=k by omega,show q-p-(k-p)=q-k by omega]
 constructor
 ·rintro⟨a,b,e,ha,hb⟩;have dr:a.length≤q-p:=by rw[←hl,e];simp
  refine⟨p+a.length,by omega,by omega,?_,?_⟩
  ·rw[←e1 _ (by omega) (by omega),e,show p+a.length-p=a.length by omega,List.take_left];exact ha
  ·rw[←e2 _ (by omega) (by omega),e,show p+a.length-p=a.length by omega,List.drop_left];exact hb
 ·rintro⟨k,h1,h2,ha,hb⟩;exact⟨(iH u p q).take (k-p),(iH u p q).drop (k-p),(List.take_append_drop _ _).symm,by rw[e1 k h1 h2];exact ha,by rw[e2 k h1 h2];exact hb⟩
def fp(t:List Nat):LV:=t.map OZ
theorem O0{t:List Nat}{p:Nat}(h:p<t.length):(fp t)[p]? =some (OZ (t.getD p 0)):=by simp[fp,h]
theorem E4{t:List Nat}{p x:Nat}:aG (fp t) (p:Int) (.agg [.int .u64 (x:Int),.int .u64 0])=fp (t.set p x):=by
 unfold aG fp;rw[Int.toNat_natCast,List.map_set];rfl
theorem Vu{t:List Nat}{p:Nat}(h:t.getD p 0=0):t.set p 0=t:=by
 refine PM fun i=> ?_;rw[IU];by_cases c:p=i
 ·subst c;rw[aP rfl];by_cases d:p<t.length
  ·rw[aP d,cv d];rw[dK d]at h;rw[h]
  ·rw[aM d,P0 (by omega)]
 ·rw[aM c]
theorem Cm{t:List Nat}{p:Nat}(h:p<t.length):idx (fp t) (p:Int)=some (OZ (t.getD p 0)):=by rw[zB rfl];exact O0 h
structure Cn(P:List Nat→Prop)(u:List Nat)(tables:LV)(a:Nat)(ta:List Nat):Prop where
 ix:idx tables (a:Int)=some (oQ (fp ta))
 tb:It P u ta
theorem an1{u:List Nat}{p q:Nat}(Iu:p≤q)(hq:q≤u.length):(iH u p q).length=q-p:=by unfold iH;simp;omega
theorem aeb{u:List Nat}{p q:Nat}(Iu:p≤q)(hq:q≤u.length):iH u p q=[]↔q=p:=by
 rw[←tF,an1 Iu hq];omega
theorem O1{u:List Nat}{p q x:Nat}(Iu:p≤q)(hq:q≤u.length):iH u p q=[x]↔q=p+1∧u.getD p 0=x:=by
 constructor
 ·intro e;have h1:q=p+1:=by have:=an1 Iu hq;rw[e]at this;simp at this;omega
  subst h1;refine⟨rfl,?_⟩;have h2:u.drop p=u[p]::u.drop (p+1):=CA (by omega);unfold iH at e;rw[h2,show p+1-p=0+1 by omega,List.take_succ_cons,List.take_zero]at e;rw[dK (by omega)];exact(List.cons.inj e).1
 ·rintro⟨rfl,rfl⟩;have h2:u.drop p=u[p]::u.drop (p+1):=CA (by omega);unfold iH;rw[h2,show p+1-p=0+1 by omega,dK (by omega),List.take_succ_cons,List.take_zero]
section
variable {ns:List Nd}{i:Nat}{w:List UInt8}(hl:w.length≤40){tables:LV}{op x a b:Nat}{ta tb t:List Nat}{p:Nat}(ht:t.length=w.length+1)(hz:t.getD p 0=0)(hp:p≤w.length)
include hl ht hz hp
theorem aF0{t15 t16 n0 n1:Int}(hA:Cn (lg ns a) (lets w) tables a ta)(hB:Cn (lg ns b) (lets w) tables b tb):∃y,Loop (OS CC tables w (p:Int) t15 t16 n0 n1 (a:Int) (b:Int)) ((p:Int),fp t)=some (((w.length+1:Nat):Int),false,fp (t.set p y))∧y<2^64∧∀q,q≤w.length→(y.testBit q=true↔p≤q∧∃k,p≤k∧k≤q∧lg ns a (iH (lets w) p k)∧lg ns b (iH (lets w) k q)):=by
 have o3:(lets w).length=w.length:=rZ;have hta:ta.length=w.length+1:=by rw[hA.tb.len,o3]
 have Gt:tb.length=w.length+1:=by rw[hB.tb.len,o3]
 have ga:=hA.tb.gd p (by omega);have key:=gH (step:=OS CC tables w (p:Int) t15 t16 n0 n1 (a:Int) (b:Int)) (fun m (s:Int×LV)=> ∃y,s=(((p+m:Nat):Int),fp (t.set p y))∧y<2^64∧∀q,q≤w.length→(y.testBit q=true↔∃k,p≤k∧k<p+m∧k≤q∧lg ns a (iH (lets w) p k)∧lg ns b (iH (lets w) k q)))
  (fun r=> ∃y,r=(((w.length+1:Nat):Int),false,fp (t.set p y))∧y<2^64∧∀q,q≤w.length→(y.testBit q=true↔p≤q∧∃k,p≤k∧k≤q∧lg ns a (iH (lets w) p k)∧lg ns b (iH (lets w) k q))) (w.length+1-p) 0 ((p:Int),fp t)
  (fun m _ hm s hs=> ?_) (fun s hs=> ?_) ⟨0,by rw[Vu hz];rfl,by decide,fun q _=>⟨fun h=>(by rw[CK]at h;cases h),fun⟨k,h1,h2,_⟩=>by omega⟩⟩
 ·obtain⟨r,e1,y,rfl,h1,h2⟩:=key;exact⟨y,e1,h1,h2⟩
 ·obtain⟨y,rfl,h1,h2⟩:=hs;rw[cL]at hm;have gb:=hB.tb.gd (p+m) (by omega);simp only[OS,OR,un];have hy:(t.set p y).getD p 0=y:=by simp[show p<t.length by omega]
  have e2:wrap .i64 (((p+m:Nat):Int)+1)=((p+(m+1):Nat):Int):=by rw[bY (by omega)];rfl
  by_cases c:(ta.getD p 0).testBit (p+m)=true
  ·refine⟨(((p+(m+1):Nat):Int),fp (t.set p (y|||tb.getD (p+m) 0))),?_,_,rfl,yO h1 gb.lt,fun q hq=> ?_⟩
   ·refine bT (bj (by omega)) (bs hA.ix (bs (Cm (by omega)) (bs (ad8 ga.lt (by omega)) (bT c ((aU (O0 (by simp;omega))).trans (bs hB.ix (bs (Cm (by omega)) ?_)))))));rw[hy];refine bs (an0 h1 gb.lt) ((aU (O0 (by simp;omega))).trans ?_);rw[e2];refine congrArg (fun z=>some (Sum.inl (_,z))) (E4.trans ?_);rw[List.set_set]
   ·rw[CG,qw,h2 q hq,gb.bit q (by omega)];have hk:=(ga.bit (p+m) (by omega)).1 c;constructor
    ·rintro(⟨k,g1,g2,g3⟩|⟨g1,g2⟩)
     ·exact⟨k,g1,by omega,g3⟩
     ·exact⟨p+m,by omega,by omega,g1,hk.2,g2⟩
    ·rintro⟨k,g1,g2,g3,g4,g5⟩;by_cases ck:k=p+m
     ·subst ck;exact .inr ⟨g3,g5⟩
     ·exact .inl ⟨k,g1,by omega,g3,g4,g5⟩
  ·refine⟨(((p+(m+1):Nat):Int),fp (t.set p y)),?_,y,rfl,h1,fun q hq=> ?_⟩
   ·refine bT (bj (by omega)) (bs hA.ix (bs (Cm (by omega)) (bs (ad8 ga.lt (by omega)) (bF (by simpa using c) ?_))));rw[e2]
   ·rw[h2 q hq];constructor
    ·rintro⟨k,g1,g2,g3⟩;exact⟨k,g1,by omega,g3⟩
    ·rintro⟨k,g1,g2,g3,g4,g5⟩;by_cases ck:k=p+m
     ·subst ck;exact absurd ((ga.bit (p+m) (by omega)).2 ⟨by omega,g4⟩) c
     ·exact⟨k,g1,by omega,g3,g4,g5⟩
 ·obtain⟨y,rfl,h1,h2⟩:=hs;rw[show p+(0+(w.length+1-p))=w.length+1 by omega]at h2⊢;refine⟨(((w.length+1:Nat):Int),false,fp (t.set p y)),?_,y,rfl,h1,fun q hq=> ?_⟩
  ·simp only[OS,OR,un];refine bF (cw (by omega)) ?_;rw[cw (by omega)]
  ·rw[h2 q hq];constructor
   ·rintro⟨k,g1,g2,g3,g4⟩;exact⟨by omega,k,g1,g3,g4⟩
   ·rintro⟨g0,k,g1,g3,g4⟩;exact⟨k,g1,by omega,g3,g4⟩
theorem aF1{L:Nat}(hv:GV L ns)(hL:L≤6)(hw:nv w 6)(hd:ns[i]? =some ⟨op,x,a,b⟩)(hA:5≤op→Cn (lg ns a) (lets w) tables a ta)(hB:5≤op→op≠8→Cn (lg ns b) (lets w) tables b tb){t15:Int}{β:Type}(kr:LV→Option β):∃y,Is (lg ns i) (lets w) p y∧OX CC tables w (p:Int) t15 (p:Int) (op:Int) ((op:Int)==2) (op:Int) (x:Int) (a:Int) (b:Int) (fp t) kr=kr (fp (t.set p y)):=by
 have o3:(lets w).length=w.length:=rZ;have ok:=hv i _ hd;have o1:1≤op:=ok.o1;have o8:op≤8:=ok.o8;have bz:∀{m n:Nat},m≠n→((m:Int)==(n:Int))=false:=fun h=>by simp;omega
 have gz:(fp t)[p]? =some (OZ 0):=by rw[O0 (by omega),hz]
 unfold OX;by_cases c2:op=2
 ·subst c2;refine⟨0|||2^p,⟨yO (by decide) (yP (by omega) (by omega)),fun q hq=> ?_⟩,?_⟩
  ·rw[ad9,CK,IV,il,amO hv hd];constructor
   ·rintro rfl;exact⟨aR _,(aeb (aR _) hq).2 rfl⟩
   ·rintro⟨h1,h2⟩;exact(aeb h1 hq).1 h2
  ·refine bT rfl ((aU gz).trans (bs (ad7 (by decide) (by omega)) ((aU gz).trans ?_)));exact congrArg kr E4
 suffices h:∃y,Is (lg ns i) (lets w) p y∧OW CC tables w (p:Int) t15 (p:Int) (op:Int) ((op:Int)==3) (op:Int) (x:Int) (a:Int) (b:Int) (fp t) kr=kr (fp (t.set p y)) by
  obtain⟨y,h1,h2⟩:=h;exact⟨y,h1,bF (bz (n:=2) c2) h2⟩
 unfold OW;by_cases c3:op=3
 ·subst c3;by_cases cp:p<w.length
  ·have h0:=(hw.2.2.2 p cp).1;have eL:wrap .i64 (wrap .u8 (((w.getD p 0).toNat:Int)-97))=(((lets w).getD p 0:Nat):Int):=by
    rw[TH h0,←TN cp h0];have:(lets w).getD p 0<6:=abH (L:=6) hw cp;exact wrap64 (by omega) (by omega)
   by_cases cx:(lets w).getD p 0=x
   ·refine⟨0|||2^(p+1),⟨yO (by decide) (yP (by omega) (by omega)),fun q hq=> ?_⟩,?_⟩
    ·rw[ad9,CK,IV,il,NI hv hd];constructor
     ·rintro rfl;exact⟨by omega,(O1 (by omega) hq).2 ⟨rfl,cx⟩⟩
     ·rintro⟨h1,h2⟩;exact((O1 h1 hq).1 h2).1
    ·refine bT rfl (bT (cF cp) (bs (Ms cp) ?_));rw[V.toInt_int,eL,cx,bY (by omega)];refine bT (by simp) ((aU gz).trans (bs (ad7 (by decide) (by omega)) ((aU gz).trans ?_)));exact congrArg kr E4
   ·refine⟨0,⟨by decide,fun q hq=>⟨fun h=>(by rw[CK]at h;cases h),fun⟨h1,h2⟩=> ?_⟩⟩,?_⟩
    ·rw[NI hv hd]at h2;exact absurd ((O1 h1 hq).1 h2).2 cx
    ·refine bT rfl (bT (cF cp) (bs (Ms cp) ?_));rw[V.toInt_int,eL,Vu hz];exact bF (bz cx) rfl
  ·refine⟨0,⟨by decide,fun q hq=>⟨fun h=>(by rw[CK]at h;cases h),fun⟨h1,h2⟩=> ?_⟩⟩,?_⟩
   ·rw[NI hv hd]at h2;have:=((O1 h1 hq).1 h2).1;omega
   ·rw[Vu hz];exact bT rfl (bF (cf (by omega)) rfl)
 suffices h:∃y,Is (lg ns i) (lets w) p y∧OV CC tables w (p:Int) t15 (p:Int) (op:Int) ((op:Int)==4) (op:Int) (x:Int) (a:Int) (b:Int) (fp t) kr=kr (fp (t.set p y)) by
  obtain⟨y,h1,h2⟩:=h;exact⟨y,h1,bF (bz (n:=3) c3) h2⟩
 unfold OV;obtain⟨bw,qH,gY,hb3⟩:=aFZ (p:=p) (n:=w.length) (by omega) (by omega);by_cases c4:op=4
 ·subst c4;refine⟨bw,⟨qH,fun q hq=> ?_⟩,bT rfl (bs hb3 ((aU gz).trans (congrArg kr E4)))⟩;rw[gY,il,acA hv hd];exact⟨fun h=>⟨h.1,trivial⟩,fun h=>⟨h.1,by omega⟩⟩
 suffices h:∃y,Is (lg ns i) (lets w) p y∧OT CC tables w (p:Int) t15 (p:Int) (op:Int) ((op:Int)==5) (op:Int) (x:Int) (a:Int) (b:Int) (fp t) kr=kr (fp (t.set p y)) by
  obtain⟨y,h1,h2⟩:=h;exact⟨y,h1,bF (bz (n:=4) c4) h2⟩
 unfold OT;by_cases c1:op=1
 ·subst c1;refine⟨0,⟨by decide,fun q hq=>⟨fun h=>(by rw[CK]at h;cases h),fun⟨_,h2⟩=>absurd h2 (by rw[acz hv hd];exact id)⟩⟩,?_⟩;rw[Vu hz];rfl
 have h5:5≤op:=by omega
 have A:=hA h5;have hta:ta.length=w.length+1:=by rw[A.tb.len,o3]
 have ga:=A.tb.gd p (by omega);by_cases c8:op=8
 ·subst c8;obtain⟨y,y1,y2,y3⟩:=aFY qH (ta.getD p 0);refine⟨y,⟨y1,fun q hq=> ?_⟩,bF rfl (bF rfl (bF rfl (bT rfl (bs hb3 (bs A.ix (bs (Cm (by omega)) (bs y3 ((aU gz).trans (congrArg kr E4)))))))))⟩;rw[y2,gY,acE hv hd,bc,il,qu,←Bool.not_eq_true,ga.bit q hq];constructor
  ·rintro⟨h1,h2⟩;exact⟨h1.1,fun h=>h2 ⟨h1.1,h⟩⟩
  ·rintro⟨h1,h2⟩;exact⟨⟨h1,by omega⟩,fun h=>h2 h.2⟩
 have B:=hB h5 c8;have Gt:tb.length=w.length+1:=by rw[B.tb.len,o3]
 have gb:=B.tb.gd p (by omega);by_cases c5:op=5
 ·subst c5;refine⟨_,⟨yO ga.lt gb.lt,fun q hq=> ?_⟩,bT rfl (bs A.ix (bs (Cm (by omega)) (bs B.ix (bs (Cm (by omega)) (bs (an0 ga.lt gb.lt) ((aU gz).trans (congrArg kr E4)))))))⟩;rw[CG,qw,ga.bit q hq,gb.bit q hq,acB hv hd,and_or_left]
 by_cases c6:op=6
 ·subst c6;refine⟨_,⟨Fs Nat.and_le_left ga.lt,fun q hq=> ?_⟩,bF rfl (bT rfl (bs A.ix (bs (Cm (by omega)) (bs B.ix (bs (Cm (by omega)) (bs (aFX ga.lt gb.lt) ((aU gz).trans (congrArg kr E4))))))))⟩;rw[Nat.testBit_and,bc,ga.bit q hq,gb.bit q hq,acC hv hd];exact⟨fun h=>⟨h.1.1,h.1.2,h.2.2⟩,fun h=>⟨⟨h.1,h.2.1⟩,h.1,h.2.2⟩⟩
 have c7:op=7:=by omega
 subst c7;obtain⟨y,e1,y1,y2⟩:=aF0 hl ht hz hp (t15:=t15) (t16:=(p:Int)) (n0:=7) (n1:=(x:Int)) A B;refine⟨y,⟨y1,fun q hq=> ?_⟩,bF rfl (bF rfl (bT rfl (bs e1 rfl)))⟩;rw[y2 q (by omega),acD hv hd];exact⟨fun h=>⟨h.1,(aea h.1 hq).2 h.2⟩,fun h=>⟨h.1,(aea h.1 hq).1 h.2⟩⟩
end
theorem aF2{L:Nat}{ns:List Nd}(hv:GV L ns)(hL:L≤6){w:List UInt8}(hw:nv w 6)(hl:w.length≤40){tables:LV}{i:Nat}{d:Nd}(hd:ns[i]? =some d){ta tb:List Nat}(hA:5≤d.op→Cn (lg ns d.a) (lets w) tables d.a ta)(hB:5≤d.op→d.op≠8→Cn (lg ns d.b) (lets w) tables d.b tb):∃t,It (lg ns i) (lets w) t∧CC 41 [vI (d.op:Int),vI (d.x:Int),vI (d.a:Int),vI (d.b:Int),.list 110 tables,.str w]=some [oQ (fp t)]:=by
 have o3:(lets w).length=w.length:=rZ;obtain⟨op,x,a,b⟩:=d;have e0:List.replicate (w.length+1) (V.agg [.int .u64 0,.int .u64 0])=fp (List.replicate (w.length+1) 0):=by unfold fp;rw[List.map_replicate];rfl
 have key:=gH (step:=Vt CC tables w ((w.length+1:Nat):Int) (op:Int) (x:Int) (a:Int) (b:Int)) (fun p (s:Int×LV)=> ∃t,s=((p:Int),fp t)∧t.length=w.length+1∧(∀q,p≤q→t.getD q 0=0)∧∀q,q<p→Is (lg ns i) (lets w) q (t.getD q 0))
  (fun r=> ∃t,r=(((w.length+1:Nat):Int),false,fp t)∧It (lg ns i) (lets w) t) (w.length+1) 0 (0,fp (List.replicate (w.length+1) 0))
  (fun p _ hp s hs=> ?_) (fun s hs=> ?_) ⟨_,rfl,CD,fun q _=>by simp[List.getD];grind,fun q hq=>by omega⟩
 ·obtain⟨r,e1,t,rfl,h1⟩:=key;refine⟨t,h1,aFW ?_⟩;unfold anZ;rw[bY (by omega),Int.toNat_natCast,CD,e0];exact bT (iB (by omega) (by omega)) (bs e1 rfl)
 ·obtain⟨t,rfl,h1,h2,h3⟩:=hs;rw[cL]at hp;obtain⟨y,gy,e⟩:=aF1 hl h1 (h2 p (aR _)) (by omega) hv hL hw hd hA hB (t15:=((w.length+1:Nat):Int)) (fun ts=>some (Sum.inl (((p+1:Nat):Int),ts)):LV→Option ((Int×LV) ⊕ (Int×Bool×LV)));refine⟨(((p+1:Nat):Int),fp (t.set p y)),?_,t.set p y,rfl,by rw[wH];exact h1,fun q hq=> ?_,fun q hq=> ?_⟩
  ·simp only[Vt,OY,un];refine bT (cF hp) ?_;rw[bY (by omega)];exact e
  ·have:=h2 q (by omega);rw[Fw,Cz (by omega),←Fw];exact this
  ·by_cases c:q=p
   ·subst c;rw[show(t.set q y).getD q 0=y by simp[show q<t.length by omega]];exact gy
   ·rw[Fw,Cz (by omega),←Fw];exact h3 q (by omega)
 ·obtain⟨t,rfl,h1,h2,h3⟩:=hs;rw[cL]at h3⊢;refine⟨(((w.length+1:Nat):Int),false,fp t),?_,t,rfl,by rw[h1,o3],fun p hp=>h3 p (by omega)⟩;simp only[Vt,OY,un];refine bF (cf (aR _)) ?_;rw[cf (aR _)]
noncomputable def O2(C:af)(w:List UInt8)(t27:Int)(gK:LV)(ji:Int)(aec:LV)(t28:Int)(nR:LV){β:Type}(kn:ay (Int×LV) β)(kr:ay (Int×Bool×LV) β):Option β:=
 bif decide (t28<t27)then
  aL aec t28 fun x4=>
  bif x4.toBool then
  (idx gK t28).bind fun x5=>
  (C 41 (SI x5 [.list 110 nR,.str w])).bind fun r6=>
  aL nR t28 fun x7=>
  kn (wrap .i64 (t28+1),aG nR t28 (oQ (gL r6)))
  else
  kn (wrap .i64 (t28+1),nR)
 else
  kr (t28,decide (t28<t27),nR)
noncomputable def Vv(C:af)(w:List UInt8)(t27:Int)(gK:LV)(ji:Int)(aec:LV):=un fun t28 nR=>O2 C w t27 gK ji aec t28 nR ct cu
noncomputable def aF3(C:af):da:=cm 81 Zy (aN 7 36) [[1,2,0,0,4,5,0,7]] (@O2 C) bS
theorem aF4(C:af):bt C (aF3 C) 14 (Lp [1,1,1,0,1,0,0] 14):=cj Zy (aN 7 36) [[1,2,0,0,4,5,0,7]] (@O2 C) (aY ak)
noncomputable def an2(C:af)(dk:LV)(ew:Int)(w:List UInt8):Option LV:=
 (C 32 [cz dk,vI ew,vI 6]).bind fun r1=>
 bif ((gI r1):Int) != 0 then
  some [.bool false]
 else
  (C 40 [.str w,vI 6]).bind fun r2=>
  bif !(gB r2)then
  some [.bool false]
  else
  bif decide ((w.length:Int)>64)then
   some [.bool false]
  else
   bif (decide (0≤(dk.length:Int)))&&((decide ((dk.length:Int)≤(dk.length:Int)))&&(Nat.ble (((dk.length:Int).toNat)*24) bf))then
   (C 33 [cz dk,vI ew]).bind fun r3=>
   (Loop (Vv C w ((gL r3).length:Int) dk ew (gL r3)) (0,List.replicate ((dk.length:Int).toNat) (oQ ([]:LV)))).bind (un fun BO=>un fun(uI:Bool) (aed:LV)=>
    aL aed ew fun ny=>
    (ec Tryz.prog 110 aed [(ew.toNat,0)]).bind fun ij=>
    bif decide (0<(ij.toList.length:Int))then
     (ec Tryz.prog 110 aed [(ew.toNat,0)]).bind fun oT=>
     (oT.toList[0]?).bind fun pJ=>
     (C 42 [.int .u64 ((pJ.cell 0).toInt),.int .u64 ((pJ.cell 1).toInt),vI (w.length:Int)]).bind fun jt=>
     some [.bool (gB jt)]
    else none)
   else none
theorem aF5{dk:LV}{ew:Int}{w:List UInt8}{r:Option LV}(h:an2 CC dk ew w=r):CC 14 [cz dk,vI ew,.str w]=r:=bR (br (aF4 CC) ak) h
theorem aF6:Tryz.prog.underlying 110=some (.slice 114):=by kernel_rfl
theorem aF7:cR Tryz.prog 110=false:=by kernel_rfl
theorem aF8{l:LV}:parts Tryz.prog 110 (oQ l)=[oQ l]:=by
 unfold parts;rw[aF7];simp only[cond_false,iJ,aF6,V.fa]
theorem aF9{es:LV}{i:Nat}{r:LV}(h:es[i]? =some (oQ r)):ec Tryz.prog 110 es [(i,0)]=some (oQ r):=by
 simp only[ec,h,Option.bind_some,aF8];rfl
theorem aGa{L:Nat}{ns:List Nd}(hv:GV L ns)(hL:L≤6)(hn:ns.length≤20000){r:Nat}(hr:r<ns.length){w:List UInt8}(hw:nv w 6)(hl:w.length≤40){b:Bool}(hb:lg ns r (lets w)↔b=true):CC 14 [cz (ns.map Nd.v),vI (r:Int),.str w]=some [.bool b]:=by
 have o3:(lets w).length=w.length:=rZ;obtain⟨mk,hm,e1⟩:=anS hv hn hr;have key:=gH (step:=Vv CC w (ns.length:Int) (ns.map Nd.v) (r:Int) (tab ns.length fun i=> .bool (mk i))) (fun p (s:Int×LV)=> ∃T:Nat→List Nat,s=((p:Int),tab ns.length fun j=>oQ (fp (T j)))∧∀j,j<p→mk j=true→It (lg ns j) (lets w) (T j))
  (fun x=> ∃T:Nat→List Nat,x=((ns.length:Int),false,tab ns.length fun j=>oQ (fp (T j)))∧∀j,j<ns.length→mk j=true→It (lg ns j) (lets w) (T j)) ns.length 0 (0,tab ns.length fun _=>oQ (fp []))
  (fun p _ hp s hs=> ?_) (fun s hs=> ?_) ⟨fun _=>[],rfl,fun j hj=>by omega⟩
 ·obtain⟨x,e2,T,rfl,hT⟩:=key;have tr:=hT r hr hm.eR;have g0:=tr.gd 0 (mi _);refine aF5 ?_;unfold an2;refine bs (ad6 (hv.mono hL) (by omega) (aR 6) hn hr) (bF rfl (bs (abF w 6) ?_));rw[bj hw];refine bF rfl (bF (cw (by omega)) ?_);rw[dD,Int.toNat_natCast];refine bT (iB (by omega) (by omega)) (bs e1 ?_);simp only[V.jE,V.fa,gI,gL,gB,gS];rw[fi,mG];refine bs e2 ((aU (dH hr)).trans ?_);rw[Int.toNat_natCast];have rv:=aF9 (dH (g:=fun j=>oQ (fp (T j))) hr);refine bs rv (bT (bj (by simp only[V.fa,fp,dD,tr.len];omega)) (bs rv (bs (a:=OZ ((T r).getD 0 0)) ?_ (bs (ad8 g0.lt (by omega)) ?_))))
  ·rw[V.fa];exact O0 (by rw[tr.len];omega)
  ·have h2:=g0.bit w.length (by omega);rw[show iH (lets w) 0 w.length=lets w by unfold iH;rw[←o3];simp]at h2;simp only[V.jE,V.Yp,gI,gL,gB,gS];congr 3;refine CI.2 ?_;rw[h2,hb];exact⟨fun h=>h.2,fun h=>⟨mi _,h⟩⟩
 ·obtain⟨T,rfl,hT⟩:=hs;rw[cL]at hp;simp only[Vv,O2,un];have hd:=cv hp;have ok:=hv p _ hd;cases O3:mk p with
  |false=>
   refine⟨(((p+1:Nat):Int),tab ns.length fun j=>oQ (fp (T j))),bT (cF hp) ((aU (dH hp)).trans (bF (by rw[O3];rfl) ?_)),T,rfl,fun j hj xb=> ?_⟩
   ·rw[bY (by omega)]
   ·refine hT j ?_ xb;have:j≠p:=fun e=>by rw[e,O3]at xb;cases xb
    omega
  |true=>
   have hA:5≤ns[p].op→Cn (lg ns ns[p].a) (lets w) (tab ns.length fun j=>oQ (fp (T j))) ns[p].a (T ns[p].a):=fun h5=>by
    have:=ok.a1 h5;exact⟨pC (by omega),hT _ this (hm.eA p _ hd O3 h5)⟩
   have hB:5≤ns[p].op→ns[p].op≠8→Cn (lg ns ns[p].b) (lets w) (tab ns.length fun j=>oQ (fp (T j))) ns[p].b (T ns[p].b):=fun h5 h8=>by
    have:=ok.b1 h5 h8;exact⟨pC (by omega),hT _ this (hm.eB p _ hd O3 h5 h8)⟩
   obtain⟨t,ht,e⟩:=aF2 hv hL hw hl hd hA hB;refine⟨(((p+1:Nat):Int),tab ns.length fun j=>oQ (fp (if j=p then t else T j))),bT (cF hp) ((aU (dH hp)).trans (bT (by rw[O3];rfl) (bs (yx hp) (bs e ((aU (dH hp)).trans ?_))))),fun j=>if j=p then t else T j,rfl,fun j hj xb=> ?_⟩
   ·rw[bY (by omega)];unfold aG;rw[Int.toNat_natCast,jf];refine congrArg (fun z=>some (Sum.inl (_,z))) (dA fun j _=> ?_);by_cases c:j=p
    ·rw[aP c,aP c];rfl
    ·rw[aM c,aM c]
   ·show It _ _ (if j=p then t else T j);by_cases c:j=p
    ·rw[aP c,c];exact ht
    ·rw[aM c];exact hT j (by omega) xb
 ·obtain⟨T,rfl,hT⟩:=hs;rw[cL]at hT⊢;refine⟨((ns.length:Int),false,tab ns.length fun j=>oQ (fp (T j))),?_,T,rfl,hT⟩;simp only[Vv,O2,un];refine bF (cf (aR _)) ?_;rw[cf (aR _)]
end Go.AM
