/-
  Functions of the program, lifted to plain data.
-/
import Derived.Test.YtmknicoledcapaaGreatDoorP10
set_option linter.unusedVariables false
set_option linter.unusedSimpArgs false
set_option linter.unusedSectionVars false
set_option maxRecDepth 100000
namespace Go.AM
open Go.IntKind (wrap)
open Go.Proofs
noncomputable def Jm(C:af)(aQ n jr js bq bB:Int)(aH aL:LV)(q:Int)(bM:LV)(bN:Int)(aP aB:LV){β:Type}(kn:(Int×LV×Int×LV×LV)→Option β)(kr:(Int×Bool×LV×Int×LV×LV)→Option β):Option β:=
 bif decide (q<n)then
  (C 21 [vI 2,ab bM,vI bN]).bind fun r3=>
  bif Nat.ble ((aP.length+([.bool (((gI r3):Int)==1)]:LV).length)*1) aR then
  bif (decide (0≤aQ))&&((decide (aQ≤aQ))&&(Nat.ble ((aQ.toNat)*8) aR))then
   bif Nat.ble ((aB.length+1)*24) aR then
   kn (wrap .i64 (q+1),(gL (r3.drop 1)),(gI ((r3.drop 1).drop 1)),aP++([.bool (((gI r3):Int)==1)]:LV),aB++([ab (List.replicate (aQ.toNat) (vI 0))]:LV))
   else none
  else none
  else none
 else
  kr (q,decide (q<n),bM,bN,aP,aB)
noncomputable def Jn(C:af)(aQ n jr js bq bB:Int)(aH aL:LV):=un fun q=>un fun bM=>un fun bN=>un fun aP aB=>Jm C aQ n jr js bq bB aH aL q bM bN aP aB (fun y=>some (Sum.inl y)) (fun r=>some (Sum.inr r))
noncomputable def Jo(C:af)(aQ n a:Int)(bM:LV)(bN jr js bq bB:Int)(aL aP aB aK:LV)(q:Int)(mF:LV){β:Type}(kn:(Int×LV)→Option β)(kr:(Int×Bool×LV)→Option β):Option β:=
 bif decide (q<n)then
  bif Nat.ble ((mF.length+([vI q]:LV).length)*8) aR then
  kn (wrap .i64 (q+1),mF++([vI q]:LV))
  else none
 else
  kr (q,decide (q<n),mF)
noncomputable def Pt(C:af)(aQ n a:Int)(bM:LV)(bN jr js bq bB:Int)(aL aP aB aK:LV):=un fun q mF=>Jo C aQ n a bM bN jr js bq bB aL aP aB aK q mF (fun y=>some (Sum.inl y)) (fun r=>some (Sum.inr r))
noncomputable def Jp(C:af)(aQ n a jr js bq bB:Int)(aL aP aB:LV)(q:Int)(bM:LV)(bN:Int)(mF aK:LV){β:Type}(kn:(Int×LV×Int×LV×LV)→Option β)(kr:(Int×Bool×LV×Int×LV×LV)→Option β):Option β:=
 bif decide (q<n)then
  (C 21 [vI (mF.length:Int),ab bM,vI bN]).bind fun iA=>
  aA aK q fun EO=>
  aA mF (gI iA) fun zV=>
  (ez Tryz.prog 22 aK [(q.toNat,0)]).bind fun zW=>
  bif (decide (0≤a))&&(decide (a<(zW.toList.length:Int)))then
  (ez Tryz.prog 22 aK [(q.toNat,0)]).bind fun uY=>
  (uY.toList[a.toNat]?).bind fun EP=>
  bif (decide (0≤(gI iA)))&&(decide ((gI iA)≤(mF.length:Int)))then
   bif Nat.ble ((([]:LV).length+((mF.drop 0).take ((((gI iA):Int).toNat)-0)).length)*8) aR then
   bif (decide (0≤(wrap .i64 ((gI iA)+1))))&&(decide ((wrap .i64 ((gI iA)+1))≤(mF.length:Int)))then
    bif Nat.ble (((([]:LV)++((mF.drop 0).take ((((gI iA):Int).toNat)-0))).length+((mF.drop ((wrap .i64 ((gI iA)+1):Int).toNat)).take (mF.length-((wrap .i64 ((gI iA)+1):Int).toNat))).length)*8) aR then
    kn (wrap .i64 (q+1),(gL (iA.drop 1)),(gI ((iA.drop 1).drop 1)),(([]:LV)++((mF.drop 0).take ((((gI iA):Int).toNat)-0)))++((mF.drop ((wrap .i64 ((gI iA)+1):Int).toNat)).take (mF.length-((wrap .i64 ((gI iA)+1):Int).toNat))),setRow Tryz.prog (bc uY.toList a (vI zV.toInt)) 22 aK [(q.toNat,0)])
    else none
   else none
   else none
  else none
  else none
 else
  kr (q,decide (q<n),bM,bN,mF,aK)
noncomputable def Jq(C:af)(aQ n a jr js bq bB:Int)(aL aP aB:LV):=un fun q=>un fun bM=>un fun bN=>un fun mF aK=>Jp C aQ n a jr js bq bB aL aP aB q bM bN mF aK (fun y=>some (Sum.inl y)) (fun r=>some (Sum.inr r))
noncomputable def Jr(C:af)(aQ n jr js bq bB:Int)(aH aL aP:LV)(a:Int)(bM:LV)(bN:Int)(aB:LV){β:Type}(kn:(Int×LV×Int×LV)→Option β)(kr:(Int×Bool×LV×Int×LV)→Option β):Option β:=
 bif decide (a<aQ)then
  (Loop (Pt C aQ n a bM bN jr js bq bB aH aL aP aB) (0,([]:LV))).bind (un fun aqX=>un fun(BN:Bool) (aq7:LV)=>
   (Loop (Jq C aQ n a jr js bq bB aH aL aP) (0,bM,bN,aq7,aB)).bind (un fun aG7=>un fun(aq8:Bool)=>un fun(aq9:LV)=>un fun ara=>un fun(aG8:LV) (ym:LV)=>
    kn (wrap .i64 (a+1),aq9,ara,ym)))
 else
  kr (a,decide (a<aQ),bM,bN,aB)
noncomputable def Pu(C:af)(aQ n jr js bq bB:Int)(aH aL aP:LV):=un fun a=>un fun bM=>un fun bN aB=>Jr C aQ n jr js bq bB aH aL aP a bM bN aB (fun y=>some (Sum.inl y)) (fun r=>some (Sum.inr r))
noncomputable def Pv(C:af):cp:=bz 81 V0 [Q0,Q0,Q1,Q1,Q1,Q0,Q0,Q0,Q0,Q0,Q0,Q1,Q1] [[1,2,0,0,0,0,6,7,8,9,10,11,0,0]] (@Jm C) (bz 209 V1 [Q0,Q0,Q0,Q1,Q0,Q0,Q0,Q0,Q0,Q0,Q1,Q0,Q0,Q0,Q0] [[1,2,3,0,0,5,6,7,8,9,10,0,12,13,14,15]] (@Jo C) (bz 273 V2 [Q0,Q0,Q0,Q1,Q1,Q1,Q0,Q0,Q0,Q0,Q1,Q0,Q0,Q0,Q1] [[1,2,3,0,0,0,0,7,8,9,10,0,12,13,14,0]] (@Jp C) (bz 145 V3 [Q0,Q0,Q1,Q1,Q1,Q0,Q0,Q0,Q0,Q0,Q0,Q0,Q1] [[1,2,0,0,0,0,6,7,8,9,10,11,12,0]] (@Jr C) bh)))
theorem arb(C:af):bn C (Pv C) 23 (Lp [1,1,1,1,0,1,0,0] 23):=bA V0 [Q0,Q0,Q1,Q1,Q1,Q0,Q0,Q0,Q0,Q0,Q0,Q1,Q1] [[1,2,0,0,0,0,6,7,8,9,10,11,0,0]] (@Jm C) (ba an)
theorem arc(C:af):bn C (Pv C) 23 (Lp [1,1,1,1,1,0,1,0,0,1,0,0,1,0,1,0,0] 23):=bA V1 [Q0,Q0,Q0,Q1,Q0,Q0,Q0,Q0,Q0,Q0,Q1,Q0,Q0,Q0,Q0] [[1,2,3,0,0,5,6,7,8,9,10,0,12,13,14,15]] (@Jo C) (ba an)
theorem ard(C:af):bn C (Pv C) 23 (Lp [1,1,1,1,1,0,1,0,0,1,0,0,1,1,1,0,0] 23):=bA V2 [Q0,Q0,Q0,Q1,Q1,Q1,Q0,Q0,Q0,Q0,Q1,Q0,Q0,Q0,Q1] [[1,2,3,0,0,0,0,7,8,9,10,0,12,13,14,0]] (@Jp C) (ba an)
theorem are(C:af):bn C (Pv C) 23 (Lp [1,1,1,1,1,0,1,0,0] 23):=bA V3 [Q0,Q0,Q1,Q1,Q1,Q0,Q0,Q0,Q0,Q0,Q0,Q0,Q1] [[1,2,0,0,0,0,6,7,8,9,10,11,12,0]] (@Jr C) (ba (bp (arc C) (bp (ard C) an)))
noncomputable def aes(C:af)(aQ eb:Int)(bM:LV)(bN:Int):Option LV:=
 (C 21 [vI eb,ab bM,vI bN]).bind fun r1=>
 (C 21 [vI (wrap .i64 (1+(gI r1))),ab (gL (r1.drop 1)),vI (gI ((r1.drop 1).drop 1))]).bind fun r2=>
 (Loop (Jn C aQ (wrap .i64 (1+(gI r1))) 0 0 aQ (gI r2) ([]:LV) ([]:LV)) (0,(gL (r2.drop 1)),(gI ((r2.drop 1).drop 1)),([]:LV),([]:LV))).bind (un fun q_4=>un fun(mu:Bool)=>un fun(arf:LV)=>un fun VT=>un fun(zX:LV) (BP:LV)=>
  (Loop (Pu C aQ (wrap .i64 (1+(gI r1))) 0 0 aQ (gI r2) ([]:LV) ([]:LV) zX) (0,arf,VT,BP)).bind (un fun aG9=>un fun(apx:Bool)=>un fun(arh:LV)=>un fun(ari:Int) (V4:LV)=>
   some [vI aQ,vI (gI r2),ab arh,vI ari,av zX,ah V4]))
theorem arj{aQ eb:Int}{bM:LV}{bN:Int}{r:Option LV}(h:aes CC aQ eb bM bN=r):CC 23 [vI aQ,vI eb,ab bM,vI bN]=r:=bj (bp (arb CC) (bp (are CC) an)) h
theorem ark(l:List Nat)(k:Nat):((([]:LV)++((nS l).drop 0).take (k-0))++((nS l).drop (k+1)).take ((nS l).length-(k+1)))=nS (l.take k++l.drop (k+1)):=by
 have h:((nS l).drop (k+1)).take ((nS l).length-(k+1))=(nS l).drop (k+1):=List.take_of_length_le (by grind);rw[y9,Nat.sub_zero,List.nil_append,h];simp[nS,List.map_take,List.map_drop]
theorem arl(t:Tp){L m:Nat}(h1:1≤L)(h6:L≤6)(hm:1≤m)(qU:m≤50):∃(F:List Bool) (N:List (List Nat)) (st:Nat) (u:Tp),FN L F N∧N.length≤m∧st<N.length∧
  CC 23 [vI (L:Int),vI (m:Int),t.L,t.K]=some [vI (L:Int),vI (st:Int),u.L,u.K,av (F.map V.bool),ah (cS N)]:=by
 obtain⟨v,t1,hv,e1⟩:=tO t (n:=m) hm (by omega);obtain⟨st,t2,cv,e2⟩:=tO t1 (n:=v+1) (by omega) (by omega);obtain⟨n,hn⟩:∃n,n=v+1:=⟨_,rfl⟩
 rw[←hn]at cv e2;have l1:∃(F:List Bool) (N:List (List Nat)) (u:Tp),F.length=n∧N.length=n∧(∀r∈N,r.length=L∧∀y∈r,y<n)∧
   Loop (Jn CC (L:Int) (n:Int) 0 0 (L:Int) (st:Int) [] []) (0,t2.l.map iV,(t2.k:Int),([]:LV),([]:LV))=some ((n:Int),false,u.l.map iV,(u.k:Int),F.map V.bool,cS N):=by
  have key:=nh (step:=Jn CC (L:Int) (n:Int) 0 0 (L:Int) (st:Int) [] []) (fun i x=> ∃(F:List Bool) (N:List (List Nat)) (u:Tp),F.length=i∧N.length=i∧(∀r∈N,r.length=L∧∀y∈r,y<n)∧x=((i:Int),u.l.map iV,(u.k:Int),F.map V.bool,cS N))
   (fun o=> ∃(F:List Bool) (N:List (List Nat)) (u:Tp),F.length=n∧N.length=n∧(∀r∈N,r.length=L∧∀y∈r,y<n)∧o=((n:Int),false,u.l.map iV,(u.k:Int),F.map V.bool,cS N)) n 0 (0,t2.l.map iV,(t2.k:Int),([]:LV),([]:LV)) (fun i _ hi x hx=> ?_) (fun x hx=> ?_) ⟨[],[],t2,rfl,rfl,fun _ h=>(by cases h),rfl⟩
  ·obtain⟨o,e,F,N,u,a1,a2,a3,rfl⟩:=key;exact⟨F,N,u,a1,a2,a3,e⟩
  ·obtain⟨F,N,u,a1,a2,a3,rfl⟩:=hx;obtain⟨k,u2,hk,e⟩:=tO u (n:=2) (by omega) (by omega);simp only[Jn,Jm,un];refine⟨(((i+1:Nat):Int),u2.l.map iV,(u2.k:Int),F.map V.bool++[.bool ((k:Int)==1)],cS N++[ab (List.replicate L (vI 0))]),bT (bt (by omega)) (bs e (bT (cap (a:=(F.map V.bool).length) (b:=1) (by rw[cT];omega) (by omega)) (bT (gP (by omega) (by omega)) (bT (cap (a:=(cS N).length) (b:=1) (by rw[VY];omega) (by omega)) ?_)))),F++[(k:Int)==1],N++[List.replicate L 0],u2,by simp;omega,by simp;omega,fun s hs=> ?_,?_⟩
   ·rw[bu (by omega),Int.toNat_natCast];rfl
   ·rcases ik.1 hs with hs|hs
    ·exact a3 s hs
    ·rw[jV.1 hs];exact⟨by simp,fun y hy=>by rw[(List.mem_replicate.1 hy).2];omega⟩
   ·simp[cS,nS,nV]
  ·obtain⟨F,N,u,a1,a2,a3,rfl⟩:=hx;rw[dP]at*
   simp only[Jn,Jm,un];exact⟨_,bF (cL (aW _)) rfl,F,N,u,a1,a2,a3,dm rfl (dm (cL (aW _)) rfl)⟩
 obtain⟨F,N0,u0,f1,f2,f3,eL1⟩:=l1;have l2:∀{x1 x2 x3 x4 x5 x6:Int} {y0 y1 y2 y3 y4:LV},Loop (Pt CC (L:Int) (n:Int) x1 y0 x2 x3 x4 x5 x6 y1 y2 y3 y4) (0,([]:LV))=some ((n:Int),false,nS (List.range n)):=by
  intro x1 x2 x3 x4 x5 x6 y0 y1 y2 y3 y4;refine eZ n (fun i=>((i:Int),nS (List.range i))) _ (fun i hi=> ?_) ?_
  ·simp only[Pt,Jo,un];refine bT (bt hi) (bT (cap (a:=(nS (List.range i)).length) (b:=1) (by rw[dE,lk];omega) (by omega)) ?_);rw[bu (by omega),zc];simp[nS,nV]
  ·simp only[Pt,Jo,un];refine bF (cL (aW _)) ?_;rw[cL (aW _)]
 have l3:∀{a:Nat} (ha:a<L) {N:List (List Nat)} {w:Tp},N.length=n→(∀r∈N,r.length=L∧∀y∈r,y<n)→∃(N':List (List Nat)) (u:Tp) (l:LV),N'.length=n∧(∀r∈N',r.length=L∧∀y∈r,y<n)∧
   Loop (Jq CC (L:Int) (n:Int) (a:Int) 0 0 (L:Int) (st:Int) [] [] (F.map V.bool)) (0,w.l.map iV,(w.k:Int),nS (List.range n),cS N)=some ((n:Int),false,u.l.map iV,(u.k:Int),l,cS N'):=by
  intro a ha N w hN cR;have key:=nh (step:=Jq CC (L:Int) (n:Int) (a:Int) 0 0 (L:Int) (st:Int) [] [] (F.map V.bool)) (fun q x=> ∃(N':List (List Nat)) (u:Tp) (l:List Nat),N'.length=n∧(∀r∈N',r.length=L∧∀y∈r,y<n)∧l.length=n-q∧(∀y∈l,y<n)∧x=((q:Int),u.l.map iV,(u.k:Int),nS l,cS N'))
   (fun o=> ∃(N':List (List Nat)) (u:Tp) (l:LV),N'.length=n∧(∀r∈N',r.length=L∧∀y∈r,y<n)∧o=((n:Int),false,u.l.map iV,(u.k:Int),l,cS N')) n 0 (0,w.l.map iV,(w.k:Int),nS (List.range n),cS N) (fun q _ hq x hx=> ?_) (fun x hx=> ?_) ⟨N,w,List.range n,hN,cR,by simp,fun y hy=>gn.1 hy,rfl⟩
  ·obtain⟨o,e,N',u,l,a1,a2,rfl⟩:=key;exact⟨N',u,l,a1,a2,e⟩
  ·obtain⟨N',u,l,a1,a2,a3,a4,rfl⟩:=hx;have dS:q<n:=by omega
   obtain⟨k,u2,hk,e⟩:=tO u (n:=l.length) (by omega) (by omega);have hg:(cS N')[q]? =some (ab (nS N'[q])):=by simp[cS,a1,dS]
   have hr:=a2 N'[q] (dw (by omega));have BO:=sH hg;have Js:=a4 _ (dw hk);have har:a<(N'[q]).length:=by rw[hr.1];exact ha
   have Ps:(ab (nS N'[q])).toList[((a:Int)).toNat]? =some (nV (N'[q])[a]):=by rw[V.eo,Int.toNat_natCast];exact z0 har
   have hb:(decide (0≤(a:Int))&&decide ((a:Int)<((ab (nS N'[q])).toList.length:Int)))=true:=by rw[V.eo];exact ra (by rw[dE];exact har)
   have hw1:wrap .i64 ((k:Int)+1)=((k+1:Nat):Int):=bu (by omega);have jK:setRow Tryz.prog (bc (ab (nS N'[q])).toList (a:Int) (vI (nV l[k]).toInt)) 22 (cS N') [((q:Int).toNat,0)]=cS (N'.set q ((N'[q]).set a l[k])):=by
    rw[Int.toNat_natCast,Jl hg,V.eo];simp[bc,cS,GJ,nS,nV]
   simp only[Jq,Jp,un];refine⟨(((q+1:Nat):Int),u2.l.map iV,(u2.k:Int),nS (l.take k++l.drop (k+1)),cS (N'.set q ((N'[q]).set a l[k]))),bT (bt dS) ?_,N'.set q ((N'[q]).set a l[k]),u2,l.take k++l.drop (k+1),by rw[td,a1],fun s hs=> ?_,by rw[gY,nK,GR];omega,fun y hy=> ?_,rfl⟩
   ·rw[dE];refine bs e ((bJ hg).trans ((bJ (i:=k) (z0 hk)).trans (bs (by rw[Int.toNat_natCast];exact BO) (bT hb (bs (by rw[Int.toNat_natCast];exact BO) (bs (a:=nV (N'[q])[a]) Ps ?_))))));have tA:(gI [vI (k:Int),u2.L,u2.K])=(k:Int):=rfl;simp only[tA,hw1,Int.toNat_natCast];refine bT (mW.2 ⟨cB (by omega),cB (by omega)⟩) (bT (cap (a:=0) (by rw[nK];simp;omega) (by omega)) (bT (mW.2 ⟨cB (by omega),cB (by omega)⟩) (bT (cap (by rw[gY,nK,nK,GR,GR,dE];simp;omega) (by omega)) ?_)));rw[bu (by omega)];have aet:=jK;rw[Int.toNat_natCast]at aet;refine congrArg (fun z=>some (Sum.inl z)) (dm rfl (dm rfl (dm rfl (dm ?_ aet))));have:=ark l k;rw[dE]at this;exact this
   ·rcases MS hs with hs|rfl
    ·exact a2 s hs
    ·refine⟨by rw[td,hr.1],fun y hy=> ?_⟩;rcases MS hy with hy|rfl
     ·exact hr.2 y hy
     ·exact Js
   ·rcases ik.1 hy with hy|hy
    ·exact a4 y (MR hy)
    ·exact a4 y (List.mem_of_mem_drop hy)
  ·obtain⟨N',u,l,a1,a2,a3,a4,rfl⟩:=hx;rw[dP]at*
   simp only[Jq,Jp,un];exact⟨_,bF (cL (aW _)) rfl,N',u,nS l,a1,a2,dm rfl (dm (cL (aW _)) rfl)⟩
 have key:=nh (step:=Pu CC (L:Int) (n:Int) 0 0 (L:Int) (st:Int) [] [] (F.map V.bool)) (fun a x=> ∃(N':List (List Nat)) (u:Tp),N'.length=n∧(∀r∈N',r.length=L∧∀y∈r,y<n)∧x=((a:Int),u.l.map iV,(u.k:Int),cS N'))
  (fun o=> ∃(N':List (List Nat)) (u:Tp),N'.length=n∧(∀r∈N',r.length=L∧∀y∈r,y<n)∧o=((L:Int),false,u.l.map iV,(u.k:Int),cS N')) L 0 (0,u0.l.map iV,(u0.k:Int),cS N0) (fun a _ ha x hx=> ?_) (fun x hx=> ?_) ⟨N0,u0,f2,f3,rfl⟩
 ·obtain⟨o,e,N,u,a1,a2,rfl⟩:=key;refine⟨F,N,st,u,⟨by omega,by omega,fun r hr=>by rw[a1];exact a2 r hr⟩,by omega,by omega,arj ?_⟩;unfold aes;have hw:wrap .i64 (1+(gI [vI (v:Int),t1.L,t1.K]))=(n:Int):=by
   show wrap .i64 (1+(v:Int))=_;rw[show(1+(v:Int))=(n:Int) by omega];exact wrap64 (by omega) (by omega)
  refine bs e1 ?_;rw[hw];exact bs e2 (bs eL1 (bs e rfl))
 ·obtain⟨N',u,a1,a2,rfl⟩:=hx;obtain⟨N2,u2,l,b1,b2,e⟩:=l3 (a:=a) (by omega) (w:=u) a1 a2;simp only[Pu,Jr,un];refine⟨_,bT (bt (by omega)) (bs l2 (bs e rfl)),N2,u2,b1,b2,?_⟩;exact dm (bu (by omega)) rfl
 ·obtain⟨N',u,a1,a2,rfl⟩:=hx;rw[dP]at*
  simp only[Pu,Jr,un];exact⟨_,bF (cL (aW _)) rfl,N',u,a1,a2,dm rfl (dm (cL (aW _)) rfl)⟩
noncomputable def Jt(C:af)(aQ:Int)(w:List UInt8)(a:Int)(v:List UInt8)(t23 t24 t51:Int)(bM:LV)(bN mG mH bq bB:Int)(ls rows aP aB aK br:LV)(to t52:Int){β:Type}(kn:(Int×Int)→Option β)(kr:(Int×Int×Bool)→Option β):Option β:=
 bif decide (t52<t51)then
  aA ls t52 fun x5=>
  bif x5.toStr==v then
  kn (t52,wrap .i64 (t52+1))
  else
  kn (to,wrap .i64 (t52+1))
 else
  kr (to,t52,decide (t52<t51))
noncomputable def Px(C:af)(aQ:Int)(w:List UInt8)(a:Int)(v:List UInt8)(t23 t24 t51:Int)(bM:LV)(bN mG mH bq bB:Int)(ls rows aP aB aK br:LV):=un fun to t52=>Jt C aQ w a v t23 t24 t51 bM bN mG mH bq bB ls rows aP aB aK br to t52 (fun y=>some (Sum.inl y)) (fun r=>some (Sum.inr r))
noncomputable def BQ(C:af)(aQ:Int)(w:List UInt8)(a t23 t24:Int)(bM:LV)(bN mG mH bq bB:Int)(ls rows aP aB aK br:LV)(v:List UInt8)(to:Int){β:Type}(kn:((List UInt8)×Int)→Option β)(kr:((List UInt8)×Int×Bool)→Option β):Option β:=
 bif to==(-1)then
  (Loop (Px C aQ w a v t23 t24 (ls.length:Int) bM bN mG mH bq bB ls rows aP aB aK br) (to,0)).bind (un fun arn=>un fun(ng:Int) (v8:Bool)=>
   bif decide (1≤(v.length:Int))then
   kn ((v.drop 1).take (v.length-1),arn)
   else none)
 else
  kr (v,to,to==(-1))
noncomputable def BR(C:af)(aQ:Int)(w:List UInt8)(a t23 t24:Int)(bM:LV)(bN mG mH bq bB:Int)(ls rows aP aB aK br:LV):=un fun v to=>BQ C aQ w a t23 t24 bM bN mG mH bq bB ls rows aP aB aK br v to (fun y=>some (Sum.inl y)) (fun r=>some (Sum.inr r))
noncomputable def Ju(C:af)(aQ:Int)(w:List UInt8)(t23 t24:Int)(bM:LV)(bN mG mH bq bB:Int)(ls aP aB aK br:LV)(a:Int)(rows:LV){β:Type}(kn:(Int×LV)→Option β)(kr:(Int×Bool×LV)→Option β):Option β:=
 bif decide (a<aQ)then
  bif Nat.ble (w.length+(me ([.int .u8 (wrap .u8 (wrap .i64 (97+a)))]:LV)).length) qJ then
  (Loop (BR C aQ w a t23 t24 bM bN mG mH bq bB ls rows aP aB aK br) (w++(me ([.int .u8 (wrap .u8 (wrap .i64 (97+a)))]:LV)),(-1))).bind (un fun(v_9:List UInt8)=>un fun(aeu:Int) (BN:Bool)=>
   bif Nat.ble ((rows.length+([vI aeu]:LV).length)*8) aR then
    kn (wrap .i64 (a+1),rows++([vI aeu]:LV))
   else none)
  else none
 else
  kr (a,decide (a<aQ),rows)
noncomputable def Py(C:af)(aQ:Int)(w:List UInt8)(t23 t24:Int)(bM:LV)(bN mG mH bq bB:Int)(ls aP aB aK br:LV):=un fun a rows=>Ju C aQ w t23 t24 bM bN mG mH bq bB ls aP aB aK br a rows (fun y=>some (Sum.inl y)) (fun r=>some (Sum.inr r))
noncomputable def Jv(C:af)(aQ t23 mG mH bq bB:Int)(ls aL aP:LV)(t24:Int)(bM:LV)(bN:Int)(aB aK:LV){β:Type}(kn:(Int×LV×Int×LV×LV)→Option β)(kr:(Int×Bool×LV×Int×LV×LV)→Option β):Option β:=
 bif decide (t24<t23)then
  aA ls t24 fun x3=>
  (C 21 [vI 2,ab bM,vI bN]).bind fun r4=>
  bif Nat.ble ((aB.length+([.bool (((gI r4):Int)==1)]:LV).length)*1) aR then
  (Loop (Py C aQ x3.toStr t23 t24 (gL (r4.drop 1)) (gI ((r4.drop 1).drop 1)) mG mH bq bB ls aL aP (aB++([.bool (((gI r4):Int)==1)]:LV)) aK) (0,([]:LV))).bind (un fun aHa=>un fun(yb:Bool) (aro:LV)=>
   bif Nat.ble ((aK.length+1)*24) aR then
    kn (wrap .i64 (t24+1),(gL (r4.drop 1)),(gI ((r4.drop 1).drop 1)),aB++([.bool (((gI r4):Int)==1)]:LV),aK++([ab aro]:LV))
   else none)
  else none
 else
  kr (t24,decide (t24<t23),bM,bN,aB,aK)
noncomputable def Jw(C:af)(aQ t23 mG mH bq bB:Int)(ls aL aP:LV):=un fun t24=>un fun bM=>un fun bN=>un fun aB aK=>Jv C aQ t23 mG mH bq bB ls aL aP t24 bM bN aB aK (fun y=>some (Sum.inl y)) (fun r=>some (Sum.inr r))
noncomputable def Pz(C:af):cp:=bz 241 V5 [Q0,Q0,Q0,Q0,Q1,Q0,Q0,Q0,Q1,Q0,Q0,Q0,Q0,Q0,Q0,Q0,Q0,Q0,Q0,Q0,Q0] [[1,2,3,4,0,6,7,8,0,0,10,11,12,13,14,15,16,17,18,19,20,21]] (@Jt C) (bz 209 V6 [Q0,Q0,Q0,Q1,Q1,Q0,Q0,Q0,Q0,Q0,Q0,Q0,Q0,Q0,Q0,Q0,Q0,Q0,Q0] [[1,2,3,0,0,6,7,0,8,9,10,11,12,13,14,15,16,17,18,19]] (@BQ C) (bz 145 V7 [Q0,Q0,Q1,Q0,Q0,Q0,Q0,Q0,Q0,Q0,Q0,Q0,Q1,Q0,Q0,Q0,Q0] [[1,2,0,4,5,0,6,7,8,9,10,11,12,0,14,15,16,17]] (@Ju C) (bz 65 V8 [Q0,Q0,Q1,Q1,Q1,Q0,Q0,Q0,Q0,Q0,Q0,Q0,Q1,Q1] [[1,2,0,0,0,0,6,7,8,9,10,11,12,0,0]] (@Jv C) bh)))
theorem arp(C:af):bn C (Pz C) 24 (Lp [1,1,1,0,1,0,0,1,1,0,0,1,1,1,0,1,0,0,1,0,0,1,1,0,0,0,1,0,0,1,0,0] 24):=bA V5 [Q0,Q0,Q0,Q0,Q1,Q0,Q0,Q0,Q1,Q0,Q0,Q0,Q0,Q0,Q0,Q0,Q0,Q0,Q0,Q0,Q0] [[1,2,3,4,0,6,7,8,0,0,10,11,12,13,14,15,16,17,18,19,20,21]] (@Jt C) (ba an)
theorem arq(C:af):bn C (Pz C) 24 (Lp [1,1,1,0,1,0,0,1,1,0,0,1,1,1,0,1,0,0,1,0,0,1,1,0,0,0] 24):=bA V6 [Q0,Q0,Q0,Q1,Q1,Q0,Q0,Q0,Q0,Q0,Q0,Q0,Q0,Q0,Q0,Q0,Q0,Q0,Q0] [[1,2,3,0,0,6,7,0,8,9,10,11,12,13,14,15,16,17,18,19]] (@BQ C) (ba (bp (arp C) an))
theorem ars(C:af):bn C (Pz C) 24 (Lp [1,1,1,0,1,0,0,1,1,0,0,1,1,1,0,1,0,0] 24):=bA V7 [Q0,Q0,Q1,Q0,Q0,Q0,Q0,Q0,Q0,Q0,Q0,Q0,Q1,Q0,Q0,Q0,Q0] [[1,2,0,4,5,0,6,7,8,9,10,11,12,0,14,15,16,17]] (@Ju C) (ba (bp (arq C) an))
theorem art(C:af):bn C (Pz C) 24 (Lp [1,1,1,0,1,0,0] 24):=bA V8 [Q0,Q0,Q1,Q1,Q1,Q0,Q0,Q0,Q0,Q0,Q0,Q0,Q1,Q1] [[1,2,0,0,0,0,6,7,8,9,10,11,12,0,0]] (@Jv C) (ba (bp (ars C) an))
noncomputable def aev(C:af)(aQ:Int)(bM:LV)(bN:Int):Option LV:=
 (C 21 [vI 2,ab bM,vI bN]).bind fun r1=>
 (C 49 [vI aQ,vI (wrap .i64 (1+(gI r1)))]).bind fun r2=>
 (Loop (Jw C aQ ((gL r2).length:Int) 0 0 aQ 0 (gL r2) ([]:LV) ([]:LV)) (0,(gL (r1.drop 1)),(gI ((r1.drop 1).drop 1)),([]:LV),([]:LV))).bind (un fun Pp=>un fun(BU:Bool)=>un fun(aru:LV)=>un fun arv=>un fun(p9:LV) (rE:LV)=>
  some [vI aQ,vI 0,ab aru,vI arv,av p9,ah rE])
theorem arw{aQ:Int}{bM:LV}{bN:Int}{r:Option LV}(h:aev CC aQ bM bN=r):CC 24 [vI aQ,ab bM,vI bN]=r:=bj (bp (art CC) an) h
def BV(ws:List (List UInt8)):List UInt8→Nat
 | []=>0
 |c::p=>if(c::p)∈ws then ws.idxOf (c::p)else BV ws p
section
variable {ws:List (List UInt8)}(hw:ws.length≤100)(jN:ws.Nodup)
include hw jN
theorem aew{L a t23 t24 k x1 x2 x3 x4:Int}{w v:List UInt8}{y0 y1 y2 y3 y4 y5:LV}:Loop (Px CC L w a v t23 t24 (ws.length:Int) y0 k x1 x2 x3 x4 (ws.map V.str) y1 y2 y3 y4 y5) (-1,0)=some (if v∈ws then((ws.idxOf v:Nat):Int)else-1,(ws.length:Int),false):=by
 have e0:(-1:Int)=if v∈ws.take 0 then((ws.idxOf v:Nat):Int)else-1:=by simp
 rw[show((-1:Int),(0:Int))=((if v∈ws.take 0 then((ws.idxOf v:Nat):Int)else-1),(0:Int)) by rw[←e0]];refine eZ ws.length (fun j=>((if v∈ws.take j then((ws.idxOf v:Nat):Int)else-1),(j:Int))) _ (fun j hj=> ?_) ?_
 ·have hg:(ws.map V.str)[j]? =some (.str ws[j]):=by simp[hj]
  simp only[Px,Jt,un];by_cases c:(ws[j]==v)=true
  ·have e:ws[j]=v:=by simpa using c
   have hi:ws.idxOf v=j:=by rw[←e];exact List.Nodup.idxOf_getElem jN _ hj
   refine bT (bt hj) ((bJ hg).trans (bT c ?_));rw[bu (by omega),aF (by rw[AP hj];exact MT _ (jV.2 e.symm)),hi]
  ·have c':(ws[j]==v)=false:=by simpa using c
   have e:ws[j]≠v:=by simpa using c
   refine bT (bt hj) ((bJ hg).trans (bF c' ?_));rw[bu (by omega)];refine congrArg (fun z=>some (Sum.inl (z,((j+1:Nat):Int)))) ?_;rw[AP hj];by_cases h:v∈ws.take j
   ·rw[aF h,aF (List.mem_append_left _ h)]
   ·rw[aD h,aD fun h2=>by
     rcases ik.1 h2 with h2|h2
     ·exact h h2
     ·exact e (jV.1 h2).symm]
 ·simp only[Px,Jt,un];rw[xn];refine bF (cL (aW _)) ?_;rw[cL (aW _)]
theorem arx{L a t23 t24 k x1 x2 x3 x4:Int}{w:List UInt8}{y0 y1 y2 y3 y4 y5:LV}{b:UInt8}(hb:[b]∈ws):∀(p:List UInt8),∃v:List UInt8,
  Loop (BR CC L w a t23 t24 y0 k x1 x2 x3 x4 (ws.map V.str) y1 y2 y3 y4 y5) (p++[b],-1)=some (v,((BV ws (p++[b]):Nat):Int),false):=by
 have fin:∀{v:List UInt8} {i:Nat},Loop (BR CC L w a t23 t24 y0 k x1 x2 x3 x4 (ws.map V.str) y1 y2 y3 y4 y5) (v,(i:Int))=some (v,(i:Int),false):=fun {v i}=>by
  refine gH ?_;simp only[BR,BQ,un];have hf:((i:Int)==(-1))=false:=by rw[GD];omega
  exact bF hf (by rw[hf])
 intro p
 induction p with
 |nil=>
  have e:=aew hw jN (L:=L) (a:=a) (t23:=t23) (t24:=t24) (k:=k) (x1:=x1) (x2:=x2) (x3:=x3) (x4:=x4) (w:=w) (v:=[b]) (y0:=y0) (y1:=y1) (y2:=y2) (y3:=y3) (y4:=y4) (y5:=y5);rw[aF hb]at e;have hf:BV ws ([]++[b])=ws.idxOf [b]:=aF hb;rw[hf];refine⟨[],(gp (y:=([],((ws.idxOf [b]:Nat):Int))) ?_).trans fin⟩;simp only[BR,BQ,un];rw[cT];refine bT rfl (bs e ?_);simp only[un];exact bT rfl rfl
 |cons c p ih=>
  have e:=aew hw jN (L:=L) (a:=a) (t23:=t23) (t24:=t24) (k:=k) (x1:=x1) (x2:=x2) (x3:=x3) (x4:=x4) (w:=w) (v:=c::(p++[b])) (y0:=y0) (y1:=y1) (y2:=y2) (y3:=y3) (y4:=y4) (y5:=y5);have hlen:decide (1≤(((c::(p++[b])).length:Nat):Int))=true:=cB (by simp;omega);have aex:((c::(p++[b])).drop 1).take ((c::(p++[b])).length-1)=p++[b]:=by
   show(p++[b]).take _=_;exact List.take_of_length_le (by simp)
  by_cases hm:(c::(p++[b]))∈ws
  ·rw[aF hm]at e;have hf:BV ws (c::p++[b])=ws.idxOf (c::(p++[b])):=aF hm;rw[hf];refine⟨p++[b],(gp ?_).trans fin⟩;simp only[BR,BQ,un,List.cons_append];rw[cT];refine bT rfl (bs e (bT hlen ?_));rw[aex]
  ·rw[aD hm]at e;have hf:BV ws (c::p++[b])=BV ws (p++[b]):=aD hm;rw[hf];obtain⟨v,e2⟩:=ih;refine⟨v,(gp ?_).trans e2⟩;simp only[BR,BQ,un,List.cons_append];rw[cT];refine bT rfl (bs e (bT hlen ?_));rw[aex]
end
def jE(ws:List (List UInt8))(L:Nat)(w:List UInt8):List Nat:=(List.range L).map fun a=>BV ws (w++[UInt8.ofNat (97+a)])
theorem ary{ws:List (List UInt8)}(hw:ws.length≤100)(jN:ws.Nodup)(hwl:∀w∈ws,w.length≤100){L:Nat}(hL:L≤2)(arz:∀a,a<L→[UInt8.ofNat (97+a)]∈ws)(t:Tp):∃(F:List Bool) (u:Tp),F.length=ws.length∧
  Loop (Jw CC (L:Int) (ws.length:Int) 0 0 (L:Int) 0 (ws.map V.str) [] []) (0,t.l.map iV,(t.k:Int),([]:LV),([]:LV))=some ((ws.length:Int),false,u.l.map iV,(u.k:Int),F.map V.bool,cS (ws.map (jE ws L))):=by
 have arA:∀a:Nat,a<L→me ([.int .u8 (wrap .u8 (wrap .i64 (97+(a:Int))))]:LV)=[UInt8.ofNat (97+a)]:=fun a ha=>by
  rcases(by omega:a=0∨a=1)with rfl|rfl<;>rfl
 have row:∀{w:List UInt8} (hwi:w.length≤100) {x1 x2 x3 x4 x5 x6 x7:Int} {y0 y1 y2 y3 y4:LV},
   Loop (Py CC (L:Int) w x1 x2 y0 x3 x4 x5 x6 x7 (ws.map V.str) y1 y2 y3 y4) (0,([]:LV))=some ((L:Int),false,nS (jE ws L w)):=by
  intro w hwi x1 x2 x3 x4 x5 x6 x7 y0 y1 y2 y3 y4;refine eZ L (fun a=>((a:Int),nS (jE ws a w))) _ (fun a V9=> ?_) ?_
  ·have hrl:(jE ws a w).length=a:=by simp[jE]
   obtain⟨v,e⟩:=arx hw jN (arz a V9) (L:=(L:Int)) (a:=(a:Int)) (t23:=x1) (t24:=x2) (k:=x3) (x1:=x4) (x2:=x5) (x3:=x6) (x4:=x7) (w:=w) (y0:=y0) (y1:=nS (jE ws a w)) (y2:=y1) (y3:=y2) (y4:=y3) (y5:=y4) w;simp only[Py,Ju,un];rw[arA a V9];refine bT (bt V9) (bT (AV (by unfold qJ;simp;omega)) (bs e ?_));simp only[un];refine bT (cap (a:=(nS (jE ws a w)).length) (b:=1) (by rw[dE];omega) (by omega)) ?_;rw[bu (by omega)];refine congrArg (fun z=>some (Sum.inl (((a+1:Nat):Int),z))) ?_;unfold jE;rw[zc];simp[nS,nV]
  ·simp only[Py,Ju,un];refine bF (cL (aW _)) ?_;rw[cL (aW _)]
 have key:=nh (step:=Jw CC (L:Int) (ws.length:Int) 0 0 (L:Int) 0 (ws.map V.str) [] []) (fun i x=> ∃(F:List Bool) (u:Tp),F.length=i∧x=((i:Int),u.l.map iV,(u.k:Int),F.map V.bool,cS ((ws.take i).map (jE ws L))))
  (fun o=> ∃(F:List Bool) (u:Tp),F.length=ws.length∧o=((ws.length:Int),false,u.l.map iV,(u.k:Int),F.map V.bool,cS (ws.map (jE ws L)))) ws.length 0 (0,t.l.map iV,(t.k:Int),([]:LV),([]:LV)) (fun i _ hi x hx=> ?_) (fun x hx=> ?_) ⟨[],t,rfl,rfl⟩
 ·obtain⟨o,e,F,u,a1,rfl⟩:=key;exact⟨F,u,a1,e⟩
 ·obtain⟨F,u,a1,rfl⟩:=hx;have bS:i<ws.length:=by omega
  have hNl:((ws.take i).map (jE ws L)).length=i:=by rw[cT,nK];omega
  obtain⟨k,u2,hk,e⟩:=tO u (n:=2) (by omega) (by omega);have hg:(ws.map V.str)[i]? =some (.str ws[i]):=by simp[bS]
  have er:=row (hwl _ (dw bS)) (x1:=(ws.length:Int)) (x2:=(i:Int)) (x3:=(u2.k:Int)) (x4:=0) (x5:=0) (x6:=(L:Int)) (x7:=0) (y0:=u2.l.map iV) (y1:=[]) (y2:=[]) (y3:=F.map V.bool++[.bool ((k:Int)==1)]) (y4:=cS ((ws.take i).map (jE ws L)));simp only[Jw,Jv,un];refine⟨(((i+1:Nat):Int),u2.l.map iV,(u2.k:Int),F.map V.bool++[.bool ((k:Int)==1)],cS ((ws.take i).map (jE ws L))++[ab (nS (jE ws L ws[i]))]),bT (bt bS) ((bJ hg).trans (bs e (bT (cap (a:=(F.map V.bool).length) (b:=1) (by rw[cT];omega) (by omega)) (bs er ?_)))),F++[(k:Int)==1],u2,by simp;omega,?_⟩
  ·simp only[un];refine bT (cap (a:=(cS ((ws.take i).map (jE ws L))).length) (b:=1) (by rw[VY,hNl];omega) (by omega)) ?_;rw[bu (by omega)];rfl
  ·have hN:cS ((ws.take (i+1)).map (jE ws L))=cS ((ws.take i).map (jE ws L))++[ab (nS (jE ws L ws[i]))]:=by
    rw[AP bS,qB];unfold cS;rw[qB];rfl
   rw[hN,qB];rfl
 ·obtain⟨F,u,a1,rfl⟩:=hx;rw[dP]at*
  simp only[Jw,Jv,un];exact⟨_,bF (cL (aW _)) rfl,F,u,a1,dm rfl (dm (cL (aW _)) (by rw[xn]))⟩
noncomputable def ER(C:af)(aQ eb:Int)(bM:LV)(bN:Int):Option LV:=
 (C 21 [vI 6,ab bM,vI bN]).bind fun r1=>
 bif ((gI r1):Int)==1 then
  (C 22 [vI aQ,vI eb,ab (gL (r1.drop 1)),vI (gI ((r1.drop 1).drop 1))]).bind fun r2=>
  some [vI (gI r2),vI (gI (r2.drop 1)),ab (gL (r2.drop 2)),vI (gI ((r2.drop 2).drop 1)),av (gL ((r2.drop 2).drop 2)),ah (gL (((r2.drop 2).drop 2).drop 1))]
 else
  bif ((gI r1):Int)==2 then
  (C 23 [vI aQ,vI (if 4<eb then 4 else eb),ab (gL (r1.drop 1)),vI (gI ((r1.drop 1).drop 1))]).bind fun r3=>
  some [vI (gI r3),vI (gI (r3.drop 1)),ab (gL (r3.drop 2)),vI (gI ((r3.drop 2).drop 1)),av (gL ((r3.drop 2).drop 2)),ah (gL (((r3.drop 2).drop 2).drop 1))]
  else
  bif ((gI r1):Int)==3 then
   (C 24 [vI aQ,ab (gL (r1.drop 1)),vI (gI ((r1.drop 1).drop 1))]).bind fun r4=>
   some [vI (gI r4),vI (gI (r4.drop 1)),ab (gL (r4.drop 2)),vI (gI ((r4.drop 2).drop 1)),av (gL ((r4.drop 2).drop 2)),ah (gL (((r4.drop 2).drop 2).drop 1))]
  else
   (C 25 [vI aQ,vI eb,ab (gL (r1.drop 1)),vI (gI ((r1.drop 1).drop 1))]).bind fun r5=>
   some [vI (gI r5),vI (gI (r5.drop 1)),ab (gL (r5.drop 2)),vI (gI ((r5.drop 2).drop 1)),av (gL ((r5.drop 2).drop 2)),ah (gL (((r5.drop 2).drop 2).drop 1))]
theorem arB{aQ eb:Int}{bM:LV}{bN:Int}{r:Option LV}(h:ER CC aQ eb bM bN=r):CC 9 [vI aQ,vI eb,ab bM,vI bN]=r:=bj (L:=bh) an h
noncomputable def aey(C:af)(bM:LV)(bN:Int):Option LV:=
 (C 21 [vI 8,ab bM,vI bN]).bind fun r1=>
 some [vI (wrap .i64 (2-(wrap .i64 (Int.tdiv (gI r1) 7)))),ab (gL (r1.drop 1)),vI (gI ((r1.drop 1).drop 1))]
theorem arC{bM:LV}{bN:Int}{r:Option LV}(h:aey CC bM bN=r):CC 10 [ab bM,vI bN]=r:=bj (L:=bh) an h
noncomputable def aez(C:af)(l:LV)(eb:Int):Option LV:=
 (C 8 [ab l]).bind fun r1=>
 (C 10 [ab (gL r1),vI (gI (r1.drop 1))]).bind fun r2=>
 (C 9 [vI (gI r2),vI eb,ab (gL (r2.drop 1)),vI (gI ((r2.drop 1).drop 1))]).bind fun r3=>
 some [vI (gI r3),vI (gI (r3.drop 1)),av (gL ((r3.drop 2).drop 2)),ah (gL (((r3.drop 2).drop 2).drop 1))]
theorem arD{l:LV}{eb:Int}{r:Option LV}(h:aez CC l eb=r):CC 4 [ab l,vI eb]=r:=bj (L:=bh) an h
def mI(L k:Nat):List (List UInt8):=
 if L=1 then(if k=1 then [[],[97]]else [[],[97],[97,97]])
 else(if k=1 then [[],[97],[98]]else [[],[97],[98],[97,97],[97,98],[98,97],[98,98]])
theorem arE:CC 49 [vI 1,vI 1]=some [cY [.str [],.str [97]]]:=e8 (N:=60) (n:=30) (by kernel_rfl)
theorem arF:CC 49 [vI 1,vI 2]=some [cY [.str [],.str [97],.str [97,97]]]:=e8 (N:=60) (n:=30) (by kernel_rfl)
theorem arG:CC 49 [vI 2,vI 1]=some [cY [.str [],.str [97],.str [98]]]:=e8 (N:=60) (n:=30) (by kernel_rfl)
theorem arH:CC 49 [vI 2,vI 2]=some [cY [.str [],.str [97],.str [98],.str [97,97],.str [97,98],.str [98,97],.str [98,98]]]:=e8 (N:=60) (n:=30) (by kernel_rfl)
theorem arI{L k:Nat}(h1:1≤L)(h2:L≤2)(k1:1≤k)(k2:k≤2):CC 49 [vI (L:Int),vI (k:Int)]=some [cY ((mI L k).map V.str)]:=by
 rcases(by omega:L=1∨L=2)with rfl|rfl<;>rcases(by omega:k=1∨k=2)with rfl|rfl
 ·exact arE
 ·exact arF
 ·exact arG
 ·exact arH
theorem arJ{L k:Nat}(h1:1≤L)(h2:L≤2)(k1:1≤k)(k2:k≤2):1≤(mI L k).length∧(mI L k).length≤7∧(∀w∈mI L k,w.length≤100)∧(∀a,a<L→[UInt8.ofNat (97+a)]∈mI L k)∧(mI L k).Nodup∧∀w∈mI L k,∀y∈jE (mI L k) L w,y<(mI L k).length:=by
 rcases(by omega:L=1∨L=2)with rfl|rfl<;>rcases(by omega:k=1∨k=2)with rfl|rfl<;>decide
theorem arK(t:Tp){L:Nat}(h1:1≤L)(h2:L≤2):∃(F:List Bool) (N:List (List Nat)) (u:Tp),FN L F N∧(N.length≤3∨L=2∧N=(mI 2 2).map (jE (mI 2 2) 2))∧
  CC 24 [vI (L:Int),t.L,t.K]=some [vI (L:Int),vI 0,u.L,u.K,av (F.map V.bool),ah (cS N)]:=by
 obtain⟨v,t1,hv,e1⟩:=tO t (n:=2) (by omega) (by omega);obtain⟨w1,w2,w3,w4,w5,w6⟩:=arJ (L:=L) (k:=v+1) h1 h2 (by omega) (by omega);have w7:((mI L (v+1)).map (jE (mI L (v+1)) L)).length≤3∨L=2∧(mI L (v+1)).map (jE (mI L (v+1)) L)=(mI 2 2).map (jE (mI 2 2) 2):=by
  rw[cT];rcases(by omega:L=1∨L=2)with rfl|rfl<;>rcases(by omega:v=0∨v=1)with rfl|rfl
  ·exact .inl (by decide)
  ·exact .inl (by decide)
  ·exact .inl (by decide)
  ·exact .inr ⟨rfl,rfl⟩
 have hW:=arI (L:=L) (k:=v+1) h1 h2 (by omega) (by omega);generalize mI L (v+1)=ws at*
 obtain⟨F,u,a1,e⟩:=ary (ws:=ws) (by omega) w5 w3 h2 w4 t1;refine⟨F,ws.map (jE ws L),u,⟨by rw[cT];omega,by rw[cT];omega,fun r hr=> ?_⟩,w7,arw ?_⟩
 ·obtain⟨w,hw,rfl⟩:=gm.1 hr;rw[cT];exact⟨by simp[jE],w6 w hw⟩
 unfold aev;have hw:wrap .i64 (1+(gI [vI (v:Int),t1.L,t1.K]))=((v+1:Nat):Int):=by
  show wrap .i64 (1+(v:Int))=_;rw[show(1+(v:Int))=((v+1:Nat):Int) by omega];exact wrap64 (by omega) (by omega)
 refine bs e1 ?_;rw[hw];refine bs hW ?_;have hl:((gL [cY (ws.map V.str)]).length:Int)=(ws.length:Int):=by show((ws.map V.str).length:Int)=_;rw[cT]
 rw[hl];exact bs e rfl
def kb:List (List Nat):=(mI 2 2).map (jE (mI 2 2) 2)
def Jy(L st:Nat)(N:List (List Nat)):Prop:=N.length≤4∨L=2∧N=kb∧st=0
theorem Jy.le{L st:Nat}{N:List (List Nat)}(h:Jy L st N):N.length≤7:=by
 rcases h with h|⟨_,rfl,_⟩
 ·omega
 ·decide
theorem arL(t:Tp){L m:Nat}(h1:1≤L)(h2:L≤2)(hm:1≤m)(qU:m≤4):∃(F:List Bool) (N:List (List Nat)) (st:Nat) (u:Tp),FN L F N∧Jy L st N∧st<N.length∧
  CC 9 [vI (L:Int),vI (m:Int),t.L,t.K]=some [vI (L:Int),vI (st:Int),u.L,u.K,av (F.map V.bool),ah (cS N)]:=by
 obtain⟨v,t1,hv,e1⟩:=tO t (n:=6) (by omega) (by omega);have A:∀z,ER CC (L:Int) (m:Int) (t.l.map iV) (t.k:Int)=z→CC 9 [vI (L:Int),vI (m:Int),t.L,t.K]=z:=fun z h=>arB h;have ES:∀k:Nat,v≠k→((gI [vI (v:Int),t1.L,t1.K])==(k:Int))=false:=fun k hk=>by
  show((v:Int)==(k:Int))=false;rw[GD];omega
 by_cases c1:v=1
 ·subst c1;obtain⟨F,N,u,a1,a2,e⟩:=aq6 t1 h1 (L:=L) (m:=m) (by omega) hm (by omega);refine⟨F,N,0,u,a1,.inl (by omega),a1.pos,A _ ?_⟩;unfold ER;exact bs e1 (bT rfl (bs e rfl))
 by_cases c2:v=2
 ·subst c2;obtain⟨F,N,st,u,a1,a2,a3,e⟩:=arl t1 h1 (L:=L) (m:=m) (by omega) hm (by omega);refine⟨F,N,st,u,a1,.inl (by omega),a3,A _ ?_⟩;unfold ER;have PD:(if(4:Int)<(m:Int)then(4:Int)else(m:Int))=(m:Int):=aD (by omega);refine bs e1 (bF (ES 1 (by omega)) (bT rfl ?_));rw[PD];exact bs e rfl
 by_cases c3:v=3
 ·subst c3;obtain⟨F,N,u,a1,a2,e⟩:=arK t1 h1 h2;refine⟨F,N,0,u,a1,a2.imp (fun h=>by omega) (fun h=>⟨h.1,h.2,rfl⟩),a1.pos,A _ ?_⟩;unfold ER;exact bs e1 (bF (ES 1 (by omega)) (bF (ES 2 (by omega)) (bT rfl (bs e rfl))))
 ·obtain⟨F,N,st,u,a1,a2,a3,e⟩:=aeo t1 h1 (L:=L) (m:=m) (by omega) hm (by omega);refine⟨F,N,st,u,a1,.inl (by omega),a3,A _ ?_⟩;unfold ER;exact bs e1 (bF (ES 1 c1) (bF (ES 2 c2) (bF (ES 3 c3) (bs e rfl))))
theorem arM(t:Tp):∃(L:Nat) (u:Tp),1≤L∧L≤2∧CC 10 [t.L,t.K]=some [vI (L:Int),u.L,u.K]:=by
 obtain⟨v,t1,hv,e1⟩:=tO t (n:=8) (by omega) (by omega);have key:∀v:Nat,v<8→∃L:Nat,1≤L∧L≤2∧wrap .i64 (2-(wrap .i64 (Int.tdiv ((v:Nat):Int) 7)))=(L:Int):=fun v hv=>by
  rcases(by omega:v=0∨v=1∨v=2∨v=3∨v=4∨v=5∨v=6∨v=7)with rfl|rfl|rfl|rfl|rfl|rfl|rfl|rfl
  all_goals first|exact⟨2,by omega,by omega,by decide⟩|exact⟨1,by omega,by omega,by decide⟩
 obtain⟨L,h1,h2,hL⟩:=key v hv;refine⟨L,t1,h1,h2,arC ?_⟩;unfold aey;refine bs e1 ?_;show some [vI (wrap .i64 (2-(wrap .i64 (Int.tdiv ((v:Nat):Int) 7)))),_,_]=_;rw[hL];rfl
theorem arN(l:List Int){m:Nat}(hm:1≤m)(qU:m≤4):∃a:Da,a.Ok∧a.L≤2∧Jy a.L a.st a.N∧CC 4 [ab (l.map iV),vI (m:Int)]=some (eu a):=by
 obtain⟨t,e0⟩:=aqT l;obtain⟨L,t1,h1,h2,e1⟩:=arM t;obtain⟨F,N,st,u,hF,hN,hs,e2⟩:=arL t1 h1 h2 hm qU;have hle:=hN.le;have ao:=hF.ok h1 (by omega) hs (by omega);refine⟨⟨L,st,F,N⟩,ao,h2,hN,?_⟩;rw[FN.leaves ao];refine arD ?_;unfold aez;exact bs e0 (bs e1 (bs e2 rfl))
noncomputable def n7:SE:=⟨63,30,fun x1=>[vI ((x1.cell 0).toInt),vI ((x1.cell 1).toInt),vI ((x1.cell 2).toInt)],fun k=>[82,126,83,86,89,88,87,84,130,129,165,85,54,29].getD k 0⟩
noncomputable def aeL(C:af):cp:=bz 65 Wa [Q0,Q0,Q0,Q1,Q1] [[1,2,3,0,0,0]] (@ED n7 C) (bz 17 Wb [Q0,Q0,Q1,Q1] [[1,2,0,0,0]] (@EE n7 C) bh)
theorem arO(C:af):bn C (aeL C) 82 (Lp [1,0,0,1,0,0,1,0,0] 82):=bA Wa [Q0,Q0,Q0,Q1,Q1] [[1,2,3,0,0,0]] (@ED n7 C) (ba an)
theorem arP(C:af):bn C (aeL C) 82 (Lp [1,0,0] 82):=bA Wb [Q0,Q0,Q1,Q1] [[1,2,0,0,0]] (@EE n7 C) (ba (bp (arO C) an))
theorem aeM{a b':Int}{eQ:LV}{r:Option LV}(h:ap2 n7 CC a b' eQ=r):CC 82 [vI a,vI b',ec eQ]=r:=bj (bp (arP CC) an) h
noncomputable def PH(C:af):cp:=zY 639 Wc [[1,2,0,4,5,6,0]] (@Vt n7 C) (zY 911 Wd [[1,2,3,4,5,6,0,0,0]] (@Vu n7 C) (zY 1215 We [[1,2,3,4,5,6,7,0,0],[1,2,3,4,5,6,7,0]] (@IV n7 C) (bz 33 Wf [Q1,Q1,Q1,Q1,Q1,Q1] [[0]] (@O3 n7 C) bh)))
theorem arQ(C:af):bn C (PH C) 54 (Cd 39 [1,1,0,0,0,1,1,1,0,1,0] [1,1,0,0,0,1,1,1,0,1,1] 54):=zZ Wc [[1,2,0,4,5,6,0]] (@Vt n7 C) (ba an) (ba an)
theorem arR(C:af):bn C (PH C) 54 (Cd 56 [1,1,0,0,0,1,1,1,1,1,0,1,0] [1,1,0,0,0,1,1,1,1,1,0,1,1] 54):=zZ Wd [[1,2,3,4,5,6,0,0,0]] (@Vu n7 C) (ba an) (ba an)
theorem arS(C:af):bn C (PH C) 54 (Cd 75 [1,1,0,0,0,1,1,1,1,1,1,0,1,0] [1,1,0,0,0,1,1,1,1,1,1,0,1,1] 54):=zZ We [[1,2,3,4,5,6,7,0,0],[1,2,3,4,5,6,7,0]] (@IV n7 C) (ba an) (ba an)
theorem arT(C:af):bn C (PH C) 54 (Lp [1,1,0,0] 54):=bA Wf [Q1,Q1,Q1,Q1,Q1,Q1] [[0]] (@O3 n7 C) (ba (bp (arQ C) (bp (arR C) (bp (arS C) an))))
theorem arU{a b' iX:Int}{eQ:LV}{r:Option LV}(h:ap7 n7 CC a b' iX eQ=r):CC 54 [vI a,vI b',vI iX,ec eQ]=r:=bj (bp (arT CC) an) h
theorem arV{xs:LV}{r:Option LV}(h:adV n7 CC xs=r):CC 29 [ec xs]=r:=bj (L:=bh) an h
noncomputable abbrev ET:SE:=n7
theorem arW(x:Ed):V.agg (ET.ex x.enc)=x.enc:=by simp only[n7,Ed.Eu,Ed.Ev,Ed.Ew];exact Ed.re x
theorem aeN(a b:Ed):CC ET.cmp (ET.ex a.enc++ET.ex b.enc)=some [vI (rn a b)]:=by simp only[n7,Ed.Eu,Ed.Ev,Ed.Ew];exact adr a b
def Jz(l:List Ed):Prop:=l.Pairwise fun x y=> ¬y.lt x
theorem Wg{P R:List Ed}{x:Ed}:((P++x::R).map Ed.enc)[P.length]? =some x.enc:=by simp
theorem aeO{P R:List Ed}{x y:Ed}:((P++x::R).map Ed.enc).set P.length y.enc=(P++y::R).map Ed.enc:=by simp
theorem arX{x:Ed}{R:List Ed}{b' i:Int}:∀(n:Nat) (P Q:List Ed),P.length=n→n≤1000→Jz (P++Q)→(∀q∈Q,x.lt q)→∃(S:List Ed) (j:Int) (b:Bool),S.Perm (P++x::Q)∧Jz S∧
  Loop (IS ET CC 0 b' i) ((P.length:Int),(P++x::(Q++R)).map Ed.enc)=some (j,b,(S++R).map Ed.enc):=by
 intro n
 induction n with
 |zero=>
  intro P Q hP _ hs hq;obtain rfl:P=[]:=vB.1 hP;refine⟨x::Q,0,false,List.Perm.refl _,GQ.2 ⟨fun q hm h=> ?_,hs⟩,gH ?_⟩
  ·have:=hq q hm;unfold Ed.lt at*;omega
  ·simp only[IS,ED,un];exact bF rfl rfl
 |succ n ih=>
  intro P Q hP hn hs hq;obtain⟨P',p,rfl⟩:∃P' p,P=P'++[p]:=by
   refine⟨P.dropLast,P.getLast (fun e=>by rw[e]at hP;cases hP),(List.dropLast_concat_getLast _).symm⟩
  have hl:P'.length=n:=by simpa using hP
  have e0:(P'++[p])++x::(Q++R)=P'++p::x::(Q++R):=by simp
  have hlen:(((P'++p::x::(Q++R)).map Ed.enc).length:Int)=(P'.length:Int)+2+((Q++R).length:Int):=by simp;omega
  have g1:((P'++p::x::(Q++R)).map Ed.enc)[n+1]? =some x.enc:=by
   have:=Wg (P:=P'++[p]) (x:=x) (R:=Q++R);rwa [e0,hP]at this
  have g0:((P'++p::x::(Q++R)).map Ed.enc)[n]? =some p.enc:=by rw[←hl];exact Wg
  have w1:wrap .i64 (((n+1:Nat):Int)-1)=(n:Int):=by rw[show(((n+1:Nat):Int)-1)=(n:Int) by omega];exact wrap64 (by omega) (by omega)
  rw[hP,e0];by_cases c:x.lt p
  ·obtain⟨S,j,b,h1,h2,h3⟩:=ih P' (p::Q) hl (by omega) (by simpa using hs) fun q hm=>by
    rcases jg.1 hm with rfl|hm
    ·exact c
    ·exact hq q hm
   refine⟨S,j,b,h1.trans ?_,h2,(gp ?_).trans h3⟩
   ·rw[eY];exact(List.Perm.swap _ _ _).append_left P'
   ·simp only[IS,ED,un,aA,bc];refine bT (cB (by omega)) ((bJ g1).trans ?_);rw[w1];refine(bJ g0).trans (bs (aeN x p) (bT (cB (show rn x p<0 from(OK _ _).2 c)) ((bJ g0).trans ((bJ g1).trans ((bJ g1).trans ?_)))))
    have s1:((P'++p::x::(Q++R)).map Ed.enc).set (n+1) p.enc=(P'++p::p::(Q++R)).map Ed.enc:=by
     have:=aeO (P:=P'++[p]) (x:=x) (y:=p) (R:=Q++R);rw[show P'++[p]++x::(Q++R)=P'++p::x::(Q++R) by simp,show P'++[p]++p::(Q++R)=P'++p::p::(Q++R) by simp,hP]at this;exact this
    have s2:((P'++p::p::(Q++R)).map Ed.enc).set n x.enc=(P'++x::p::(Q++R)).map Ed.enc:=by rw[←hl];exact aeO
    have g2:((P'++p::p::(Q++R)).map Ed.enc)[n]? =some p.enc:=by rw[←hl];exact Wg
    simp only[arW,Int.toNat_natCast,s1];refine(bJ g2).trans ?_;rw[s2,←hl];rfl
  ·refine⟨P'++[p]++x::Q,((n+1:Nat):Int),false,List.Perm.refl _,?_,gH ?_⟩
   ·have rF:=DA.1 hs;refine DA.2 ⟨rF.1,GQ.2 ⟨fun q hm h=> ?_,rF.2.1⟩,fun y hy z hz=> ?_⟩
    ·have:=hq q hm;unfold Ed.lt at*;omega
    ·rcases jg.1 hz with rfl|hz
     ·rcases ik.1 hy with hy|hy
      ·have:=(DA.1 rF.1).2.2 y hy p (jV.2 rfl);unfold Ed.lt at*;omega
      ·rw[jV.1 hy];exact c
     ·exact rF.2.2 y hy z hz
   ·simp only[IS,ED,un,aA,bc];refine bT (cB (by omega)) ((bJ g1).trans ?_);rw[w1];have hc:decide (rn x p<0)=false:=dj fun h=>c ((OK _ _).1 h);refine(bJ g0).trans (bs (aeN x p) (bF hc ?_))
    show some (Sum.inr (((n+1:Nat):Int),decide (rn x p<0),_))=_;rw[hc];simp
theorem arY(l:List Ed)(hl:l.length≤12):∃R:List Ed,CC 29 [ec (l.map Ed.enc)]=some [ec (R.map Ed.enc)]∧R.Perm l∧R.Pairwise (fun x y=> ¬y.lt x):=by
 have key:∀(n:Nat) (S R:List Ed),R.length=n→S.length≤1000→n≤100→Jz S→(S++R).Perm l→∃(T:List Ed) (j:Int) (b:Bool),T.Perm l∧Jz T∧
   Loop (IU ET CC 0 (l.length:Int)) ((S.length:Int),(S++R).map Ed.enc)=some (j,b,T.map Ed.enc):=by
  intro n
  induction n with
  |zero=>
   intro S R hR _ _ hS hp;obtain rfl:R=[]:=vB.1 hR;rw[nJ]at hp⊢;refine⟨S,(S.length:Int),decide ((S.length:Int)<(l.length:Int)),hp,hS,gH ?_⟩;simp only[IU,EE,un];exact bF (dj (by have:=hp.length_eq;omega)) rfl
  |succ n ih=>
   intro S R hR hSl hn hS hp;obtain⟨x,R,rfl⟩:∃x R',R=x::R':=by
    match R,hR with
    |x::R',_=>exact⟨x,R',rfl⟩
   have HV:=hp.length_eq;simp only[gY,List.length_cons]at HV hR;obtain⟨T,j,b,h1,h2,h3⟩:=arX (x:=x) (R:=R) (b':=(l.length:Int)) (i:=(S.length:Int)) S.length S [] rfl hSl (by simpa using hS) fun q h=>by cases h
   have hTl:T.length=S.length+1:=by rw[h1.length_eq];simp
   obtain⟨U,j2,b2,k1,k2,k3⟩:=ih T R (by omega) (by omega) (by omega) h2 ((h1.append_right R).trans (by simpa using hp));refine⟨U,j2,b2,k1,k2,(gp ?_).trans k3⟩;simp only[IU,EE,un];refine bT (cB (by omega)) (bs h3 ?_);simp only[un];rw[bu (by omega),hTl]
 have arZ:∃T:List Ed,T.Perm l∧Jz T∧CC 82 [vI 0,vI (l.length:Int),ec (l.map Ed.enc)]=some [ec (T.map Ed.enc)]:=by
  cases l with
  |nil=>
   refine⟨[],List.Perm.refl _,List.Pairwise.nil,aeM ?_⟩;refine bs (gH (r:=((1:Int),false,([]:LV))) ?_) rfl;simp only[IU,EE,un];exact bF rfl rfl
  |cons x l=>
   obtain⟨T,j,b,h1,h2,h3⟩:=key l.length [x] l rfl (by simp) (by simp at hl;omega) (List.pairwise_singleton _ _) (List.Perm.refl _);exact⟨T,h1,h2,aeM (bs h3 rfl)⟩
 obtain⟨T,h1,h2,e1⟩:=arZ;have hlen:∃L:Int,CC 55 [.int .u64 (l.length:Int)]=some [vI L]:=by
  generalize l.length=n at hl;rcases(by omega:n=0∨n=1∨n=2∨n=3∨n=4∨n=5∨n=6∨n=7∨n=8∨n=9∨n=10∨n=11∨n=12)with rfl|rfl|rfl|rfl|rfl|rfl|rfl|rfl|rfl|rfl|rfl|rfl|rfl
  ·exact⟨0,e8 (N:=60) (n:=30) (by kernel_rfl)⟩
  ·exact⟨1,e8 (N:=60) (n:=30) (by kernel_rfl)⟩
  ·exact⟨2,e8 (N:=60) (n:=30) (by kernel_rfl)⟩
  ·exact⟨2,e8 (N:=60) (n:=30) (by kernel_rfl)⟩
  ·exact⟨3,e8 (N:=60) (n:=30) (by kernel_rfl)⟩
  ·exact⟨3,e8 (N:=60) (n:=30) (by kernel_rfl)⟩
  ·exact⟨3,e8 (N:=60) (n:=30) (by kernel_rfl)⟩
  ·exact⟨3,e8 (N:=60) (n:=30) (by kernel_rfl)⟩
  ·exact⟨4,e8 (N:=60) (n:=30) (by kernel_rfl)⟩
  ·exact⟨4,e8 (N:=60) (n:=30) (by kernel_rfl)⟩
  ·exact⟨4,e8 (N:=60) (n:=30) (by kernel_rfl)⟩
  ·exact⟨4,e8 (N:=60) (n:=30) (by kernel_rfl)⟩
  ·exact⟨4,e8 (N:=60) (n:=30) (by kernel_rfl)⟩
 obtain⟨L,eL⟩:=hlen;have e2:CC 54 [vI 0,vI (l.length:Int),vI L,ec (l.map Ed.enc)]=some [ec (T.map Ed.enc)]:=by
  refine arU ?_;refine bs (gH (r:=T.map Ed.enc) ?_) rfl;simp only[adU,O3,un];have w0:wrap .i64 ((l.length:Int)-0)=(l.length:Int):=by rw[Int.sub_zero];exact wrap64 (by omega) (by omega)
  exact bT (cB (by rw[w0];omega)) (bs e1 rfl)
 refine⟨T,arV ?_,h1,h2⟩;have wu:wrap .u64 (((l.map Ed.enc).length:Nat):Int)=(l.length:Int):=by
  rw[cT];have:l.length<13:=by omega
  generalize l.length=n at this;rcases(by omega:n=0∨n=1∨n=2∨n=3∨n=4∨n=5∨n=6∨n=7∨n=8∨n=9∨n=10∨n=11∨n=12)with rfl|rfl|rfl|rfl|rfl|rfl|rfl|rfl|rfl|rfl|rfl|rfl|rfl<;>rfl
 unfold adV;rw[wu,cT];exact bs eL (bs e2 rfl)
theorem ar0{F:List Bool}(hF:F.length=7):(⟨2,0,F,kb⟩:Da).Ih:=by
 have hb:(⟨2,0,List.replicate 7 false,kb⟩:Da).mt 14=7∧(∀t,t<14→(⟨2,0,List.replicate 7 false,kb⟩:Da).pos t≤(⟨2,0,List.replicate 7 false,kb⟩:Da).mt t)∧∀q,q<7→q<(⟨2,0,List.replicate 7 false,kb⟩:Da).mt (q*2):=by decide
 have gg:(⟨2,0,F,kb⟩:Da).pos=(⟨2,0,List.replicate 7 false,kb⟩:Da).pos:=rfl;have Wh:∀t,(⟨2,0,F,kb⟩:Da).mt t=(⟨2,0,List.replicate 7 false,kb⟩:Da).mt t:=by
  intro t
  induction t with
  |zero=>rfl
  |succ t ih=>
   show(if(⟨2,0,F,kb⟩:Da).pos t=(⟨2,0,F,kb⟩:Da).mt t then(⟨2,0,F,kb⟩:Da).mt t+1 else(⟨2,0,F,kb⟩:Da).mt t)=(if _ then _ else _)
   rw[ih,gg]
 have hn:(⟨2,0,F,kb⟩:Da).n=7:=hF;refine⟨fun t ht=> ?_,fun q hq=> ?_,?_⟩
 ·rw[hn]at ht;rw[Wh,gg];exact hb.2.1 t ht
 ·rw[hn]at hq;rw[Wh];exact hb.2.2 q hq
 ·rw[hn,Wh];exact hb.1
theorem ar1{F:List Bool}(h:(⟨2,0,F,kb⟩:Da).Ok)(h7:(minD ⟨2,0,F,kb⟩).n=7):minD ⟨2,0,F,kb⟩=⟨2,0,F,kb⟩:=by
 have hF:F.length=7:=by have:=h.nN;exact this.symm
 have hn:(⟨2,0,F,kb⟩:Da).n=7:=hF;have ar2:=ar0 hF;generalize ha:(⟨2,0,F,kb⟩:Da)=a at*
 have cv:a.st=0:=by rw[←ha]
 have hc:=vX h;have hL:=tB h;have hex:∀q:Nat,∃w,q<7→WL a.L w∧(minD a).run (minD a).st w=q:=fun q=>by
  by_cases c:q<7
  ·obtain⟨w,h1,h2⟩:=UI h (by rw[h7];exact c);exact⟨w,fun _=>⟨h1,h2⟩⟩
  ·exact⟨[],fun c2=>absurd c2 c⟩
 obtain⟨W,hW⟩:=MN hex;have eqv:∀p q,p<7→q<7→(∀w,WL a.L w→a.acc (a.run a.st (W p)) w=a.acc (a.run a.st (W q)) w)→p=q:=fun p q hp hq e=>by
  obtain⟨p1,p2⟩:=hW p hp;obtain⟨q1,q2⟩:=hW q hq;refine hc.red p q (by rw[h7];exact hp) (by rw[h7];exact hq) fun w hw=> ?_;rw[hL]at hw;rw[←p2,←q2,←Da.vY,←Da.vY,zO h (WL.app.2 ⟨p1,hw⟩),zO h (WL.app.2 ⟨q1,hw⟩),Da.vY,Da.vY,e w hw]
 have jN:((List.range 7).map fun q=>a.run a.st (W q)).Nodup:=acX fun p q hp hq e=>eqv p q hp hq fun w _=>by rw[e]
 have xV:∀p,p<7→∃i,i<7∧a.run a.st (W i)=p:=fun p hp=>by
  refine Classical.byContradiction fun hn=> ?_;have:=za (l₂:=(List.range 7).erase p) jN fun x hx=>by
   obtain⟨i,hi,rfl⟩:=gm.1 hx;have hi:=gn.1 hi;have aO:=h.vZ (W i) h.s (hW i hi).1;exact(List.mem_erase_of_ne fun e=>hn ⟨i,hi,e⟩).2 (gn.2 (by omega))
  rw[cT,lk,List.length_erase_of_mem (gn.2 hp),lk]at this;omega
 refine(Wi h ⟨h,rfl,cv,ar2,fun p q hp hq he=> ?_,fun w _=>by rw[cv]⟩).symm;rw[hn]at hp hq;obtain⟨i,hi,rfl⟩:=xV p hp;obtain⟨j,hj,rfl⟩:=xV q hq;rw[eqv i j hi hj he]
def aeP:List Ed:=[dB 1 0 0,dB 2 1 0,dB 3 0 1,dB 3 0 3,dB 3 0 5,dB 4 1 1,dB 4 1 3,dB 4 1 5,dB 5 0 2,dB 5 0 4,dB 5 0 6,dB 6 1 2,dB 6 1 4,dB 6 1 6]
def aeQ:List Ed:=[dB 1 0 0,dB 2 1 0,dB 3 0 1,dB 4 1 1,dB 5 0 2,dB 6 1 2,dB 3 0 3,dB 4 1 3,dB 5 0 4,dB 6 1 4,dB 3 0 5,dB 4 1 5,dB 5 0 6,dB 6 1 6]
theorem ar3:CC 29 [ec (aeQ.map Ed.enc)]=some [ec (aeP.map Ed.enc)]:=e8 (N:=60) (n:=30) (by kernel_rfl)
theorem ar4{a:Da}(h:a.Ok)(h2:a.L≤2)(hf:Jy a.L a.st a.N):∃R:List Ed,CC 29 [ec (((eS (minD a) 0).map Ed.rev).map Ed.enc)]=some [ec (R.map Ed.enc)]∧R.Perm ((eS (minD a) 0).map Ed.rev)∧R.Pairwise (fun x y=> ¬y.lt x):=by
 have hm:=sw h;have hle:=UJ h;have hlen:((eS (minD a) 0).map Ed.rev).length≤(minD a).n*2:=by
  rw[cT];unfold eS;have:∀n,(fm n (qf (minD a) 0)).length≤n*2:=fun n=>by
   induction n with
   |zero=>exact aW _
   |succ n ih=>
    rw[I5,gY];have:(qf (minD a) 0 n).length≤2:=by unfold qf;rw[en,tB h];exact h2
    omega
  exact this _
 by_cases c:(minD a).n≤6
 ·exact arY _ (by omega)
 ·rcases hf with hf|⟨e1,e2,e3⟩
  ·have:=h.nN;omega
  ·obtain⟨L,st,F,N⟩:=a;obtain rfl:L=2:=e1;obtain rfl:N=kb:=e2;obtain rfl:st=0:=e3;have hF:F.length=7:=by have:=h.nN;exact this.symm
   have hn:(⟨2,0,F,kb⟩:Da).n=7:=hF;rw[ar1 h (by omega)];have hE:(eS ⟨2,0,F,kb⟩ 0).map Ed.rev=aeQ:=by
    unfold eS;rw[hn];rfl
   rw[hE];exact⟨aeP,ar3,by decide,by unfold Ed.lt;decide⟩
noncomputable def JA(C:af)(a b':LV)(t44 t45:Int){β:Type}(kn:Int→Option β)(kr:((Bool) ⊕ (Int×Bool))→Option β):Option β:=
 bif decide (t45<t44)then
  bif t45==8 then
  bif t45==8 then
   (idx a t45).bind fun x8=>
   bif (x8.toInt:Int)==1 then
   (idx b' (wrap .i64 (17-t45))).bind fun x9=>
   bif (x9.toInt:Int)==0 then
    kr (.inl false)
   else
    (idx a t45).bind fun mA=>
    bif (mA.toInt:Int)==0 then
    (idx b' (wrap .i64 (17-t45))).bind fun np=>
    bif (np.toInt:Int)==1 then
     kr (.inl false)
    else
     kn (wrap .i64 (t45+1))
    else
    kn (wrap .i64 (t45+1))
   else
   (idx a t45).bind fun ka=>
   bif (ka.toInt:Int)==0 then
    (idx b' (wrap .i64 (17-t45))).bind fun EU=>
    bif (EU.toInt:Int)==1 then
    kr (.inl false)
    else
    kn (wrap .i64 (t45+1))
   else
    kn (wrap .i64 (t45+1))
  else
   bif t45==12 then
   bif t45==12 then
    (idx a t45).bind fun EO=>
    bif (EO.toInt:Int)==1 then
    (idx b' (wrap .i64 (25-t45))).bind fun zV=>
    bif (zV.toInt:Int)==0 then
     kr (.inl false)
    else
     (idx a t45).bind fun zW=>
     bif (zW.toInt:Int)==0 then
     (idx b' (wrap .i64 (25-t45))).bind fun uY=>
     bif (uY.toInt:Int)==1 then
      kr (.inl false)
     else
      kn (wrap .i64 (t45+1))
     else
     kn (wrap .i64 (t45+1))
    else
    (idx a t45).bind fun EP=>
    bif (EP.toInt:Int)==0 then
     (idx b' (wrap .i64 (25-t45))).bind fun z7=>
     bif (z7.toInt:Int)==1 then
     kr (.inl false)
     else
     kn (wrap .i64 (t45+1))
    else
     kn (wrap .i64 (t45+1))
   else
    (idx a t45).bind fun PI=>
    bif (PI.toInt:Int)==1 then
    (idx b' t45).bind fun Wj=>
    bif (Wj.toInt:Int)==0 then
     kr (.inl false)
    else
     (idx a t45).bind fun EV=>
     bif (EV.toInt:Int)==0 then
     (idx b' t45).bind fun PJ=>
     bif (PJ.toInt:Int)==1 then
      kr (.inl false)
     else
      kn (wrap .i64 (t45+1))
     else
     kn (wrap .i64 (t45+1))
    else
    (idx a t45).bind fun EW=>
    bif (EW.toInt:Int)==0 then
     (idx b' t45).bind fun JB=>
     bif (JB.toInt:Int)==1 then
     kr (.inl false)
     else
     kn (wrap .i64 (t45+1))
    else
     kn (wrap .i64 (t45+1))
   else
   bif t45==13 then
    (idx a t45).bind fun EX=>
    bif (EX.toInt:Int)==1 then
    (idx b' (wrap .i64 (25-t45))).bind fun PK=>
    bif (PK.toInt:Int)==0 then
     kr (.inl false)
    else
     (idx a t45).bind fun IY=>
     bif (IY.toInt:Int)==0 then
     (idx b' (wrap .i64 (25-t45))).bind fun IZ=>
     bif (IZ.toInt:Int)==1 then
      kr (.inl false)
     else
      kn (wrap .i64 (t45+1))
     else
     kn (wrap .i64 (t45+1))
    else
    (idx a t45).bind fun PM=>
    bif (PM.toInt:Int)==0 then
     (idx b' (wrap .i64 (25-t45))).bind fun x31=>
     bif (x31.toInt:Int)==1 then
     kr (.inl false)
     else
     kn (wrap .i64 (t45+1))
    else
     kn (wrap .i64 (t45+1))
   else
    (idx a t45).bind fun x32=>
    bif (x32.toInt:Int)==1 then
    (idx b' t45).bind fun x33=>
    bif (x33.toInt:Int)==0 then
     kr (.inl false)
    else
     (idx a t45).bind fun x34=>
     bif (x34.toInt:Int)==0 then
     (idx b' t45).bind fun x35=>
     bif (x35.toInt:Int)==1 then
      kr (.inl false)
     else
      kn (wrap .i64 (t45+1))
     else
     kn (wrap .i64 (t45+1))
    else
    (idx a t45).bind fun x36=>
    bif (x36.toInt:Int)==0 then
     (idx b' t45).bind fun x37=>
     bif (x37.toInt:Int)==1 then
     kr (.inl false)
     else
     kn (wrap .i64 (t45+1))
    else
     kn (wrap .i64 (t45+1))
  else
  bif t45==9 then
   (idx a t45).bind fun x38=>
   bif (x38.toInt:Int)==1 then
   (idx b' (wrap .i64 (17-t45))).bind fun Wk=>
   bif (Wk.toInt:Int)==0 then
    kr (.inl false)
   else
    (idx a t45).bind fun PN=>
    bif (PN.toInt:Int)==0 then
    (idx b' (wrap .i64 (17-t45))).bind fun O4=>
    bif (O4.toInt:Int)==1 then
     kr (.inl false)
    else
     kn (wrap .i64 (t45+1))
    else
    kn (wrap .i64 (t45+1))
   else
   (idx a t45).bind fun O5=>
   bif (O5.toInt:Int)==0 then
    (idx b' (wrap .i64 (17-t45))).bind fun x43=>
    bif (x43.toInt:Int)==1 then
    kr (.inl false)
    else
    kn (wrap .i64 (t45+1))
   else
    kn (wrap .i64 (t45+1))
  else
   bif t45==12 then
   bif t45==12 then
    (idx a t45).bind fun x44=>
    bif (x44.toInt:Int)==1 then
    (idx b' (wrap .i64 (25-t45))).bind fun x45=>
    bif (x45.toInt:Int)==0 then
     kr (.inl false)
    else
     (idx a t45).bind fun x46=>
     bif (x46.toInt:Int)==0 then
     (idx b' (wrap .i64 (25-t45))).bind fun x47=>
     bif (x47.toInt:Int)==1 then
      kr (.inl false)
     else
      kn (wrap .i64 (t45+1))
     else
     kn (wrap .i64 (t45+1))
    else
    (idx a t45).bind fun x48=>
    bif (x48.toInt:Int)==0 then
     (idx b' (wrap .i64 (25-t45))).bind fun JC=>
     bif (JC.toInt:Int)==1 then
     kr (.inl false)
     else
     kn (wrap .i64 (t45+1))
    else
     kn (wrap .i64 (t45+1))
   else
    (idx a t45).bind fun x50=>
    bif (x50.toInt:Int)==1 then
    (idx b' t45).bind fun Wl=>
    bif (Wl.toInt:Int)==0 then
     kr (.inl false)
    else
     (idx a t45).bind fun x52=>
     bif (x52.toInt:Int)==0 then
     (idx b' t45).bind fun x53=>
     bif (x53.toInt:Int)==1 then
      kr (.inl false)
     else
      kn (wrap .i64 (t45+1))
     else
     kn (wrap .i64 (t45+1))
    else
    (idx a t45).bind fun Wm=>
    bif (Wm.toInt:Int)==0 then
     (idx b' t45).bind fun PO=>
     bif (PO.toInt:Int)==1 then
     kr (.inl false)
     else
     kn (wrap .i64 (t45+1))
    else
     kn (wrap .i64 (t45+1))
   else
   bif t45==13 then
    (idx a t45).bind fun x56=>
    bif (x56.toInt:Int)==1 then
    (idx b' (wrap .i64 (25-t45))).bind fun x57=>
    bif (x57.toInt:Int)==0 then
     kr (.inl false)
    else
     (idx a t45).bind fun x58=>
     bif (x58.toInt:Int)==0 then
     (idx b' (wrap .i64 (25-t45))).bind fun x59=>
     bif (x59.toInt:Int)==1 then
      kr (.inl false)
     else
      kn (wrap .i64 (t45+1))
     else
     kn (wrap .i64 (t45+1))
    else
    (idx a t45).bind fun x60=>
    bif (x60.toInt:Int)==0 then
     (idx b' (wrap .i64 (25-t45))).bind fun x61=>
     bif (x61.toInt:Int)==1 then
     kr (.inl false)
     else
     kn (wrap .i64 (t45+1))
    else
     kn (wrap .i64 (t45+1))
   else
    (idx a t45).bind fun x62=>
    bif (x62.toInt:Int)==1 then
    (idx b' t45).bind fun x63=>
    bif (x63.toInt:Int)==0 then
     kr (.inl false)
    else
     (idx a t45).bind fun x64=>
     bif (x64.toInt:Int)==0 then
     (idx b' t45).bind fun x65=>
     bif (x65.toInt:Int)==1 then
      kr (.inl false)
     else
      kn (wrap .i64 (t45+1))
     else
     kn (wrap .i64 (t45+1))
    else
    (idx a t45).bind fun x66=>
    bif (x66.toInt:Int)==0 then
     (idx b' t45).bind fun x67=>
     bif (x67.toInt:Int)==1 then
     kr (.inl false)
     else
     kn (wrap .i64 (t45+1))
    else
     kn (wrap .i64 (t45+1))
 else
  kr (.inr (t45,decide (t45<t44)))
noncomputable def PQ(C:af)(a b':LV)(t44:Int):=fun t45=>JA C a b' t44 t45 (fun y=>some (Sum.inl y)) (fun r=>some (Sum.inr r))
noncomputable def ar5(C:af):cp:=bz 161 Wn [Q0,Q0,Q0,Q1] [[0],[1,2,3,0,0]] (@JA C) bh
theorem ar6(C:af):bn C (ar5 C) 3 (Lp [1,1,1,1,1,1,1,0,1,0,0] 3):=bA Wn [Q0,Q0,Q0,Q1] [[0],[1,2,3,0,0]] (@JA C) (ba an)
noncomputable def aeR(C:af)(l:LV):Option LV:=
 (C 4 [ab l,vI 3]).bind fun r1=>
 (C 5 [vI (gI r1),vI (gI (r1.drop 1)),av (gL (r1.drop 2)),ah (gL ((r1.drop 2).drop 1))]).bind fun r2=>
 bif ((gI (r2.drop 2)):Int) != 0 then
  bif ((gI (r2.drop 2)):Int)==3 then
  (C 6 []).bind fun r3=>
  some [.bool (gB r3)]
  else
  some [.bool false]
 else
  (C 7 [vI (gI r1),vI (gI (r1.drop 1)),av (gL (r1.drop 2)),ah (gL ((r1.drop 2).drop 1))]).bind fun r4=>
  (C 7 [vI (gI r2),vI (gI (r2.drop 1)),av (gL (r2.drop 3)),ah (gL ((r2.drop 3).drop 1))]).bind fun r5=>
  bif !(gB (r4.drop 1))then
  (C 6 []).bind fun r6=>
  some [.bool (gB r6)]
  else
  bif !(gB (r5.drop 1))then
   (C 6 []).bind fun r7=>
   some [.bool (gB r7)]
  else
   (Loop (PQ C (gL r4) (gL r5) ((gL r4).length:Int)) 0).bind (ed (fun(ar7:Bool)=>
    some [.bool ar7]) (un fun(aHb:Int) (aHc:Bool)=>
    (C 6 []).bind fun r71=>
    some [.bool (gB r71)]))
theorem ar8{l:LV}{r:Option LV}(h:aeR CC l=r):CC 3 [ab l]=r:=bj (bp (ar6 CC) an) h
theorem ar9{a b:LV}{i j:Nat}{ii ji:Int}{n n2:Int}(h1:a[i]? =some (vI n))(h2:b[j]? =some (vI n2))(hi:ii=(i:Int))(hj:ji=(j:Int))(c1:n=1→n2≠0)(c2:n=0→n2≠1){β:Type}{kf kt:Option β}:
  ((idx a ii).bind fun x=>bif (x.toInt:Int)==1 then(idx b ji).bind fun y=>bif (y.toInt:Int)==0 then kf else(idx a ii).bind fun x=>bif (x.toInt:Int)==0 then(idx b ji).bind fun y=>bif (y.toInt:Int)==1 then kf else kt else kt
   else(idx a ii).bind fun x=>bif (x.toInt:Int)==0 then(idx b ji).bind fun y=>bif (y.toInt:Int)==1 then kf else kt else kt)=kt:=by
 subst hi;subst hj;have g1:idx a (i:Int)=some (vI n):=by rw[BE rfl];exact h1
 have g2:idx b (j:Int)=some (vI n2):=by rw[BE rfl];exact h2
 have ne:∀{p q:Int},p≠q→(p==q)=false:=fun h=>GD.2 h;refine bs g1 ?_;by_cases k1:n=1
 ·exact bT (by show(n==1)=true;rw[k1];rfl) (bs g2 (bF (ne (c1 k1)) (bs g1 (bF (ne (p:=n) (q:=0) (by omega)) rfl))))
 ·refine bF (ne k1) (bs g1 ?_);by_cases k0:n=0
  ·exact bT (by show(n==0)=true;rw[k0];rfl) (bs g2 (bF (ne (c2 k0)) rfl))
  ·exact bF (ne k0) rfl
theorem asa{L:Nat}{P Q:List Nat→Bool}{a b:LV}(ha:Ov L P a)(hb:Ov L Q b)(h1:∀k,k<16→j9 L P k→j9 L Q (tL k))(h2:∀k,k<16→j9 L Q (tL k)→j9 L P k):Loop (PQ CC a b 16) 0=some (.inr (16,false)):=by
 refine eZ 16 (fun i=>(i:Int)) _ (fun i hi=> ?_) ?_
 ·have hd:tL i<16:=by unfold tL;split;omega;split;omega;split;omega;split<;>omega
  obtain⟨n,e1,k1,k0⟩:=ha.2 i hi;obtain⟨n2,e2,j1,j0⟩:=hb.2 (tL i) hd;have c1:n=1→n2≠0:=fun e e'=>j0 e' (h1 i hi (k1 e));have c2:n=0→n2≠1:=fun e e'=>k0 e (h2 i hi (j1 e'));simp only[PQ,JA];rcases(by omega:i=0∨i=1∨i=2∨i=3∨i=4∨i=5∨i=6∨i=7∨i=8∨i=9∨i=10∨i=11∨i=12∨i=13∨i=14∨i=15)with rfl|rfl|rfl|rfl|rfl|rfl|rfl|rfl|rfl|rfl|rfl|rfl|rfl|rfl|rfl|rfl
  all_goals exact ar9 e1 e2 rfl rfl c1 c2
 ·simp only[PQ,JA];exact bF rfl rfl
theorem amp(l:List Int):CC 3 [ab (l.map iV)]=some [.bool true]:=by
 obtain⟨a,ha,hL,hf,e0⟩:=arN l (m:=3) (by omega) (by omega);have hn:(minD a).n≤7:=pJ (UJ ha) (by rw[←ha.nN];exact hf.le);obtain⟨r,eR,hr,_⟩:=(aqQ ha (by omega) (ar4 ha hL hf)).small (by omega);have kr:=hr.ok;have v0:=ac5 ha;have v1:=ac5 kr;rw[hr.hL]at v1;have ac:∀w,WL a.L w→r.acc r.st w=a.acc a.st w.reverse:=fun w hw=>hr.acc hw Iff.rfl;have h1:∀k,k<16→j9 a.L (a.acc a.st) k→j9 a.L (r.acc r.st) (tL k):=fun k hk h=>(h.aed hk).quo WL.nil WL.nil fun w hw=>by
  rw[nJ,List.nil_append];exact ac w hw
 have h2:∀k,k<16→j9 a.L (r.acc r.st) (tL k)→j9 a.L (a.acc a.st) k:=fun k hk h=>by
  have hd:tL k<16:=by unfold tL;split;omega;split;omega;split;omega;split<;>omega
  have u4:tL (tL k)=k:=by
   rcases(by omega:k=0∨k=1∨k=2∨k=3∨k=4∨k=5∨k=6∨k=7∨k=8∨k=9∨k=10∨k=11∨k=12∨k=13∨k=14∨k=15)with rfl|rfl|rfl|rfl|rfl|rfl|rfl|rfl|rfl|rfl|rfl|rfl|rfl|rfl|rfl|rfl<;>rfl
  have:=h.aed hd;rw[u4]at this;refine this.quo WL.nil WL.nil fun w hw=> ?_;rw[nJ,List.nil_append,ac _ hw.rev,List.reverse_reverse]
 refine ar8 ?_;unfold aeR;refine bs e0 (bs eR (bF rfl ?_));rcases v0 with p0|⟨l0,p0,q0⟩<;>rcases v1 with p1|⟨l1,p1,q1⟩
 all_goals refine bs p0 (bs p1 ?_)
 case inr.inr=>
  refine bF rfl (bF rfl ?_);have hl:(((gL [ab l0,V.bool true]).length:Nat):Int)=16:=by show(l0.length:Int)=16;rw[q0.1];rfl
  rw[hl];exact bs (asa q0 q1 h1 h2) (bs Wp rfl)
 all_goals first|exact bT rfl (bs Wp rfl)|exact bF rfl (bT rfl (bs Wp rfl))
end Go.AM
set_option maxRecDepth 100000
namespace Go.AM
open Go.IntKind (wrap)
theorem WT.asb{P:Program}{t:TypeId}{x:V}(hu:P.underlying t=some (.int .i64))(h:WT P t x):∃n:Int,x=vI n∧ -9223372036854775808≤n∧n≤9223372036854775807:=by
 obtain⟨n,rfl,h1,h2⟩:=h.gx hu;have e1:IntKind.min .i64= -9223372036854775808:=by decide
 have e2:IntKind.max .i64=9223372036854775807:=by decide
 rw[e1]at h1;rw[e2]at h2;exact⟨n,rfl,h1,h2⟩
end Go.AM
set_option maxRecDepth 100000
namespace Go.AM
open Go.IntKind (wrap)
open Go.Proofs
def abA(r:List Int):V:=ab (r.map fun n=>vI n)
theorem amo{t:TypeId}{x:V}(hu:Tryz.prog.underlying t=some (.slice 3))(hi:Tryz.prog.underlying 3=some (.int .i64))(h:oK Tryz.prog t x):∃r:List Int,x=abA r∧(r.length≤maxLen∧∀q∈r,-9223372036854775808≤q∧q≤9223372036854775807):=by
 obtain⟨es,rfl,e1,e2⟩:=WT.asd hu (oK.one (by simp[bW,hu]) h);obtain⟨r,rfl,hr⟩:=aeS (f:=fun n=>vI n) (p:=fun q=> -9223372036854775808≤q∧q≤9223372036854775807) fun y hy=>WT.asb hi (oK.one (by simp[bW,hi]) (e2 y hy));exact⟨r,rfl,by simpa using e1,hr⟩
end Go.AM
