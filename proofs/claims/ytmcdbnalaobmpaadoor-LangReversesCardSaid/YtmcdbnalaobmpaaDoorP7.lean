/-
  Functions of the program, lifted to plain data.
-/
import Derived.Test.YtmcdbnalaobmpaaDoorP6
set_option linter.unusedVariables false
set_option linter.unusedSimpArgs false
set_option maxRecDepth 100000
set_option maxHeartbeats 4000000
namespace Go.AM
open Go.Proofs Go.Sort
def ai (a b:Ed):Bool:=decide (aR a b<0)
theorem ll (a b:Ed):(ai a b=true)=(aR a b<0):=by unfold ai;rw[dx]
theorem ka (a b:Ed):((!ai a b)=true)= ¬(aR a b<0):=by unfold ai;simp
abbrev eA (d:Array Ed):List V:=pw Ed.enc d
theorem Qo (a j:Nat) (d:Array Ed):insInner ai a (j+1) d=if j+1>a then (if aR d[j+1]! d[j]! <0 then insInner ai a j (swp d (j+1) j) else d) else d:=by
 rw[Qf]
 by_cases h1:j+1>a
 ·rw[ag h1];simp only[h1,pE,qs,ll]
 ·rw[ah h1,ah (by simp[h1])]
theorem xt (hi first root:Nat) (d:Array Ed):siftDown ai hi first root d=
  if 2*root+1≥hi then d else
   if 2*root+2<hi then
    (if aR d[first+(2*root+1)]! d[first+(2*root+2)]! <0 then
     (if aR d[first+root]! d[first+(2*root+2)]! <0 then siftDown ai hi first (2*root+2) (swp d (first+root) (first+(2*root+2))) else d)
    else (if aR d[first+root]! d[first+(2*root+1)]! <0 then siftDown ai hi first (2*root+1) (swp d (first+root) (first+(2*root+1))) else d))
   else (if aR d[first+root]! d[first+(2*root+1)]! <0 then siftDown ai hi first (2*root+1) (swp d (first+root) (first+(2*root+1))) else d):=by
 rw[siftDown]
 by_cases h1:2*root+1≥hi
 ·rw[nH h1,ag h1]
 rw[dif_neg h1,ah h1]
 by_cases h2:2*root+2<hi
 ·rw[ag h2]
  by_cases h3:aR d[first+(2*root+1)]! d[first+(2*root+2)]! <0
  ·rw[ag h3,ag (by simp only[aL,dx,ll];exact ⟨h2,h3⟩)]
   simp only[ka]
   by_cases h4:aR d[first+root]! d[first+(2*root+2)]! <0
   ·rw[ah (jI h4),nH h2,ag h4]
   ·rw[ag h4,ah h4]
  ·rw[ah h3,ah (by simp only[aL,dx,ll];exact fun h=>h3 h.2)]
   simp only[ka]
   by_cases h4:aR d[first+root]! d[first+(2*root+1)]! <0
   ·rw[ah (jI h4),ag h4]
   ·rw[ag h4,ah h4]
 ·rw[ah h2,ah (by simp only[aL,dx,ll];exact fun h=>h2 h.1)]
  simp only[ka]
  by_cases h4:aR d[first+root]! d[first+(2*root+1)]! <0
  ·rw[ah (jI h4),ag h4]
  ·rw[ag h4,ah h4]
theorem EH {a b i:Nat}: ∀(j:Nat) (d:Array Ed),j<d.size→d.size<1152921504606846976→
  ∃j' t,Loop (AF CC a b i) ((j:Int),eA d)=some (j',t,eA (insInner ai a j d))
 | 0,d,hj,hs=>⟨(0:Nat),false,bd (by
   simp (disch:=omega) only[AF,AE,un,aw,ah]
   rfl)⟩
 | j+1,d,hj,hs=>by
  obtain ⟨j',t,ih⟩:=EH (a:=a) (b:=b) (i:=i) j (swp d (j+1) j) (by rw[size_swp];omega) (by rw[size_swp];omega)
  rw[Qo]
  by_cases h1:j+1>a
  ·rw[ag h1]
   have e:AF CC a b i (((j+1:Nat):Int),eA d)=if aR d[j+1]! d[j]! <0 then some (.inl ((j:Int),eA (swp d (j+1) j))) else some (.inr (((j+1:Nat):Int),decide (aR d[j+1]! d[j]! <0),eA d)):=by
    simp (disch:=omega) only[AF,AE,un,aw,cE,dF,ag,ah,wrap64,bU,db,Int.toNat_natCast,Option.bind_some,c9,dd,Ed.b7,Ed.b8,Ed.b9,Ed.re,da,dN,dE,iw,V.bz,V.toInt_int,cond_true,cond_false,nC]
    rfl
   by_cases h2:aR d[j+1]! d[j]! <0
   ·rw[ag h2] at e⊢
    exact ⟨j',t,(cM e).trans ih⟩
   ·rw[ah h2] at e⊢
    exact ⟨_,_,bd e⟩
  ·rw[ah h1]
   exact ⟨((j+1:Nat):Int),false,bd (by
    simp (disch:=omega) only[AF,AE,un,aw,ah])⟩
theorem Qp {a b:Nat}: ∀(n i:Nat) (d:Array Ed),b-i=n→b≤d.size→d.size<1152921504606846976→
  ∃j' t,Loop (KG CC a b) ((i:Int),eA d)=some (j',t,eA (insOuter ai a b i d)):=by
 intro n
 induction n with
 | zero=>
  intro i d hn hb hs
  rw[insOuter,ah (by omega)]
  exact ⟨(i:Int),false,bd (by
   simp (disch:=omega) only[KG,FL,un,mc,cond_false])⟩
 | succ n ih=>
  intro i d hn hb hs
  obtain ⟨j1,t1,h1⟩:=EH (a:=a) (b:=b) (i:=i) i d (by omega) hs
  obtain ⟨j',t,h2⟩:=ih (i+1) (insInner ai a i d) (by omega) (by rw[Ey];omega) (by rw[Ey];omega)
  rw[insOuter,ag (by omega)]
  refine ⟨j',t,(cM ?_).trans h2⟩
  simp (disch:=omega) only[KG,FL,un,aw,ag,h1,Option.bind_some,bU,wrap64]
theorem EI {a b:Nat} {d:Array Ed} (hb:b≤d.size) (hs:d.size<1152921504606846976) (ha:a<1152921504606846976):
  CC zo [.int .i64 (a:Int),.int .i64 (b:Int),.list ak (eA d)]=some [.list ak (eA (insertionSort ai d a b))]:=by
 refine ams ?_
 unfold abw
 obtain ⟨j',t,h⟩:=Qp (a:=a) (b:=b) _ (a+1) d rfl hb hs
 simp (disch:=omega) only[bU,wrap64]
 rw[h]
 rfl
theorem Qq (hi first:Nat): ∀(n root:Nat) (d:Array Ed),hi-root≤n→root<1152921504606846976→first+hi≤d.size→d.size<1152921504606846976→
  (∃x y z,Loop (qq CC hi first) ((root:Int),eA d)=some (.inl (x,y,z,eA (siftDown ai hi first root d))))∨
  (∃x y z,Loop (qq CC hi first) ((root:Int),eA d)=some (.inr (x,y,z,eA (siftDown ai hi first root d)))):=by
 intro n
 induction n with
 | zero=>
  intro root d hn hr hb hs
  rw[xt,ag (by omega)]
  exact .inl ⟨(root:Int),((root*2+1:Nat):Int),true,bd (by
   simp (disch:=omega) only[qq,vm,un,rE,bU,wrap64];rw[ic (by omega)];rfl)⟩
 | succ n ih=>
  intro root d hn hr hb hs
  by_cases h1:2*root+1≥hi
  ·rw[xt,ag h1]
   exact .inl ⟨(root:Int),((root*2+1:Nat):Int),true,bd (by
    simp (disch:=omega) only[qq,vm,un,rE,bU,wrap64];rw[ic (by omega)];rfl)⟩
  ·have go: ∀c:Nat,c<hi→root<c→(qq CC hi first ((root:Int),eA d)=
      if aR d[first+root]! d[first+c]! <0 then some (.inl ((c:Int),eA (swp d (first+root) (first+c)))) else some (.inr (.inr ((root:Int),(c:Int),true,eA d))))→
     siftDown ai hi first root d=(if aR d[first+root]! d[first+c]! <0 then siftDown ai hi first c (swp d (first+root) (first+c)) else d)→
     ((∃x y z,Loop (qq CC hi first) ((root:Int),eA d)=some (.inl (x,y,z,eA (siftDown ai hi first root d))))∨
     (∃x y z,Loop (qq CC hi first) ((root:Int),eA d)=some (.inr (x,y,z,eA (siftDown ai hi first root d))))):=by
    intro c hc hrc e1 e2
    rw[e2]
    by_cases h3:aR d[first+root]! d[first+c]! <0
    ·rw[ag h3] at e1
     rw[ag h3,cM e1]
     exact ih c _ (by omega) (by omega) (by rw[size_swp];omega) (by rw[size_swp];omega)
    ·rw[ah h3] at e1
     rw[ah h3,bd e1]
     exact .inr ⟨_,_,_,rfl⟩
   have e0:=xt hi first root d
   rw[ah h1] at e0
   by_cases h2:2*root+2<hi
   ·rw[ag h2] at e0
    by_cases h3:aR d[first+(2*root+1)]! d[first+(2*root+2)]! <0
    ·rw[ag h3] at e0
     refine go (2*root+2) (by omega) (by omega) ?_ e0
     rw[gz 2 root] at h3
     simp (disch:=omega) only[qq,vm,un,rE,bU,db,wrap64]
     rw[aw,ah (by omega),aw,ag (by omega)]
     simp (disch:=omega) only[xS,aw,cE,dF,ag,ah,wrap64,bU,db,Int.toNat_natCast,Option.bind_some,c9,dd,Ed.b7,Ed.b8,Ed.b9,Ed.re,da,dN,dE,iw,V.bz,V.toInt_int,cond_true,cond_false,gz 2 root,ic]
     by_cases h4:aR d[first+root]! d[first+(root*2+2)]! <0
     ·simp only[h4,gy];rfl
     ·simp only[h4,iP];rfl
    ·rw[ah h3] at e0
     refine go (2*root+1) (by omega) (by omega) ?_ e0
     rw[gz 2 root] at h3
     simp (disch:=omega) only[qq,vm,un,rE,bU,db,wrap64]
     rw[aw,ah (by omega),aw,ag (by omega)]
     simp (disch:=omega) only[xS,aw,cE,dF,ag,ah,wrap64,bU,db,Int.toNat_natCast,Option.bind_some,c9,dd,Ed.b7,Ed.b8,Ed.b9,Ed.re,da,dN,dE,iw,V.bz,V.toInt_int,cond_true,cond_false,gz 2 root,mc]
     by_cases h4:aR d[first+root]! d[first+(root*2+1)]! <0
     ·simp only[h4,gy];rfl
     ·simp only[h4,iP];rfl
   ·rw[ah h2] at e0
    refine go (2*root+1) (by omega) (by omega) ?_ e0
    simp (disch:=omega) only[qq,vm,un,rE,bU,db,wrap64]
    rw[aw,ah (by omega),aw,ah (by omega)]
    simp (disch:=omega) only[xS,aw,cE,dF,ag,ah,wrap64,bU,db,Int.toNat_natCast,Option.bind_some,c9,dd,Ed.b7,Ed.b8,Ed.b9,Ed.re,da,dN,dE,iw,V.bz,V.toInt_int,cond_true,cond_false,gz 2 root]
    by_cases h4:aR d[first+root]! d[first+(root*2+1)]! <0
    ·simp only[h4,gy];rfl
    ·simp only[h4,iP];rfl
theorem EJ {lo hi first:Nat} {d:Array Ed} (hl:lo<1152921504606846976) (hb:first+hi≤d.size) (hs:d.size<1152921504606846976):
  CC zr [.int .i64 (lo:Int),.int .i64 (hi:Int),.int .i64 (first:Int),.list ak (eA d)]=some [.list ak (eA (siftDown ai hi first lo d))]:=by
 refine amv ?_
 unfold abz
 rcases Qq hi first _ lo d (aE _) hl hb hs with ⟨x,y,z,h⟩|⟨x,y,z,h⟩
 ·rw[h];rfl
 ·rw[h];rfl
theorem EK {hi first:Nat}: ∀(k:Nat) (d:Array Ed),k<1152921504606846976→first+hi≤d.size→d.size<1152921504606846976→
  ∃x y,Loop (KI CC first 0 hi) ((k:Int)-1,eA d)=some (x,y,eA (heapBuild ai hi first k d))
 | 0,d,hk,hb,hs=>⟨-1,false,bd (by
   simp (disch:=omega) only[KI,FM,un,aw,ah]
   rfl)⟩
 | k+1,d,hk,hb,hs=>by
  obtain ⟨x,y,ih⟩:=EK (hi:=hi) (first:=first) k (siftDown ai hi first k d) (by omega) (by rw[tE _ _ _ _ _ (aE _)];omega) (by rw[tE _ _ _ _ _ (aE _)];omega)
  refine ⟨x,y,(cM ?_).trans ih⟩
  simp (disch:=omega) only[KI,FM,un,aw,ag,nC,EJ,Option.bind_some,V.bz,V.la,wrap64]
theorem EL {first:Nat}: ∀(k:Nat) (d:Array Ed),k<1152921504606846976→first+k≤d.size→d.size<1152921504606846976→
  ∃x y,Loop (KJ CC first 0) ((k:Int)-1,eA d)=some (x,y,eA (heapPop ai first k d))
 | 0,d,hk,hb,hs=>⟨-1,false,bd (by
   simp (disch:=omega) only[KJ,FN,un,aw,ah]
   rfl)⟩
 | k+1,d,hk,hb,hs=>by
  obtain ⟨x,y,ih⟩:=EL (first:=first) k (siftDown ai k first 0 (swp d first (first+k))) (by omega) (by rw[tE _ _ _ _ _ (aE _),size_swp];omega) (by rw[tE _ _ _ _ _ (aE _),size_swp];omega)
  refine ⟨x,y,(cM ?_).trans ih⟩
  have jV:=EJ (lo:=0) (hi:=k) (first:=first) (d:=swp d first (first+k)) (by omega) (by rw[size_swp];omega) (by rw[size_swp];omega)
  unfold swp at jV⊢
  rw[show ((0:Nat):Int)=0 from rfl] at jV
  simp (disch:=omega) only[KJ,FN,un,nC,aw,cE,dF,ag,ah,wrap64,bU,db,Int.toNat_natCast,Option.bind_some,c9,dd,Ed.b7,Ed.b8,Ed.b9,Ed.re,da,dN,dE,iw,V.bz,V.toInt_int,cond_true,cond_false]
  rw[jV]
  simp (disch:=omega) only[Option.bind_some,V.bz,V.la,wrap64]
theorem Qr {a b:Nat} {d:Array Ed} (cY:a<b) (hb:b≤d.size) (hs:d.size<1152921504606846976):
  CC zp [.int .i64 (a:Int),.int .i64 (b:Int),.list ak (eA d)]=some [.list ak (eA (heapSort ai d a b))]:=by
 refine amy ?_
 unfold abC
 obtain ⟨x,y,h1⟩:=EK (hi:=b-a) (first:=a) ((b-a-1)/2+1) d (by omega) (by omega) hs
 obtain ⟨x2,y2,h2⟩:=EL (first:=a) (b-a) (heapBuild ai (b-a) a ((b-a-1)/2+1) d) (by omega) (by rw[Ez];omega) (by rw[Ez];omega)
 have e1:((((b-a-1)/2+1:Nat):Int)-1)=Int.tdiv (((b-a:Nat):Int)-1) 2:=by
  rw[Int.tdiv_eq_ediv_of_nonneg (by omega)]
  omega
 rw[e1] at h1
 simp (disch:=omega) only[gv,wrap64]
 rw[h1]
 simp only[Option.bind_some,un]
 rw[h2]
 rfl
theorem Qs: ∀(n i j:Nat) (d:Array Ed),j-i≤n→j<d.size→d.size<1152921504606846976→
  ∃x y z,Loop (FO CC) ((i:Int),(j:Int),eA d)=some (x,y,z,eA (reverseLoop i j d)):=by
 intro n
 induction n with
 | zero=>
  intro i j d hn hj hs
  rw[reverseLoop,ah (by omega)]
  exact ⟨(i:Int),(j:Int),false,bd (by
   simp (disch:=omega) only[FO,AH,un,mc,cond_false])⟩
 | succ n ih=>
  intro i j d hn hj hs
  rw[reverseLoop]
  by_cases h:i<j
  ·rw[ag h]
   obtain ⟨x,y,z,h2⟩:=ih (i+1) (j-1) (swp d i j) (by omega) (by rw[size_swp];omega) (by rw[size_swp];omega)
   refine ⟨x,y,z,(cM ?_).trans h2⟩
   simp (disch:=omega) only[FO,AH,un,aw,cE,dF,ag,ah,wrap64,bU,db,Int.toNat_natCast,Option.bind_some,c9,dd,Ed.b7,Ed.b8,Ed.b9,Ed.re,da,dN,dE,iw,V.bz,V.toInt_int,cond_true,cond_false,fl]
   rfl
  ·rw[ah h]
   exact ⟨(i:Int),(j:Int),false,bd (by
    simp (disch:=omega) only[FO,AH,un,mc,cond_false])⟩
theorem Qt {a b:Nat} {d:Array Ed} (cY:a<b) (hb:b≤d.size) (hs:d.size<1152921504606846976):
  CC CU [.int .i64 (a:Int),.int .i64 (b:Int),.list ak (eA d)]=some [.list ak (eA (reverseRange d a b))]:=by
 refine amB ?_
 unfold abF
 obtain ⟨x,y,z,h⟩:=Qs _ a (b-1) d (aE _) (by omega) hs
 simp (disch:=omega) only[fl,wrap64]
 rw[h]
 rfl
end Go.AM
set_option maxRecDepth 100000
namespace Go.AM
open Go.Proofs
noncomputable abbrev rN:Code:=cA Tryd.prog (au.aU 132)
noncomputable def FP (C:ae) (a j:Int) (ab:List V) (i:Int) {β:Type} (kn:Int→Option β) (kr:(Int × Bool)→Option β):Option β:=
 bif decide ((i:Int)≤j) then
  bif (decide (0≤i))&&(decide (i<(ab.length:Int))) then
  (ab[(i:Int).toNat]?).bind fun x5=>
  bif (decide (0≤a))&&(decide (a<(ab.length:Int))) then
   (ab[(a:Int).toNat]?).bind fun x6=>
   (C bC [.int .i64 ((x5.cell 0).toInt),.int .i64 ((x5.cell 1).toInt),.int .i64 ((x5.cell 2).toInt),.int .i64 ((x6.cell 0).toInt),.int .i64 ((x6.cell 1).toInt),.int .i64 ((x6.cell 2).toInt)]).bind fun r7=>
   bif decide ((((V.nth r7 0).toInt):Int)<0) then
   kn (IntKind.wrap .i64 (i+1))
   else
   kr (i,decide ((((V.nth r7 0).toInt):Int)<0))
  else none
  else none
 else
  kr (i,false)
noncomputable def FQ (C:ae) (a j:Int) (ab:List V):(Int)→Option ((Int) ⊕ (Int × Bool)):=fun i=>FP C a j ab i (fun y=>some (.inl y)) (fun r=>some (.inr r))
noncomputable def AI (C:ae) (a i:Int) (ab:List V) (j:Int) {β:Type} (kn:Int→Option β) (kr:(Int × Bool)→Option β):Option β:=
 bif decide ((i:Int)≤j) then
  bif (decide (0≤j))&&(decide (j<(ab.length:Int))) then
  (ab[(j:Int).toNat]?).bind fun fu=>
  bif (decide (0≤a))&&(decide (a<(ab.length:Int))) then
   (ab[(a:Int).toNat]?).bind fun eo=>
   (C bC [.int .i64 ((fu.cell 0).toInt),.int .i64 ((fu.cell 1).toInt),.int .i64 ((fu.cell 2).toInt),.int .i64 ((eo.cell 0).toInt),.int .i64 ((eo.cell 1).toInt),.int .i64 ((eo.cell 2).toInt)]).bind fun ep=>
   bif !(decide ((((V.nth ep 0).toInt):Int)<0)) then
   kn (IntKind.wrap .i64 (j-1))
   else
   kr (j,!(decide ((((V.nth ep 0).toInt):Int)<0)))
  else none
  else none
 else
  kr (j,false)
noncomputable def AJ (C:ae) (a i:Int) (ab:List V):(Int)→Option ((Int) ⊕ (Int × Bool)):=fun j=>AI C a i ab j (fun y=>some (.inl y)) (fun r=>some (.inr r))
noncomputable def FR (C:ae) (a j:Int) (ab:List V) (i:Int) {β:Type} (kn:Int→Option β) (kr:(Int × Bool)→Option β):Option β:=
 bif decide ((i:Int)≤j) then
  bif (decide (0≤i))&&(decide (i<(ab.length:Int))) then
  (ab[(i:Int).toNat]?).bind fun fZ=>
  bif (decide (0≤a))&&(decide (a<(ab.length:Int))) then
   (ab[(a:Int).toNat]?).bind fun mJ=>
   (C bC [.int .i64 ((fZ.cell 0).toInt),.int .i64 ((fZ.cell 1).toInt),.int .i64 ((fZ.cell 2).toInt),.int .i64 ((mJ.cell 0).toInt),.int .i64 ((mJ.cell 1).toInt),.int .i64 ((mJ.cell 2).toInt)]).bind fun EP=>
   bif decide ((((V.nth EP 0).toInt):Int)<0) then
   kn (IntKind.wrap .i64 (i+1))
   else
   kr (i,decide ((((V.nth EP 0).toInt):Int)<0))
  else none
  else none
 else
  kr (i,false)
noncomputable def FT (C:ae) (a j:Int) (ab:List V):(Int)→Option ((Int) ⊕ (Int × Bool)):=fun i=>FR C a j ab i (fun y=>some (.inl y)) (fun r=>some (.inr r))
noncomputable def AK (C:ae) (a i:Int) (ab:List V) (j:Int) {β:Type} (kn:Int→Option β) (kr:(Int × Bool)→Option β):Option β:=
 bif decide ((i:Int)≤j) then
  bif (decide (0≤j))&&(decide (j<(ab.length:Int))) then
  (ab[(j:Int).toNat]?).bind fun mK=>
  bif (decide (0≤a))&&(decide (a<(ab.length:Int))) then
   (ab[(a:Int).toNat]?).bind fun mL=>
   (C bC [.int .i64 ((mK.cell 0).toInt),.int .i64 ((mK.cell 1).toInt),.int .i64 ((mK.cell 2).toInt),.int .i64 ((mL.cell 0).toInt),.int .i64 ((mL.cell 1).toInt),.int .i64 ((mL.cell 2).toInt)]).bind fun tG=>
   bif !(decide ((((V.nth tG 0).toInt):Int)<0)) then
   kn (IntKind.wrap .i64 (j-1))
   else
   kr (j,!(decide ((((V.nth tG 0).toInt):Int)<0)))
  else none
  else none
 else
  kr (j,false)
noncomputable def AL (C:ae) (a i:Int) (ab:List V):(Int)→Option ((Int) ⊕ (Int × Bool)):=fun j=>AK C a i ab j (fun y=>some (.inl y)) (fun r=>some (.inr r))
noncomputable def FU (C:ae) (a i j:Int) (ab:List V) {β:Type} (kn:(Int × Int × (List V))→Option β) (kr:(Int × Int × Bool × (List V))→Option β):Option β:=
 (Loop (FT C a j ab) i).bind (un fun (fB:Int) (YR:Bool)=>
  (Loop (AL C a fB ab) j).bind (un fun (iC:Int) (akm:Bool)=>
   bif decide ((fB:Int)>iC) then
    kr (fB,iC,decide ((fB:Int)>iC),ab)
   else
    bif (decide (0≤iC))&&(decide (iC<(ab.length:Int))) then
    (ab[(iC:Int).toNat]?).bind fun kb=>
    bif (decide (0≤fB))&&(decide (fB<(ab.length:Int))) then
     (ab[(fB:Int).toNat]?).bind fun xu=>
     bif (decide (0≤fB))&&(decide (fB<(ab.length:Int))) then
     (ab[(fB:Int).toNat]?).bind fun x35=>
     bif (decide (0≤iC))&&(decide (iC<((ab.set ((fB:Int).toNat) (.agg [.int .i64 ((kb.cell 0).toInt),.int .i64 ((kb.cell 1).toInt),.int .i64 ((kb.cell 2).toInt)])).length:Int))) then
      ((ab.set ((fB:Int).toNat) (.agg [.int .i64 ((kb.cell 0).toInt),.int .i64 ((kb.cell 1).toInt),.int .i64 ((kb.cell 2).toInt)]))[(iC:Int).toNat]?).bind fun x36=>
      kn (IntKind.wrap .i64 (fB+1),IntKind.wrap .i64 (iC-1),(ab.set ((fB:Int).toNat) (.agg [.int .i64 ((kb.cell 0).toInt),.int .i64 ((kb.cell 1).toInt),.int .i64 ((kb.cell 2).toInt)])).set ((iC:Int).toNat) (.agg [.int .i64 ((xu.cell 0).toInt),.int .i64 ((xu.cell 1).toInt),.int .i64 ((xu.cell 2).toInt)]))
     else none
     else none
    else none
    else none))
noncomputable def AN (C:ae) (a:Int):(Int × Int × (List V))→Option ((Int × Int × (List V)) ⊕ (Int × Int × Bool × (List V))):=un fun i=>un fun j ab=>FU C a i j ab (fun y=>some (.inl y)) (fun r=>some (.inr r))
noncomputable def abG (C:ae):cl:=fun β n ds k=>
 bif Nat.beq n 49 then bt OS [false,true,false,false] [[1,0,3,0,4]] (@FP C) ds k else
 bif Nat.beq n 81 then bt OT [false,false,true,false] [[1,2,0,0,4]] (@AI C) ds k else
 bif Nat.beq n 209 then bt OU [false,true,false,false] [[1,0,3,0,4]] (@FR C) ds k else
 bif Nat.beq n 241 then bt OV [false,false,true,false] [[1,2,0,0,4]] (@AK C) ds k else
 bif Nat.beq n 210 then bt OW [false,true,true,true] [[1,0,0,0,0]] (@FU C) ds k else
 none
abbrev FV (C:ae) (b:ch):Prop:=cj Tryd.prog au C (abG C) 132 (cH Tryd.prog (au.aU 132)) (au.sin 132).aZ.length b
theorem amC (C:ae):FV C (.loop (aq [1,1,1,0,0,0] rN)):=
 bA OS [false,true,false,false] [[1,0,3,0,4]] (@FP C) (by kernel_rfl) (aK (bs:=[]) (by kernel_rfl) ar) (fun ds=>by kernel_rfl) (fun i x=>by kernel_rfl) (fun i x β k=>by kernel_rfl) (fun β ds k=>by kernel_rfl)
theorem amD (C:ae):FV C (.loop (aq [1,1,1,1,0,0,0] rN)):=
 bA OT [false,false,true,false] [[1,2,0,0,4]] (@AI C) (by kernel_rfl) (aK (bs:=[]) (by kernel_rfl) ar) (fun ds=>by kernel_rfl) (fun i x=>by kernel_rfl) (fun i x β k=>by kernel_rfl) (fun β ds k=>by kernel_rfl)
theorem amE (C:ae):FV C (.loop (aq [1,1,1,1,1,1,1,1,1,0,0,0,0,0,0,0] rN)):=
 bA OU [false,true,false,false] [[1,0,3,0,4]] (@FR C) (by kernel_rfl) (aK (bs:=[]) (by kernel_rfl) ar) (fun ds=>by kernel_rfl) (fun i x=>by kernel_rfl) (fun i x β k=>by kernel_rfl) (fun β ds k=>by kernel_rfl)
theorem amF (C:ae):FV C (.loop (aq [1,1,1,1,1,1,1,1,1,0,0,0,0,1,0,0,0] rN)):=
 bA OV [false,false,true,false] [[1,2,0,0,4]] (@AK C) (by kernel_rfl) (aK (bs:=[]) (by kernel_rfl) ar) (fun ds=>by kernel_rfl) (fun i x=>by kernel_rfl) (fun i x β k=>by kernel_rfl) (fun β ds k=>by kernel_rfl)
theorem amG (C:ae):FV C (.loop (aq [1,1,1,1,1,1,1,1,1,0,0,0] rN)):=
 bA OW [false,true,true,true] [[1,0,0,0,0]] (@FU C) (by kernel_rfl) (aK (bs:=[.loop (aq [1,1,1,1,1,1,1,1,1,0,0,0,0,0,0,0] rN),.loop (aq [1,1,1,1,1,1,1,1,1,0,0,0,0,1,0,0,0] rN)]) (by kernel_rfl) (aY (amE C) (aY (amF C) ar))) (fun ds=>by kernel_rfl) (fun i x=>by kernel_rfl) (fun i x β k=>by kernel_rfl) (fun β ds k=>by kernel_rfl)
noncomputable def abH (C:ae) (a b' pivot:Int) (ab:List V):Option (List V):=
 bif (decide (0≤pivot))&&(decide (pivot<(ab.length:Int))) then
  (ab[(pivot:Int).toNat]?).bind fun x1=>
  bif (decide (0≤a))&&(decide (a<(ab.length:Int))) then
  (ab[(a:Int).toNat]?).bind fun x2=>
  bif (decide (0≤a))&&(decide (a<(ab.length:Int))) then
   (ab[(a:Int).toNat]?).bind fun x3=>
   bif (decide (0≤pivot))&&(decide (pivot<((ab.set ((a:Int).toNat) (.agg [.int .i64 ((x1.cell 0).toInt),.int .i64 ((x1.cell 1).toInt),.int .i64 ((x1.cell 2).toInt)])).length:Int))) then
   ((ab.set ((a:Int).toNat) (.agg [.int .i64 ((x1.cell 0).toInt),.int .i64 ((x1.cell 1).toInt),.int .i64 ((x1.cell 2).toInt)]))[(pivot:Int).toNat]?).bind fun x4=>
   (Loop (FQ C a (IntKind.wrap .i64 (b'-1)) ((ab.set ((a:Int).toNat) (.agg [.int .i64 ((x1.cell 0).toInt),.int .i64 ((x1.cell 1).toInt),.int .i64 ((x1.cell 2).toInt)])).set ((pivot:Int).toNat) (.agg [.int .i64 ((x2.cell 0).toInt),.int .i64 ((x2.cell 1).toInt),.int .i64 ((x2.cell 2).toInt)]))) (IntKind.wrap .i64 (a+1))).bind (un fun (cF:Int) (pq:Bool)=>
    (Loop (AJ C a cF ((ab.set ((a:Int).toNat) (.agg [.int .i64 ((x1.cell 0).toInt),.int .i64 ((x1.cell 1).toInt),.int .i64 ((x1.cell 2).toInt)])).set ((pivot:Int).toNat) (.agg [.int .i64 ((x2.cell 0).toInt),.int .i64 ((x2.cell 1).toInt),.int .i64 ((x2.cell 2).toInt)]))) (IntKind.wrap .i64 (b'-1))).bind (un fun (ca:Int) (xf:Bool)=>
     bif decide ((cF:Int)>ca) then
      bif (decide (0≤a))&&(decide (a<(((ab.set ((a:Int).toNat) (.agg [.int .i64 ((x1.cell 0).toInt),.int .i64 ((x1.cell 1).toInt),.int .i64 ((x1.cell 2).toInt)])).set ((pivot:Int).toNat) (.agg [.int .i64 ((x2.cell 0).toInt),.int .i64 ((x2.cell 1).toInt),.int .i64 ((x2.cell 2).toInt)])).length:Int))) then
      (((ab.set ((a:Int).toNat) (.agg [.int .i64 ((x1.cell 0).toInt),.int .i64 ((x1.cell 1).toInt),.int .i64 ((x1.cell 2).toInt)])).set ((pivot:Int).toNat) (.agg [.int .i64 ((x2.cell 0).toInt),.int .i64 ((x2.cell 1).toInt),.int .i64 ((x2.cell 2).toInt)]))[(a:Int).toNat]?).bind fun cX=>
      bif (decide (0≤ca))&&(decide (ca<(((ab.set ((a:Int).toNat) (.agg [.int .i64 ((x1.cell 0).toInt),.int .i64 ((x1.cell 1).toInt),.int .i64 ((x1.cell 2).toInt)])).set ((pivot:Int).toNat) (.agg [.int .i64 ((x2.cell 0).toInt),.int .i64 ((x2.cell 1).toInt),.int .i64 ((x2.cell 2).toInt)])).length:Int))) then
       (((ab.set ((a:Int).toNat) (.agg [.int .i64 ((x1.cell 0).toInt),.int .i64 ((x1.cell 1).toInt),.int .i64 ((x1.cell 2).toInt)])).set ((pivot:Int).toNat) (.agg [.int .i64 ((x2.cell 0).toInt),.int .i64 ((x2.cell 1).toInt),.int .i64 ((x2.cell 2).toInt)]))[(ca:Int).toNat]?).bind fun dp=>
       bif (decide (0≤ca))&&(decide (ca<(((ab.set ((a:Int).toNat) (.agg [.int .i64 ((x1.cell 0).toInt),.int .i64 ((x1.cell 1).toInt),.int .i64 ((x1.cell 2).toInt)])).set ((pivot:Int).toNat) (.agg [.int .i64 ((x2.cell 0).toInt),.int .i64 ((x2.cell 1).toInt),.int .i64 ((x2.cell 2).toInt)])).length:Int))) then
       (((ab.set ((a:Int).toNat) (.agg [.int .i64 ((x1.cell 0).toInt),.int .i64 ((x1.cell 1).toInt),.int .i64 ((x1.cell 2).toInt)])).set ((pivot:Int).toNat) (.agg [.int .i64 ((x2.cell 0).toInt),.int .i64 ((x2.cell 1).toInt),.int .i64 ((x2.cell 2).toInt)]))[(ca:Int).toNat]?).bind fun mb=>
       bif (decide (0≤a))&&(decide (a<((((ab.set ((a:Int).toNat) (.agg [.int .i64 ((x1.cell 0).toInt),.int .i64 ((x1.cell 1).toInt),.int .i64 ((x1.cell 2).toInt)])).set ((pivot:Int).toNat) (.agg [.int .i64 ((x2.cell 0).toInt),.int .i64 ((x2.cell 1).toInt),.int .i64 ((x2.cell 2).toInt)])).set ((ca:Int).toNat) (.agg [.int .i64 ((cX.cell 0).toInt),.int .i64 ((cX.cell 1).toInt),.int .i64 ((cX.cell 2).toInt)])).length:Int))) then
        ((((ab.set ((a:Int).toNat) (.agg [.int .i64 ((x1.cell 0).toInt),.int .i64 ((x1.cell 1).toInt),.int .i64 ((x1.cell 2).toInt)])).set ((pivot:Int).toNat) (.agg [.int .i64 ((x2.cell 0).toInt),.int .i64 ((x2.cell 1).toInt),.int .i64 ((x2.cell 2).toInt)])).set ((ca:Int).toNat) (.agg [.int .i64 ((cX.cell 0).toInt),.int .i64 ((cX.cell 1).toInt),.int .i64 ((cX.cell 2).toInt)]))[(a:Int).toNat]?).bind fun z0=>
        some [.int .i64 ca,.bool true,.list ak ((((ab.set ((a:Int).toNat) (.agg [.int .i64 ((x1.cell 0).toInt),.int .i64 ((x1.cell 1).toInt),.int .i64 ((x1.cell 2).toInt)])).set ((pivot:Int).toNat) (.agg [.int .i64 ((x2.cell 0).toInt),.int .i64 ((x2.cell 1).toInt),.int .i64 ((x2.cell 2).toInt)])).set ((ca:Int).toNat) (.agg [.int .i64 ((cX.cell 0).toInt),.int .i64 ((cX.cell 1).toInt),.int .i64 ((cX.cell 2).toInt)])).set ((a:Int).toNat) (.agg [.int .i64 ((dp.cell 0).toInt),.int .i64 ((dp.cell 1).toInt),.int .i64 ((dp.cell 2).toInt)]))]
       else none
       else none
      else none
      else none
     else
      bif (decide (0≤ca))&&(decide (ca<(((ab.set ((a:Int).toNat) (.agg [.int .i64 ((x1.cell 0).toInt),.int .i64 ((x1.cell 1).toInt),.int .i64 ((x1.cell 2).toInt)])).set ((pivot:Int).toNat) (.agg [.int .i64 ((x2.cell 0).toInt),.int .i64 ((x2.cell 1).toInt),.int .i64 ((x2.cell 2).toInt)])).length:Int))) then
      (((ab.set ((a:Int).toNat) (.agg [.int .i64 ((x1.cell 0).toInt),.int .i64 ((x1.cell 1).toInt),.int .i64 ((x1.cell 2).toInt)])).set ((pivot:Int).toNat) (.agg [.int .i64 ((x2.cell 0).toInt),.int .i64 ((x2.cell 1).toInt),.int .i64 ((x2.cell 2).toInt)]))[(ca:Int).toNat]?).bind fun gK=>
      bif (decide (0≤cF))&&(decide (cF<(((ab.set ((a:Int).toNat) (.agg [.int .i64 ((x1.cell 0).toInt),.int .i64 ((x1.cell 1).toInt),.int .i64 ((x1.cell 2).toInt)])).set ((pivot:Int).toNat) (.agg [.int .i64 ((x2.cell 0).toInt),.int .i64 ((x2.cell 1).toInt),.int .i64 ((x2.cell 2).toInt)])).length:Int))) then
       (((ab.set ((a:Int).toNat) (.agg [.int .i64 ((x1.cell 0).toInt),.int .i64 ((x1.cell 1).toInt),.int .i64 ((x1.cell 2).toInt)])).set ((pivot:Int).toNat) (.agg [.int .i64 ((x2.cell 0).toInt),.int .i64 ((x2.cell 1).toInt),.int .i64 ((x2.cell 2).toInt)]))[(cF:Int).toNat]?).bind fun lh=>
       bif (decide (0≤cF))&&(decide (cF<(((ab.set ((a:Int).toNat) (.agg [.int .i64 ((x1.cell 0).toInt),.int .i64 ((x1.cell 1).toInt),.int .i64 ((x1.cell 2).toInt)])).set ((pivot:Int).toNat) (.agg [.int .i64 ((x2.cell 0).toInt),.int .i64 ((x2.cell 1).toInt),.int .i64 ((x2.cell 2).toInt)])).length:Int))) then
       (((ab.set ((a:Int).toNat) (.agg [.int .i64 ((x1.cell 0).toInt),.int .i64 ((x1.cell 1).toInt),.int .i64 ((x1.cell 2).toInt)])).set ((pivot:Int).toNat) (.agg [.int .i64 ((x2.cell 0).toInt),.int .i64 ((x2.cell 1).toInt),.int .i64 ((x2.cell 2).toInt)]))[(cF:Int).toNat]?).bind fun rD=>
       bif (decide (0≤ca))&&(decide (ca<((((ab.set ((a:Int).toNat) (.agg [.int .i64 ((x1.cell 0).toInt),.int .i64 ((x1.cell 1).toInt),.int .i64 ((x1.cell 2).toInt)])).set ((pivot:Int).toNat) (.agg [.int .i64 ((x2.cell 0).toInt),.int .i64 ((x2.cell 1).toInt),.int .i64 ((x2.cell 2).toInt)])).set ((cF:Int).toNat) (.agg [.int .i64 ((gK.cell 0).toInt),.int .i64 ((gK.cell 1).toInt),.int .i64 ((gK.cell 2).toInt)])).length:Int))) then
        ((((ab.set ((a:Int).toNat) (.agg [.int .i64 ((x1.cell 0).toInt),.int .i64 ((x1.cell 1).toInt),.int .i64 ((x1.cell 2).toInt)])).set ((pivot:Int).toNat) (.agg [.int .i64 ((x2.cell 0).toInt),.int .i64 ((x2.cell 1).toInt),.int .i64 ((x2.cell 2).toInt)])).set ((cF:Int).toNat) (.agg [.int .i64 ((gK.cell 0).toInt),.int .i64 ((gK.cell 1).toInt),.int .i64 ((gK.cell 2).toInt)]))[(ca:Int).toNat]?).bind fun Y8=>
        (Loop (AN C a) (IntKind.wrap .i64 (cF+1),IntKind.wrap .i64 (ca-1),(((ab.set ((a:Int).toNat) (.agg [.int .i64 ((x1.cell 0).toInt),.int .i64 ((x1.cell 1).toInt),.int .i64 ((x1.cell 2).toInt)])).set ((pivot:Int).toNat) (.agg [.int .i64 ((x2.cell 0).toInt),.int .i64 ((x2.cell 1).toInt),.int .i64 ((x2.cell 2).toInt)])).set ((cF:Int).toNat) (.agg [.int .i64 ((gK.cell 0).toInt),.int .i64 ((gK.cell 1).toInt),.int .i64 ((gK.cell 2).toInt)])).set ((ca:Int).toNat) (.agg [.int .i64 ((lh.cell 0).toInt),.int .i64 ((lh.cell 1).toInt),.int .i64 ((lh.cell 2).toInt)]))).bind (un fun (aks:Int)=>un fun (jf:Int)=>un fun (akt:Bool) (eQ:List V)=>
         bif (decide (0≤a))&&(decide (a<(eQ.length:Int))) then
         (eQ[(a:Int).toNat]?).bind fun gk=>
         bif (decide (0≤jf))&&(decide (jf<(eQ.length:Int))) then
          (eQ[(jf:Int).toNat]?).bind fun mM=>
          bif (decide (0≤jf))&&(decide (jf<(eQ.length:Int))) then
          (eQ[(jf:Int).toNat]?).bind fun x43=>
          bif (decide (0≤a))&&(decide (a<((eQ.set ((jf:Int).toNat) (.agg [.int .i64 ((gk.cell 0).toInt),.int .i64 ((gk.cell 1).toInt),.int .i64 ((gk.cell 2).toInt)])).length:Int))) then
           ((eQ.set ((jf:Int).toNat) (.agg [.int .i64 ((gk.cell 0).toInt),.int .i64 ((gk.cell 1).toInt),.int .i64 ((gk.cell 2).toInt)]))[(a:Int).toNat]?).bind fun x44=>
           some [.int .i64 jf,.bool false,.list ak ((eQ.set ((jf:Int).toNat) (.agg [.int .i64 ((gk.cell 0).toInt),.int .i64 ((gk.cell 1).toInt),.int .i64 ((gk.cell 2).toInt)])).set ((a:Int).toNat) (.agg [.int .i64 ((mM.cell 0).toInt),.int .i64 ((mM.cell 1).toInt),.int .i64 ((mM.cell 2).toInt)]))]
          else none
          else none
         else none
         else none)
       else none
       else none
      else none
      else none))
   else none
  else none
  else none
 else none
theorem amH {a b' pivot:Int} {ab:List V} {r:Option (List V)} (h:abH CC a b' pivot ab=r):CC oh [.int .i64 a,.int .i64 b',.int .i64 pivot,.list ak ab]=r:=
 bp (key:=132) (L:=abG CC) (bs:=[.loop (aq [1,1,1,0,0,0] rN),.loop (aq [1,1,1,1,0,0,0] rN),.loop (aq [1,1,1,1,1,1,1,1,1,0,0,0] rN)]) (by kernel_rfl) (aY (amC CC) (aY (amD CC) (aY (amG CC) ar))) (bn (by kernel_rfl) h)
noncomputable abbrev AO:Code:=cA Tryd.prog (au.aU 131)
noncomputable def FW (C:ae) (a j:Int) (ab:List V) (i:Int) {β:Type} (kn:Int→Option β) (kr:(Int × Bool)→Option β):Option β:=
 bif decide ((i:Int)≤j) then
  bif (decide (0≤a))&&(decide (a<(ab.length:Int))) then
  (ab[(a:Int).toNat]?).bind fun x5=>
  bif (decide (0≤i))&&(decide (i<(ab.length:Int))) then
   (ab[(i:Int).toNat]?).bind fun x6=>
   (C bC [.int .i64 ((x5.cell 0).toInt),.int .i64 ((x5.cell 1).toInt),.int .i64 ((x5.cell 2).toInt),.int .i64 ((x6.cell 0).toInt),.int .i64 ((x6.cell 1).toInt),.int .i64 ((x6.cell 2).toInt)]).bind fun r7=>
   bif !(decide ((((V.nth r7 0).toInt):Int)<0)) then
   kn (IntKind.wrap .i64 (i+1))
   else
   kr (i,!(decide ((((V.nth r7 0).toInt):Int)<0)))
  else none
  else none
 else
  kr (i,false)
noncomputable def FX (C:ae) (a j:Int) (ab:List V):(Int)→Option ((Int) ⊕ (Int × Bool)):=fun i=>FW C a j ab i (fun y=>some (.inl y)) (fun r=>some (.inr r))
noncomputable def AP (C:ae) (a i:Int) (ab:List V) (j:Int) {β:Type} (kn:Int→Option β) (kr:(Int × Bool)→Option β):Option β:=
 bif decide ((i:Int)≤j) then
  bif (decide (0≤a))&&(decide (a<(ab.length:Int))) then
  (ab[(a:Int).toNat]?).bind fun fu=>
  bif (decide (0≤j))&&(decide (j<(ab.length:Int))) then
   (ab[(j:Int).toNat]?).bind fun eo=>
   (C bC [.int .i64 ((fu.cell 0).toInt),.int .i64 ((fu.cell 1).toInt),.int .i64 ((fu.cell 2).toInt),.int .i64 ((eo.cell 0).toInt),.int .i64 ((eo.cell 1).toInt),.int .i64 ((eo.cell 2).toInt)]).bind fun ep=>
   bif decide ((((V.nth ep 0).toInt):Int)<0) then
   kn (IntKind.wrap .i64 (j-1))
   else
   kr (j,decide ((((V.nth ep 0).toInt):Int)<0))
  else none
  else none
 else
  kr (j,false)
noncomputable def AQ (C:ae) (a i:Int) (ab:List V):(Int)→Option ((Int) ⊕ (Int × Bool)):=fun j=>AP C a i ab j (fun y=>some (.inl y)) (fun r=>some (.inr r))
noncomputable def FY (C:ae) (a i j:Int) (ab:List V) {β:Type} (kn:(Int × Int × (List V))→Option β) (kr:(Int × Int × Bool × (List V))→Option β):Option β:=
 (Loop (FX C a j ab) i).bind (un fun (cF:Int) (pq:Bool)=>
  (Loop (AQ C a cF ab) j).bind (un fun (ca:Int) (xf:Bool)=>
   bif decide ((cF:Int)>ca) then
    kr (cF,ca,decide ((cF:Int)>ca),ab)
   else
    bif (decide (0≤ca))&&(decide (ca<(ab.length:Int))) then
    (ab[(ca:Int).toNat]?).bind fun cX=>
    bif (decide (0≤cF))&&(decide (cF<(ab.length:Int))) then
     (ab[(cF:Int).toNat]?).bind fun dp=>
     bif (decide (0≤cF))&&(decide (cF<(ab.length:Int))) then
     (ab[(cF:Int).toNat]?).bind fun mb=>
     bif (decide (0≤ca))&&(decide (ca<((ab.set ((cF:Int).toNat) (.agg [.int .i64 ((cX.cell 0).toInt),.int .i64 ((cX.cell 1).toInt),.int .i64 ((cX.cell 2).toInt)])).length:Int))) then
      ((ab.set ((cF:Int).toNat) (.agg [.int .i64 ((cX.cell 0).toInt),.int .i64 ((cX.cell 1).toInt),.int .i64 ((cX.cell 2).toInt)]))[(ca:Int).toNat]?).bind fun z0=>
      kn (IntKind.wrap .i64 (cF+1),IntKind.wrap .i64 (ca-1),(ab.set ((cF:Int).toNat) (.agg [.int .i64 ((cX.cell 0).toInt),.int .i64 ((cX.cell 1).toInt),.int .i64 ((cX.cell 2).toInt)])).set ((ca:Int).toNat) (.agg [.int .i64 ((dp.cell 0).toInt),.int .i64 ((dp.cell 1).toInt),.int .i64 ((dp.cell 2).toInt)]))
     else none
     else none
    else none
    else none))
noncomputable def AR (C:ae) (a:Int):(Int × Int × (List V))→Option ((Int × Int × (List V)) ⊕ (Int × Int × Bool × (List V))):=un fun i=>un fun j ab=>FY C a i j ab (fun y=>some (.inl y)) (fun r=>some (.inr r))
noncomputable def abI (C:ae):cl:=fun β n ds k=>
 bif Nat.beq n 49 then bt OP [false,true,false,false] [[1,0,3,0,4]] (@FW C) ds k else
 bif Nat.beq n 81 then bt OQ [false,false,true,false] [[1,2,0,0,4]] (@AP C) ds k else
 bif Nat.beq n 50 then bt OR [false,true,true,true] [[1,0,0,0,0]] (@FY C) ds k else
 none
abbrev Sg (C:ae) (b:ch):Prop:=cj Tryd.prog au C (abI C) 131 (cH Tryd.prog (au.aU 131)) (au.sin 131).aZ.length b
theorem amI (C:ae):Sg C (.loop (aq [1,1,1,0,0,0,0,0,0,0] AO)):=
 bA OP [false,true,false,false] [[1,0,3,0,4]] (@FW C) (by kernel_rfl) (aK (bs:=[]) (by kernel_rfl) ar) (fun ds=>by kernel_rfl) (fun i x=>by kernel_rfl) (fun i x β k=>by kernel_rfl) (fun β ds k=>by kernel_rfl)
theorem amJ (C:ae):Sg C (.loop (aq [1,1,1,0,0,0,0,1,0,0,0] AO)):=
 bA OQ [false,false,true,false] [[1,2,0,0,4]] (@AP C) (by kernel_rfl) (aK (bs:=[]) (by kernel_rfl) ar) (fun ds=>by kernel_rfl) (fun i x=>by kernel_rfl) (fun i x β k=>by kernel_rfl) (fun β ds k=>by kernel_rfl)
theorem amK (C:ae):Sg C (.loop (aq [1,1,1,0,0,0] AO)):=
 bA OR [false,true,true,true] [[1,0,0,0,0]] (@FY C) (by kernel_rfl) (aK (bs:=[.loop (aq [1,1,1,0,0,0,0,0,0,0] AO),.loop (aq [1,1,1,0,0,0,0,1,0,0,0] AO)]) (by kernel_rfl) (aY (amI C) (aY (amJ C) ar))) (fun ds=>by kernel_rfl) (fun i x=>by kernel_rfl) (fun i x β k=>by kernel_rfl) (fun β ds k=>by kernel_rfl)
noncomputable def abJ (C:ae) (a b' pivot:Int) (ab:List V):Option (List V):=
 bif (decide (0≤pivot))&&(decide (pivot<(ab.length:Int))) then
  (ab[(pivot:Int).toNat]?).bind fun x1=>
  bif (decide (0≤a))&&(decide (a<(ab.length:Int))) then
  (ab[(a:Int).toNat]?).bind fun x2=>
  bif (decide (0≤a))&&(decide (a<(ab.length:Int))) then
   (ab[(a:Int).toNat]?).bind fun x3=>
   bif (decide (0≤pivot))&&(decide (pivot<((ab.set ((a:Int).toNat) (.agg [.int .i64 ((x1.cell 0).toInt),.int .i64 ((x1.cell 1).toInt),.int .i64 ((x1.cell 2).toInt)])).length:Int))) then
   ((ab.set ((a:Int).toNat) (.agg [.int .i64 ((x1.cell 0).toInt),.int .i64 ((x1.cell 1).toInt),.int .i64 ((x1.cell 2).toInt)]))[(pivot:Int).toNat]?).bind fun x4=>
   (Loop (AR C a) (IntKind.wrap .i64 (a+1),IntKind.wrap .i64 (b'-1),(ab.set ((a:Int).toNat) (.agg [.int .i64 ((x1.cell 0).toInt),.int .i64 ((x1.cell 1).toInt),.int .i64 ((x1.cell 2).toInt)])).set ((pivot:Int).toNat) (.agg [.int .i64 ((x2.cell 0).toInt),.int .i64 ((x2.cell 1).toInt),.int .i64 ((x2.cell 2).toInt)]))).bind (un fun (Qv:Int)=>un fun (aky:Int)=>un fun (akz:Bool) (Qw:List V)=>
    some [.int .i64 Qv,.list ak Qw])
   else none
  else none
  else none
 else none
theorem amL {a b' pivot:Int} {ab:List V} {r:Option (List V)} (h:abJ CC a b' pivot ab=r):CC uW [.int .i64 a,.int .i64 b',.int .i64 pivot,.list ak ab]=r:=
 bp (key:=131) (L:=abI CC) (bs:=[.loop (aq [1,1,1,0,0,0] AO)]) (by kernel_rfl) (aY (amK CC) ar) (bn (by kernel_rfl) h)
noncomputable abbrev pD:Code:=cA Tryd.prog (au.aU 130)
noncomputable def FZ (C:ae) (a b' j:Int) (ab:List V) (i:Int) {β:Type} (kn:Int→Option β) (kr:(Int × Bool)→Option β):Option β:=
 bif decide ((i:Int)<b') then
  bif (decide (0≤i))&&(decide (i<(ab.length:Int))) then
  (ab[(i:Int).toNat]?).bind fun x1=>
  bif (decide (0≤(IntKind.wrap .i64 (i-1))))&&(decide ((IntKind.wrap .i64 (i-1))<(ab.length:Int))) then
   (ab[(IntKind.wrap .i64 (i-1):Int).toNat]?).bind fun x2=>
   (C bC [.int .i64 ((x1.cell 0).toInt),.int .i64 ((x1.cell 1).toInt),.int .i64 ((x1.cell 2).toInt),.int .i64 ((x2.cell 0).toInt),.int .i64 ((x2.cell 1).toInt),.int .i64 ((x2.cell 2).toInt)]).bind fun r3=>
   bif !(decide ((((V.nth r3 0).toInt):Int)<0)) then
   kn (IntKind.wrap .i64 (i+1))
   else
   kr (i,!(decide ((((V.nth r3 0).toInt):Int)<0)))
  else none
  else none
 else
  kr (i,false)
noncomputable def F0 (C:ae) (a b' j:Int) (ab:List V):(Int)→Option ((Int) ⊕ (Int × Bool)):=fun i=>FZ C a b' j ab i (fun y=>some (.inl y)) (fun r=>some (.inr r))
noncomputable def F3 (C:ae) (a b' i j j':Int) (ab:List V) {β:Type} (kn:(Int × (List V))→Option β) (kr:(Int × (List V))→Option β):Option β:=
 bif decide ((j':Int)≥1) then
  bif (decide (0≤j'))&&(decide (j'<(ab.length:Int))) then
  (ab[(j':Int).toNat]?).bind fun fu=>
  bif (decide (0≤(IntKind.wrap .i64 (j'-1))))&&(decide ((IntKind.wrap .i64 (j'-1))<(ab.length:Int))) then
   (ab[(IntKind.wrap .i64 (j'-1):Int).toNat]?).bind fun eo=>
   (C bC [.int .i64 ((fu.cell 0).toInt),.int .i64 ((fu.cell 1).toInt),.int .i64 ((fu.cell 2).toInt),.int .i64 ((eo.cell 0).toInt),.int .i64 ((eo.cell 1).toInt),.int .i64 ((eo.cell 2).toInt)]).bind fun ep=>
   bif !(decide ((((V.nth ep 0).toInt):Int)<0)) then
   kr (j',ab)
   else
   bif (decide (0≤(IntKind.wrap .i64 (j'-1))))&&(decide ((IntKind.wrap .i64 (j'-1))<(ab.length:Int))) then
    (ab[(IntKind.wrap .i64 (j'-1):Int).toNat]?).bind fun eP=>
    bif (decide (0≤j'))&&(decide (j'<(ab.length:Int))) then
    (ab[(j':Int).toNat]?).bind fun iB=>
    bif (decide (0≤j'))&&(decide (j'<(ab.length:Int))) then
     (ab[(j':Int).toNat]?).bind fun cX=>
     bif (decide (0≤(IntKind.wrap .i64 (j'-1))))&&(decide ((IntKind.wrap .i64 (j'-1))<((ab.set ((j':Int).toNat) (.agg [.int .i64 ((eP.cell 0).toInt),.int .i64 ((eP.cell 1).toInt),.int .i64 ((eP.cell 2).toInt)])).length:Int))) then
     ((ab.set ((j':Int).toNat) (.agg [.int .i64 ((eP.cell 0).toInt),.int .i64 ((eP.cell 1).toInt),.int .i64 ((eP.cell 2).toInt)]))[(IntKind.wrap .i64 (j'-1):Int).toNat]?).bind fun dp=>
     kn (IntKind.wrap .i64 (j'-1),(ab.set ((j':Int).toNat) (.agg [.int .i64 ((eP.cell 0).toInt),.int .i64 ((eP.cell 1).toInt),.int .i64 ((eP.cell 2).toInt)])).set ((IntKind.wrap .i64 (j'-1):Int).toNat) (.agg [.int .i64 ((iB.cell 0).toInt),.int .i64 ((iB.cell 1).toInt),.int .i64 ((iB.cell 2).toInt)]))
     else none
    else none
    else none
   else none
  else none
  else none
 else
  kr (j',ab)
noncomputable def F4 (C:ae) (a b' i j:Int):(Int × (List V))→Option ((Int × (List V)) ⊕ (Int × (List V))):=un fun j' ab=>F3 C a b' i j j' ab (fun y=>some (.inl y)) (fun r=>some (.inr r))
noncomputable def KK (C:ae) (a b' i j:Int) (t65:Bool) (ab:List V) {β:Type} (kr:(List V)→Option β):Option β:=
 bif t65 then
  (Loop (F4 C a b' i j) (IntKind.wrap .i64 (i-1),ab)).bind (un fun (akB:Int) (Qx:List V)=>
   kr Qx)
 else
  kr ab
noncomputable def F5 (C:ae) (a b' i j j':Int) (ab:List V) {β:Type} (kn:(Int × (List V))→Option β) (kr:(Int × (List V))→Option β):Option β:=
 bif decide ((j':Int)<b') then
  bif (decide (0≤j'))&&(decide (j'<(ab.length:Int))) then
  (ab[(j':Int).toNat]?).bind fun lh=>
  bif (decide (0≤(IntKind.wrap .i64 (j'-1))))&&(decide ((IntKind.wrap .i64 (j'-1))<(ab.length:Int))) then
   (ab[(IntKind.wrap .i64 (j'-1):Int).toNat]?).bind fun rD=>
   (C bC [.int .i64 ((lh.cell 0).toInt),.int .i64 ((lh.cell 1).toInt),.int .i64 ((lh.cell 2).toInt),.int .i64 ((rD.cell 0).toInt),.int .i64 ((rD.cell 1).toInt),.int .i64 ((rD.cell 2).toInt)]).bind fun fa=>
   bif !(decide ((((V.nth fa 0).toInt):Int)<0)) then
   kr (j',ab)
   else
   bif (decide (0≤(IntKind.wrap .i64 (j'-1))))&&(decide ((IntKind.wrap .i64 (j'-1))<(ab.length:Int))) then
    (ab[(IntKind.wrap .i64 (j'-1):Int).toNat]?).bind fun fZ=>
    bif (decide (0≤j'))&&(decide (j'<(ab.length:Int))) then
    (ab[(j':Int).toNat]?).bind fun mJ=>
    bif (decide (0≤j'))&&(decide (j'<(ab.length:Int))) then
     (ab[(j':Int).toNat]?).bind fun x25=>
     bif (decide (0≤(IntKind.wrap .i64 (j'-1))))&&(decide ((IntKind.wrap .i64 (j'-1))<((ab.set ((j':Int).toNat) (.agg [.int .i64 ((fZ.cell 0).toInt),.int .i64 ((fZ.cell 1).toInt),.int .i64 ((fZ.cell 2).toInt)])).length:Int))) then
     ((ab.set ((j':Int).toNat) (.agg [.int .i64 ((fZ.cell 0).toInt),.int .i64 ((fZ.cell 1).toInt),.int .i64 ((fZ.cell 2).toInt)]))[(IntKind.wrap .i64 (j'-1):Int).toNat]?).bind fun x26=>
     kn (IntKind.wrap .i64 (j'+1),(ab.set ((j':Int).toNat) (.agg [.int .i64 ((fZ.cell 0).toInt),.int .i64 ((fZ.cell 1).toInt),.int .i64 ((fZ.cell 2).toInt)])).set ((IntKind.wrap .i64 (j'-1):Int).toNat) (.agg [.int .i64 ((mJ.cell 0).toInt),.int .i64 ((mJ.cell 1).toInt),.int .i64 ((mJ.cell 2).toInt)]))
     else none
    else none
    else none
   else none
  else none
  else none
 else
  kr (j',ab)
noncomputable def F6 (C:ae) (a b' i j:Int):(Int × (List V))→Option ((Int × (List V)) ⊕ (Int × (List V))):=un fun j' ab=>F5 C a b' i j j' ab (fun y=>some (.inl y)) (fun r=>some (.inr r))
noncomputable def F7 (C:ae) (a b' i j:Int) (ab:List V) {β:Type} (kn:(Int × Int × (List V))→Option β) (kr:((Bool × (List V)) ⊕ (Int × Int × Bool × (List V)))→Option β):Option β:=
 bif decide ((j:Int)<5) then
  (Loop (F0 C a b' j ab) i).bind (un fun (cL:Int) (nn:Bool)=>
   bif (cL:Int)==b' then
   kr (.inl (true,ab))
   else
   bif decide (((IntKind.wrap .i64 (b'-a)):Int)<50) then
    kr (.inl (false,ab))
   else
    bif (decide (0≤(IntKind.wrap .i64 (cL-1))))&&(decide ((IntKind.wrap .i64 (cL-1))<(ab.length:Int))) then
    (ab[(IntKind.wrap .i64 (cL-1):Int).toNat]?).bind fun x6=>
    bif (decide (0≤cL))&&(decide (cL<(ab.length:Int))) then
     (ab[(cL:Int).toNat]?).bind fun x7=>
     bif (decide (0≤cL))&&(decide (cL<(ab.length:Int))) then
     (ab[(cL:Int).toNat]?).bind fun x8=>
     bif (decide (0≤(IntKind.wrap .i64 (cL-1))))&&(decide ((IntKind.wrap .i64 (cL-1))<((ab.set ((cL:Int).toNat) (.agg [.int .i64 ((x6.cell 0).toInt),.int .i64 ((x6.cell 1).toInt),.int .i64 ((x6.cell 2).toInt)])).length:Int))) then
      ((ab.set ((cL:Int).toNat) (.agg [.int .i64 ((x6.cell 0).toInt),.int .i64 ((x6.cell 1).toInt),.int .i64 ((x6.cell 2).toInt)]))[(IntKind.wrap .i64 (cL-1):Int).toNat]?).bind fun x9=>
      KK C a b' cL j (decide (((IntKind.wrap .i64 (cL-a)):Int)≥2)) ((ab.set ((cL:Int).toNat) (.agg [.int .i64 ((x6.cell 0).toInt),.int .i64 ((x6.cell 1).toInt),.int .i64 ((x6.cell 2).toInt)])).set ((IntKind.wrap .i64 (cL-1):Int).toNat) (.agg [.int .i64 ((x7.cell 0).toInt),.int .i64 ((x7.cell 1).toInt),.int .i64 ((x7.cell 2).toInt)])) (fun (E4:List V)=>
       bif decide (((IntKind.wrap .i64 (b'-cL)):Int)≥2) then
       (Loop (F6 C a b' cL j) (IntKind.wrap .i64 (cL+1),E4)).bind (un fun (akC:Int) (Qy:List V)=>
        kn (cL,IntKind.wrap .i64 (j+1),Qy))
       else
       kn (cL,IntKind.wrap .i64 (j+1),E4))
     else none
     else none
    else none
    else none)
 else
  kr (.inr (i,j,decide ((j:Int)<5),ab))
noncomputable def vn (C:ae) (a b':Int):(Int × Int × (List V))→Option ((Int × Int × (List V)) ⊕ ((Bool × (List V)) ⊕ (Int × Int × Bool × (List V)))):=un fun i=>un fun j ab=>F7 C a b' i j ab (fun y=>some (.inl y)) (fun r=>some (.inr r))
noncomputable def abK (C:ae):cl:=fun β n ds k=>
 bif Nat.beq n 81 then bt OK [false,false,true,false,false] [[1,2,0,4,0,5]] (@FZ C) ds k else
 bif Nat.beq n 225 then bt OL [false,false,false,false,true,true] [[1,2,3,4,0,0]] (@F3 C) ds k else
 bif Nat.beq n 1055 then jb OM [[1,2,3,4,0]] (@KK C) ds k else
 bif Nat.beq n 321 then bt ON [false,false,false,false,true,true] [[1,2,3,4,0,0]] (@F5 C) ds k else
 bif Nat.beq n 49 then bt OO [false,false,true,true,true] [[0,0],[1,2,0,0,0,0]] (@F7 C) ds k else
 none
abbrev F8 (C:ae) (b:ch):Prop:=cj Tryd.prog au C (abK C) 130 (cH Tryd.prog (au.aU 130)) (au.sin 130).aZ.length b
theorem amM (C:ae):F8 C (.loop (aq [1,1,0,1,0,0,1,0,0,0,0,0] pD)):=
 bA OK [false,false,true,false,false] [[1,2,0,4,0,5]] (@FZ C) (by kernel_rfl) (aK (bs:=[]) (by kernel_rfl) ar) (fun ds=>by kernel_rfl) (fun i x=>by kernel_rfl) (fun i x β k=>by kernel_rfl) (fun β ds k=>by kernel_rfl)
theorem amN (C:ae):F8 C (.loop (aq [1,1,0,1,0,0,1,0,0,1,1,1,1,0,1,0,1,0,0] pD)):=
 bA OL [false,false,false,false,true,true] [[1,2,3,4,0,0]] (@F3 C) (by kernel_rfl) (aK (bs:=[]) (by kernel_rfl) ar) (fun ds=>by kernel_rfl) (fun i x=>by kernel_rfl) (fun i x β k=>by kernel_rfl) (fun β ds k=>by kernel_rfl)
theorem amO (C:ae):F8 C (.cond 65 (aq [1,1,0,1,0,0,1,0,0,1,1,1,1,0,1,0] pD) (aq [1,1,0,1,0,0,1,0,0,1,1,1,1,0,1,1] pD)):=
 jy OM [[1,2,3,4,0]] (@KK C) (by kernel_rfl) (aK (bs:=[.loop (aq [1,1,0,1,0,0,1,0,0,1,1,1,1,0,1,0,1,0,0] pD)]) (by kernel_rfl) (aY (amN C) ar)) (aK (bs:=[]) (by kernel_rfl) ar) (fun ds=>by kernel_rfl) (fun i β k=>by kernel_rfl) (fun β ds k=>by kernel_rfl)
theorem amP (C:ae):F8 C (.loop (aq [1,1,0,1,0,0,1,0,0,1,1,1,1,1,1,0,1,0,0] pD)):=
 bA ON [false,false,false,false,true,true] [[1,2,3,4,0,0]] (@F5 C) (by kernel_rfl) (aK (bs:=[]) (by kernel_rfl) ar) (fun ds=>by kernel_rfl) (fun i x=>by kernel_rfl) (fun i x β k=>by kernel_rfl) (fun β ds k=>by kernel_rfl)
theorem amQ (C:ae):F8 C (.loop (aq [1,1,0,1,0,0] pD)):=
 bA OO [false,false,true,true,true] [[0,0],[1,2,0,0,0,0]] (@F7 C) (by kernel_rfl) (aK (bs:=[.loop (aq [1,1,0,1,0,0,1,0,0,0,0,0] pD),.cond 65 (aq [1,1,0,1,0,0,1,0,0,1,1,1,1,0,1,0] pD) (aq [1,1,0,1,0,0,1,0,0,1,1,1,1,0,1,1] pD),.loop (aq [1,1,0,1,0,0,1,0,0,1,1,1,1,1,1,0,1,0,0] pD)]) (by kernel_rfl) (aY (amM C) (aY (amO C) (aY (amP C) ar)))) (fun ds=>by kernel_rfl) (fun i x=>by kernel_rfl) (fun i x β k=>by kernel_rfl) (fun β ds k=>by kernel_rfl)
noncomputable def abL (C:ae) (a b':Int) (ab:List V):Option (List V):=
 (Loop (vn C a b') (IntKind.wrap .i64 (a+1),0,ab)).bind (dm (un fun (Qz:Bool) (QA:List V)=>
  some [.bool Qz,.list ak QA]) (un fun (akI:Int)=>un fun (akJ:Int)=>un fun (akK:Bool) (QB:List V)=>
  some [.bool false,.list ak QB]))
theorem amR {a b':Int} {ab:List V} {r:Option (List V)} (h:abL CC a b' ab=r):CC CV [.int .i64 a,.int .i64 b',.list ak ab]=r:=
 bp (key:=130) (L:=abK CC) (bs:=[.loop (aq [1,1,0,1,0,0] pD)]) (by kernel_rfl) (aY (amQ CC) ar) (bn (by kernel_rfl) h)
end Go.AM
set_option maxRecDepth 100000
set_option maxHeartbeats 4000000
namespace Go.AM
open Go.Proofs Go.Sort
theorem ox (p:Ed→Bool) (d:Array Ed) (j i:Nat):scanUp p d j i=if i≤j then (if p d[i]! =true then scanUp p d j (i+1) else i) else i:=by
 conv=>lhs;rw[scanUp]
 by_cases h:i≤j
 ·rw[ag h];simp only[h,pE,qs]
 ·rw[ah h,ah (by simp[h])]
theorem xw (p:Ed→Bool) (d:Array Ed) (i j:Nat):scanDown p d i (j+1)=if i≤j+1 then (if p d[j+1]! =true then scanDown p d i j else j+1) else j+1:=by
 conv=>lhs;rw[scanDown]
 by_cases h:i≤j+1
 ·rw[ag h];simp only[h,pE,qs]
 ·rw[ah h,ah (by simp[h])]
theorem tH (d:Array Ed) (b i:Nat):scanSorted ai d b i=if i<b then (if aR d[i]! d[i-1]! <0 then i else scanSorted ai d b (i+1)) else i:=by
 conv=>lhs;rw[scanSorted]
 by_cases h:i<b
 ·rw[ag h];simp only[h,pE,qs,ka]
  by_cases h2:aR d[i]! d[i-1]! <0
  ·rw[ah (jI h2),ag h2]
  ·rw[ag h2,ah h2]
 ·rw[ah h,ah (by simp[h])]
theorem E6 (j:Nat) (d:Array Ed):shiftDown ai (j+1) d=if aR d[j+1]! d[j]! <0 then shiftDown ai j (swp d (j+1) j) else d:=by
 conv=>lhs;rw[shiftDown]
 simp only[ka]
 by_cases h2:aR d[j+1]! d[j]! <0
 ·rw[ah (jI h2),ag h2]
 ·rw[ag h2,ah h2]
theorem tI (b j:Nat) (d:Array Ed):shiftUp ai b j d=if j<b then (if aR d[j]! d[j-1]! <0 then shiftUp ai b (j+1) (swp d j (j-1)) else d) else d:=by
 conv=>lhs;rw[shiftUp]
 simp only[ka]
 by_cases h:j<b
 ·rw[ag h,ag h]
  by_cases h2:aR d[j]! d[j-1]! <0
  ·rw[ah (jI h2),ag h2]
  ·rw[ag h2,ah h2]
 ·rw[ah h,ah h]
theorem QC {a:Nat}: ∀(n i j:Nat) (d:Array Ed),j+1-i≤n→(partLoop ai a i j d).2.size=d.size∧(partLoop ai a i j d).1≤j:=by
 intro n
 induction n with
 | zero=>
  intro i j d hn
  have h1:=scanUp_ge (fun x=>ai x d[a]!) d j i
  have h2:=scanDown_le (fun x=> !ai x d[a]!) d (scanUp (fun x=>ai x d[a]!) d j i) j
  rw[partLoop_eq,ag (by omega)]
  exact ⟨rfl,h2⟩
 | succ n ih=>
  intro i j d hn
  rw[partLoop_eq]
  have h1:=scanUp_ge (fun x=>ai x d[a]!) d j i
  have h2:=scanDown_le (fun x=> !ai x d[a]!) d (scanUp (fun x=>ai x d[a]!) d j i) j
  split
  ·exact ⟨rfl,h2⟩
  ·obtain ⟨h3,h4⟩:=ih (scanUp (fun x=>ai x d[a]!) d j i+1) (scanDown (fun x=> !ai x d[a]!) d (scanUp (fun x=>ai x d[a]!) d j i) j-1) (swp d (scanUp (fun x=>ai x d[a]!) d j i) (scanDown (fun x=> !ai x d[a]!) d (scanUp (fun x=>ai x d[a]!) d j i) j)) (by omega)
   exact ⟨by rw[h3,size_swp],by omega⟩
theorem fb {β:Type} {d:Array Ed} {i:Nat} {x y:Option β} (h:i<d.size):(bif (decide (0≤(i:Int)))&&(decide ((i:Int)<((eA d).length:Int))) then x else y)=x:=by
 rw[c9,cE,aw,ag (by omega),aw,ag (by omega)]
theorem tJ {β:Type} {d:Array Ed} {i k:Nat} {v:V} {x y:Option β} (h:i<d.size):(bif (decide (0≤(i:Int)))&&(decide ((i:Int)<(((eA d).set k v).length:Int))) then x else y)=x:=by
 rw[oN,c9,cE,aw,ag (by omega),aw,ag (by omega)]
theorem fc {β:Type} {d:Array Ed} {i:Nat} {f:V→Option β} (h:i<d.size):((eA d)[(i:Int).toNat]?).bind f=f (d[i]!).enc:=by
 rw[Int.toNat_natCast,dd h];rfl
theorem tK {β:Type} {d:Array Ed} {i k:Nat} {v:V} {x:Option β} (h:i<d.size):(((eA d).set k v)[(i:Int).toNat]?).bind (fun _=>x)=x:=by
 rw[Int.toNat_natCast,bM (by rw[oN,c9];exact h)];rfl
theorem kf {β:Type} {d:Array Ed} {i:Nat} {f:V→Option β} (h:i<d.size):((eA d)[i]?).bind f=f (d[i]!).enc:=by
 rw[dd h];rfl
theorem xx {β:Type} {d:Array Ed} {i k:Nat} {v:V} {x:Option β} (h:i<d.size):(((eA d).set k v)[i]?).bind (fun _=>x)=x:=by
 rw[bM (by rw[oN,c9];exact h)];rfl
theorem QD {a j:Nat} {d:Array Ed} (ha:a<d.size) (hj:j<d.size) (hs:d.size<1152921504606846976): ∀(n i:Nat),j+1-i=n→i≤d.size→
  ∃t,Loop (FQ CC a j (eA d)) (i:Int)=some (((scanUp (fun x=>ai x d[a]!) d j i:Nat):Int),t):=by
 intro n
 induction n with
 | zero=>
  intro i hn hi
  rw[ox,ah (by omega)]
  exact ⟨false,bd (by simp (disch:=omega) only[FQ,FP,aw,ah])⟩
 | succ n ih=>
  intro i hn hi
  obtain ⟨t,h⟩:=ih (i+1) (by omega) (by omega)
  rw[ox,ag (by omega)]
  have e:FQ CC a j (eA d) (i:Int)=if aR d[i]! d[a]! <0 then some (.inl ((i+1:Nat):Int)) else some (.inr ((i:Int),decide (aR d[i]! d[a]! <0))):=by
   simp (disch:=omega) only[FQ,FP,aw,cE,dF,ag,ah,wrap64,bU,db,Int.toNat_natCast,Option.bind_some,c9,dd,Ed.b7,Ed.b8,Ed.b9,Ed.re,da,dN,dE,iw,V.bz,V.toInt_int,cond_true,cond_false]
  simp only[ll]
  by_cases h2:aR d[i]! d[a]! <0
  ·rw[ag h2] at e
   rw[ag h2]
   exact ⟨t,(cM e).trans h⟩
  ·rw[ah h2] at e
   rw[ah h2]
   exact ⟨_,bd e⟩
theorem E7 {a j:Nat} {d:Array Ed} (ha:a<d.size) (hj:j<d.size) (hs:d.size<1152921504606846976): ∀(n i:Nat),j+1-i=n→i≤d.size→
  ∃t,Loop (FT CC a j (eA d)) (i:Int)=some (((scanUp (fun x=>ai x d[a]!) d j i:Nat):Int),t):=by
 intro n
 induction n with
 | zero=>
  intro i hn hi
  rw[ox,ah (by omega)]
  exact ⟨false,bd (by simp (disch:=omega) only[FT,FR,aw,ah])⟩
 | succ n ih=>
  intro i hn hi
  obtain ⟨t,h⟩:=ih (i+1) (by omega) (by omega)
  rw[ox,ag (by omega)]
  have e:FT CC a j (eA d) (i:Int)=if aR d[i]! d[a]! <0 then some (.inl ((i+1:Nat):Int)) else some (.inr ((i:Int),decide (aR d[i]! d[a]! <0))):=by
   simp (disch:=omega) only[FT,FR,aw,cE,dF,ag,ah,wrap64,bU,db,Int.toNat_natCast,Option.bind_some,c9,dd,Ed.b7,Ed.b8,Ed.b9,Ed.re,da,dN,dE,iw,V.bz,V.toInt_int,cond_true,cond_false]
  simp only[ll]
  by_cases h2:aR d[i]! d[a]! <0
  ·rw[ag h2] at e
   rw[ag h2]
   exact ⟨t,(cM e).trans h⟩
  ·rw[ah h2] at e
   rw[ah h2]
   exact ⟨_,bd e⟩
theorem E8 {a i:Nat} {d:Array Ed} (ha:a<d.size) (hi:1≤i) (hs:d.size<1152921504606846976): ∀(j:Nat),j<d.size→
  ∃t,Loop (AJ CC a i (eA d)) (j:Int)=some (((scanDown (fun x=> !ai x d[a]!) d i j:Nat):Int),t)
 | 0,hj=>⟨false,bd (by simp (disch:=omega) only[AJ,AI,aw,ah];rfl)⟩
 | j+1,hj=>by
  obtain ⟨t,h⟩:=E8 ha hi hs j (by omega)
  rw[xw]
  by_cases h1:i≤j+1
  ·rw[ag h1]
   have e:AJ CC a i (eA d) ((j+1:Nat):Int)=if aR d[j+1]! d[a]! <0 then some (.inr (((j+1:Nat):Int),!decide (aR d[j+1]! d[a]! <0))) else some (.inl (j:Int)):=by
    simp (disch:=omega) only[AJ,AI,aw,cE,dF,ag,ah,wrap64,bU,db,Int.toNat_natCast,Option.bind_some,c9,dd,Ed.b7,Ed.b8,Ed.b9,Ed.re,da,dN,dE,iw,V.bz,V.toInt_int,cond_true,cond_false,nC]
   simp only[ka]
   by_cases h2:aR d[j+1]! d[a]! <0
   ·rw[ag h2] at e
    rw[ah (jI h2)]
    exact ⟨_,bd e⟩
   ·rw[ah h2] at e
    rw[ag h2]
    exact ⟨t,(cM e).trans h⟩
  ·rw[ah h1]
   exact ⟨false,bd (by simp (disch:=omega) only[AJ,AI,aw,ah])⟩
theorem xy {a i:Nat} {d:Array Ed} (ha:a<d.size) (hi:1≤i) (hs:d.size<1152921504606846976): ∀(j:Nat),j<d.size→
  ∃t,Loop (AL CC a i (eA d)) (j:Int)=some (((scanDown (fun x=> !ai x d[a]!) d i j:Nat):Int),t)
 | 0,hj=>⟨false,bd (by simp (disch:=omega) only[AL,AK,aw,ah];rfl)⟩
 | j+1,hj=>by
  obtain ⟨t,h⟩:=xy ha hi hs j (by omega)
  rw[xw]
  by_cases h1:i≤j+1
  ·rw[ag h1]
   have e:AL CC a i (eA d) ((j+1:Nat):Int)=if aR d[j+1]! d[a]! <0 then some (.inr (((j+1:Nat):Int),!decide (aR d[j+1]! d[a]! <0))) else some (.inl (j:Int)):=by
    simp (disch:=omega) only[AL,AK,aw,cE,dF,ag,ah,wrap64,bU,db,Int.toNat_natCast,Option.bind_some,c9,dd,Ed.b7,Ed.b8,Ed.b9,Ed.re,da,dN,dE,iw,V.bz,V.toInt_int,cond_true,cond_false,nC]
   simp only[ka]
   by_cases h2:aR d[j+1]! d[a]! <0
   ·rw[ag h2] at e
    rw[ah (jI h2)]
    exact ⟨_,bd e⟩
   ·rw[ah h2] at e
    rw[ag h2]
    exact ⟨t,(cM e).trans h⟩
  ·rw[ah h1]
   exact ⟨false,bd (by simp (disch:=omega) only[AL,AK,aw,ah])⟩
theorem E9 {a j:Nat} {d:Array Ed} (ha:a<d.size) (hj:j<d.size) (hs:d.size<1152921504606846976): ∀(n i:Nat),j+1-i=n→i≤d.size→
  ∃t,Loop (FX CC a j (eA d)) (i:Int)=some (((scanUp (fun x=> !ai d[a]! x) d j i:Nat):Int),t):=by
 intro n
 induction n with
 | zero=>
  intro i hn hi
  rw[ox,ah (by omega)]
  exact ⟨false,bd (by simp (disch:=omega) only[FX,FW,aw,ah])⟩
 | succ n ih=>
  intro i hn hi
  obtain ⟨t,h⟩:=ih (i+1) (by omega) (by omega)
  rw[ox,ag (by omega)]
  have e:FX CC a j (eA d) (i:Int)=if aR d[a]! d[i]! <0 then some (.inr ((i:Int),!decide (aR d[a]! d[i]! <0))) else some (.inl ((i+1:Nat):Int)):=by
   simp (disch:=omega) only[FX,FW,aw,cE,dF,ag,ah,wrap64,bU,db,Int.toNat_natCast,Option.bind_some,c9,dd,Ed.b7,Ed.b8,Ed.b9,Ed.re,da,dN,dE,iw,V.bz,V.toInt_int,cond_true,cond_false]
  simp only[ka]
  by_cases h2:aR d[a]! d[i]! <0
  ·rw[ag h2] at e
   rw[ah (jI h2)]
   exact ⟨_,bd e⟩
  ·rw[ah h2] at e
   rw[ag h2]
   exact ⟨t,(cM e).trans h⟩
theorem xz {a i:Nat} {d:Array Ed} (ha:a<d.size) (hi:1≤i) (hs:d.size<1152921504606846976): ∀(j:Nat),j<d.size→
  ∃t,Loop (AQ CC a i (eA d)) (j:Int)=some (((scanDown (fun x=>ai d[a]! x) d i j:Nat):Int),t)
 | 0,hj=>⟨false,bd (by simp (disch:=omega) only[AQ,AP,aw,ah];rfl)⟩
 | j+1,hj=>by
  obtain ⟨t,h⟩:=xz ha hi hs j (by omega)
  rw[xw]
  by_cases h1:i≤j+1
  ·rw[ag h1]
   have e:AQ CC a i (eA d) ((j+1:Nat):Int)=if aR d[a]! d[j+1]! <0 then some (.inl (j:Int)) else some (.inr (((j+1:Nat):Int),decide (aR d[a]! d[j+1]! <0))):=by
    simp (disch:=omega) only[AQ,AP,aw,cE,dF,ag,ah,wrap64,bU,db,Int.toNat_natCast,Option.bind_some,c9,dd,Ed.b7,Ed.b8,Ed.b9,Ed.re,da,dN,dE,iw,V.bz,V.toInt_int,cond_true,cond_false,nC]
   simp only[ll]
   by_cases h2:aR d[a]! d[j+1]! <0
   ·rw[ag h2] at e
    rw[ag h2]
    exact ⟨t,(cM e).trans h⟩
   ·rw[ah h2] at e
    rw[ah h2]
    exact ⟨_,bd e⟩
  ·rw[ah h1]
   exact ⟨false,bd (by simp (disch:=omega) only[AQ,AP,aw,ah])⟩
theorem QE {a:Nat}: ∀(n i j:Nat) (d:Array Ed),j+1-i≤n→1≤i→i≤d.size→a<d.size→j<d.size→d.size<1152921504606846976→
  ∃x z,Loop (AN CC a) ((i:Int),(j:Int),eA d)=some (x,(((partLoop ai a i j d).1:Nat):Int),z,eA (partLoop ai a i j d).2):=by
 intro n
 induction n with
 | zero=>
  intro i j d hn h1 h2 ha hj hs
  obtain ⟨t3,e3⟩:=E7 (a:=a) ha hj hs _ i rfl h2
  have g1:=scanUp_ge (fun x=>ai x d[a]!) d j i
  have g2:=scanDown_le (fun x=> !ai x d[a]!) d (scanUp (fun x=>ai x d[a]!) d j i) j
  obtain ⟨t4,e4⟩:=xy (a:=a) (i:=scanUp (fun x=>ai x d[a]!) d j i) ha (by omega) hs j hj
  rw[partLoop_eq,ag (by omega)]
  refine ⟨((scanUp (fun x=>ai x d[a]!) d j i:Nat):Int),true,bd ?_⟩
  simp only[AN,FU,un]
  rw[e3]
  simp only[Option.bind_some,un]
  rw[e4]
  simp (disch:=omega) only[Option.bind_some,un,ic,cond_true]
 | succ n ih=>
  intro i j d hn h1 h2 ha hj hs
  obtain ⟨t3,e3⟩:=E7 (a:=a) ha hj hs _ i rfl h2
  have g1:=scanUp_ge (fun x=>ai x d[a]!) d j i
  have g2:=scanDown_le (fun x=> !ai x d[a]!) d (scanUp (fun x=>ai x d[a]!) d j i) j
  obtain ⟨t4,e4⟩:=xy (a:=a) (i:=scanUp (fun x=>ai x d[a]!) d j i) ha (by omega) hs j hj
  rw[partLoop_eq]
  have f:AN CC a ((i:Int),(j:Int),eA d)=AN CC a ((i:Int),(j:Int),eA d):=rfl
  conv at f=>rhs;simp only[AN,FU,un];rw[e3];simp only[Option.bind_some,un];rw[e4];simp only[Option.bind_some,un]
  generalize my:scanUp (fun x=>ai x d[a]!) d j i=i2 at*
  generalize cp:scanDown (fun x=> !ai x d[a]!) d i2 j=j2 at*
  by_cases h:i2>j2
  ·rw[ag h]
   refine ⟨(i2:Int),true,bd (f.trans ?_)⟩
   simp (disch:=omega) only[Option.bind_some,ic,cond_true]
  ·rw[ah h]
   obtain ⟨x,z,e⟩:=ih (i2+1) (j2-1) (swp d i2 j2) (by omega) (by omega) (by rw[size_swp];omega) (by rw[size_swp];omega) (by rw[size_swp];omega) (by rw[size_swp];omega)
   refine ⟨x,z,(cM (f.trans ?_)).trans e⟩
   simp (disch:=omega) only[aw,cE,dF,ag,ah,wrap64,bU,db,Int.toNat_natCast,Option.bind_some,c9,dd,Ed.b7,Ed.b8,Ed.b9,Ed.re,da,dN,dE,iw,V.bz,V.toInt_int,cond_true,cond_false,fl]
   rfl
theorem QF (d:Array Ed) (a b pivot:Nat):partition ai d a b pivot=
  if scanUp (fun x=>ai x (swp d a pivot)[a]!) (swp d a pivot) (b-1) (a+1)>scanDown (fun x=> !ai x (swp d a pivot)[a]!) (swp d a pivot) (scanUp (fun x=>ai x (swp d a pivot)[a]!) (swp d a pivot) (b-1) (a+1)) (b-1) then
   (scanDown (fun x=> !ai x (swp d a pivot)[a]!) (swp d a pivot) (scanUp (fun x=>ai x (swp d a pivot)[a]!) (swp d a pivot) (b-1) (a+1)) (b-1),true,swp (swp d a pivot) (scanDown (fun x=> !ai x (swp d a pivot)[a]!) (swp d a pivot) (scanUp (fun x=>ai x (swp d a pivot)[a]!) (swp d a pivot) (b-1) (a+1)) (b-1)) a)
  else
   ((partLoop ai a (scanUp (fun x=>ai x (swp d a pivot)[a]!) (swp d a pivot) (b-1) (a+1)+1) (scanDown (fun x=> !ai x (swp d a pivot)[a]!) (swp d a pivot) (scanUp (fun x=>ai x (swp d a pivot)[a]!) (swp d a pivot) (b-1) (a+1)) (b-1)-1) (swp (swp d a pivot) (scanUp (fun x=>ai x (swp d a pivot)[a]!) (swp d a pivot) (b-1) (a+1)) (scanDown (fun x=> !ai x (swp d a pivot)[a]!) (swp d a pivot) (scanUp (fun x=>ai x (swp d a pivot)[a]!) (swp d a pivot) (b-1) (a+1)) (b-1)))).1,false,
    swp (partLoop ai a (scanUp (fun x=>ai x (swp d a pivot)[a]!) (swp d a pivot) (b-1) (a+1)+1) (scanDown (fun x=> !ai x (swp d a pivot)[a]!) (swp d a pivot) (scanUp (fun x=>ai x (swp d a pivot)[a]!) (swp d a pivot) (b-1) (a+1)) (b-1)-1) (swp (swp d a pivot) (scanUp (fun x=>ai x (swp d a pivot)[a]!) (swp d a pivot) (b-1) (a+1)) (scanDown (fun x=> !ai x (swp d a pivot)[a]!) (swp d a pivot) (scanUp (fun x=>ai x (swp d a pivot)[a]!) (swp d a pivot) (b-1) (a+1)) (b-1)))).2
    (partLoop ai a (scanUp (fun x=>ai x (swp d a pivot)[a]!) (swp d a pivot) (b-1) (a+1)+1) (scanDown (fun x=> !ai x (swp d a pivot)[a]!) (swp d a pivot) (scanUp (fun x=>ai x (swp d a pivot)[a]!) (swp d a pivot) (b-1) (a+1)) (b-1)-1) (swp (swp d a pivot) (scanUp (fun x=>ai x (swp d a pivot)[a]!) (swp d a pivot) (b-1) (a+1)) (scanDown (fun x=> !ai x (swp d a pivot)[a]!) (swp d a pivot) (scanUp (fun x=>ai x (swp d a pivot)[a]!) (swp d a pivot) (b-1) (a+1)) (b-1)))).1 a):=rfl
theorem oy (d:Array Ed) (i j:Nat):eA ((d.setIfInBounds i d[j]!).setIfInBounds j d[i]!)=eA (swp d i j):=rfl
theorem QG {a b pivot:Nat} {d:Array Ed} (hp:pivot<b) (cY:a<b) (hb:b≤d.size) (hs:d.size<1152921504606846976):
  CC oh [.int .i64 (a:Int),.int .i64 (b:Int),.int .i64 (pivot:Int),.list ak (eA d)]=
   some [.int .i64 ((partition ai d a b pivot).1:Int),.bool (partition ai d a b pivot).2.1,.list ak (eA (partition ai d a b pivot).2.2)]:=by
 refine amH ?_
 unfold abH
 have z1:(swp d a pivot).size=d.size:=size_swp ..
 obtain ⟨t1,e1⟩:=QD (a:=a) (j:=b-1) (d:=swp d a pivot) (by omega) (by omega) (by omega) _ (a+1) rfl (by omega)
 have g1:=scanUp_ge (fun x=>ai x (swp d a pivot)[a]!) (swp d a pivot) (b-1) (a+1)
 have g2:=scanDown_le (fun x=> !ai x (swp d a pivot)[a]!) (swp d a pivot) (scanUp (fun x=>ai x (swp d a pivot)[a]!) (swp d a pivot) (b-1) (a+1)) (b-1)
 obtain ⟨t2,e2⟩:=E8 (a:=a) (i:=scanUp (fun x=>ai x (swp d a pivot)[a]!) (swp d a pivot) (b-1) (a+1)) (d:=swp d a pivot) (by omega) (by omega) (by omega) (b-1) (by omega)
 have e0:=QF d a b pivot
 rw[fb (i:=pivot) (by omega),fc (by omega),fb (i:=a) (by omega),fc (by omega),fb (i:=a) (by omega),fc (by omega),tJ (i:=pivot) (by omega),tK (by omega)]
 simp only[Ed.b7,Ed.b8,Ed.b9,Ed.re,Int.toNat_natCast,da,oy]
 simp (disch:=omega) only[fl,bU,wrap64]
 rw[e1]
 simp only[Option.bind_some,un]
 rw[e2]
 simp only[Option.bind_some,un]
 generalize my:scanUp (fun x=>ai x (swp d a pivot)[a]!) (swp d a pivot) (b-1) (a+1)=i2 at*
 generalize cp:scanDown (fun x=> !ai x (swp d a pivot)[a]!) (swp d a pivot) i2 (b-1)=j2 at*
 generalize swp d a pivot=d1 at*
 by_cases h:i2>j2
 ·rw[ag h] at e0
  rw[e0,aw,ag (by omega)]
  rw[fb (i:=a) (by omega)];(first|rw[fc (by omega)]|rw[kf (by omega)]);rw[fb (i:=j2) (by omega)];(first|rw[fc (by omega)]|rw[kf (by omega)]);rw[fb (i:=j2) (by omega)];(first|rw[fc (by omega)]|rw[kf (by omega)]);rw[tJ (i:=a) (by omega)];(first|rw[tK (by omega)]|rw[xx (by omega)])
  simp only[Ed.b7,Ed.b8,Ed.b9,Ed.re,Int.toNat_natCast,da,oy]
 ·rw[ah h] at e0
  rw[e0,aw,ah (by omega)]
  have z2:(swp d1 i2 j2).size=d1.size:=size_swp ..
  obtain ⟨x,z,e5⟩:=QE (a:=a) _ (i2+1) (j2-1) (swp d1 i2 j2) (aE _) (by omega) (by omega) (by omega) (by omega) (by omega)
  obtain ⟨q1,q2⟩:=QC (a:=a) _ (i2+1) (j2-1) (swp d1 i2 j2) (aE _)
  rw[fb (i:=j2) (by omega)];(first|rw[fc (by omega)]|rw[kf (by omega)]);rw[fb (i:=i2) (by omega)];(first|rw[fc (by omega)]|rw[kf (by omega)]);rw[fb (i:=i2) (by omega)];(first|rw[fc (by omega)]|rw[kf (by omega)]);rw[tJ (i:=j2) (by omega)];(first|rw[tK (by omega)]|rw[xx (by omega)])
  simp only[Ed.b7,Ed.b8,Ed.b9,Ed.re,Int.toNat_natCast,da,oy]
  simp (disch:=omega) only[fl,bU,wrap64]
  rw[e5]
  generalize partLoop ai a (i2+1) (j2-1) (swp d1 i2 j2)=r at*
  simp only[Option.bind_some,un]
  rw[fb (i:=a) (by omega)];(first|rw[fc (by omega)]|rw[kf (by omega)]);rw[fb (i:=r.1) (by omega)];(first|rw[fc (by omega)]|rw[kf (by omega)]);rw[fb (i:=r.1) (by omega)];(first|rw[fc (by omega)]|rw[kf (by omega)]);rw[tJ (i:=a) (by omega)];(first|rw[tK (by omega)]|rw[xx (by omega)])
  simp only[Ed.b7,Ed.b8,Ed.b9,Ed.re,Int.toNat_natCast,da,oy]
theorem QH {a:Nat}: ∀(n i j:Nat) (d:Array Ed),j+1-i≤n→1≤i→i≤d.size→a<d.size→j<d.size→d.size<1152921504606846976→
  ∃x z,Loop (AR CC a) ((i:Int),(j:Int),eA d)=some ((((partEqLoop ai a i j d).1:Nat):Int),x,z,eA (partEqLoop ai a i j d).2):=by
 intro n
 induction n with
 | zero=>
  intro i j d hn h1 h2 ha hj hs
  obtain ⟨t3,e3⟩:=E9 (a:=a) ha hj hs _ i rfl h2
  have g1:=scanUp_ge (fun x=> !ai d[a]! x) d j i
  have g2:=scanDown_le (fun x=>ai d[a]! x) d (scanUp (fun x=> !ai d[a]! x) d j i) j
  obtain ⟨t4,e4⟩:=xz (a:=a) (i:=scanUp (fun x=> !ai d[a]! x) d j i) ha (by omega) hs j hj
  rw[partEqLoop_eq,ag (by omega)]
  refine ⟨((scanDown (fun x=>ai d[a]! x) d (scanUp (fun x=> !ai d[a]! x) d j i) j:Nat):Int),true,bd ?_⟩
  simp only[AR,FY,un]
  rw[e3]
  simp only[Option.bind_some,un]
  rw[e4]
  simp (disch:=omega) only[Option.bind_some,un,ic,cond_true]
 | succ n ih=>
  intro i j d hn h1 h2 ha hj hs
  obtain ⟨t3,e3⟩:=E9 (a:=a) ha hj hs _ i rfl h2
  have g1:=scanUp_ge (fun x=> !ai d[a]! x) d j i
  have g2:=scanDown_le (fun x=>ai d[a]! x) d (scanUp (fun x=> !ai d[a]! x) d j i) j
  obtain ⟨t4,e4⟩:=xz (a:=a) (i:=scanUp (fun x=> !ai d[a]! x) d j i) ha (by omega) hs j hj
  rw[partEqLoop_eq]
  have f:AR CC a ((i:Int),(j:Int),eA d)=AR CC a ((i:Int),(j:Int),eA d):=rfl
  conv at f=>rhs;simp only[AR,FY,un];rw[e3];simp only[Option.bind_some,un];rw[e4];simp only[Option.bind_some,un]
  generalize my:scanUp (fun x=> !ai d[a]! x) d j i=i2 at*
  generalize cp:scanDown (fun x=>ai d[a]! x) d i2 j=j2 at*
  by_cases h:i2>j2
  ·rw[ag h]
   refine ⟨(j2:Int),true,bd (f.trans ?_)⟩
   simp (disch:=omega) only[Option.bind_some,ic,cond_true]
  ·rw[ah h]
   obtain ⟨x,z,e⟩:=ih (i2+1) (j2-1) (swp d i2 j2) (by omega) (by omega) (by rw[size_swp];omega) (by rw[size_swp];omega) (by rw[size_swp];omega) (by rw[size_swp];omega)
   refine ⟨x,z,(cM (f.trans ?_)).trans e⟩
   simp (disch:=omega) only[aw,cE,dF,ag,ah,wrap64,bU,db,Int.toNat_natCast,Option.bind_some,c9,dd,Ed.b7,Ed.b8,Ed.b9,Ed.re,da,dN,dE,iw,V.bz,V.toInt_int,cond_true,cond_false,fl]
   rfl
theorem QI {a b pivot:Nat} {d:Array Ed} (hp:pivot<b) (cY:a<b) (hb:b≤d.size) (hs:d.size<1152921504606846976):
  CC uW [.int .i64 (a:Int),.int .i64 (b:Int),.int .i64 (pivot:Int),.list ak (eA d)]=
   some [.int .i64 ((partitionEqual ai d a b pivot).1:Int),.list ak (eA (partitionEqual ai d a b pivot).2)]:=by
 refine amL ?_
 unfold abJ
 have z1:(swp d a pivot).size=d.size:=size_swp ..
 obtain ⟨x,z,e⟩:=QH (a:=a) _ (a+1) (b-1) (swp d a pivot) (aE _) (by omega) (by omega) (by omega) (by omega) (by omega)
 simp (disch:=omega) only[aw,cE,ag,c9,dd,Int.toNat_natCast,Option.bind_some,Ed.b7,Ed.b8,Ed.b9,Ed.re,da,dN,dE,fl,bU,wrap64,oy]
 rw[e]
 rfl
theorem QJ {a b j:Nat} {d:Array Ed} (hb:b≤d.size) (hs:d.size<1152921504606846976): ∀(n i:Nat),b-i=n→1≤i→i≤b→
  ∃t,Loop (F0 CC a b j (eA d)) (i:Int)=some (((scanSorted ai d b i:Nat):Int),t):=by
 intro n
 induction n with
 | zero=>
  intro i hn h1 hi
  rw[tH,ah (by omega)]
  exact ⟨false,bd (by simp (disch:=omega) only[F0,FZ,aw,ah])⟩
 | succ n ih=>
  intro i hn h1 hi
  obtain ⟨t,h⟩:=ih (i+1) (by omega) (by omega) (by omega)
  rw[tH,ag (by omega)]
  have e:F0 CC a b j (eA d) (i:Int)=if aR d[i]! d[i-1]! <0 then some (.inr ((i:Int),!decide (aR d[i]! d[i-1]! <0))) else some (.inl ((i+1:Nat):Int)):=by
   simp (disch:=omega) only[F0,FZ,fl,aw,cE,dF,ag,ah,wrap64,bU,db,Int.toNat_natCast,Option.bind_some,c9,dd,Ed.b7,Ed.b8,Ed.b9,Ed.re,da,dN,dE,iw,V.bz,V.toInt_int,cond_true,cond_false]
  by_cases h2:aR d[i]! d[i-1]! <0
  ·rw[ag h2] at e⊢
   exact ⟨_,bd e⟩
  ·rw[ah h2] at e⊢
   exact ⟨t,(cM e).trans h⟩
theorem Fa: ∀(j:Nat) (d:Array Ed),(shiftDown ai j d).size=d.size
 | 0,_=>rfl
 | j+1,d=>by
  rw[E6]
  split
  ·rw[Fa j,size_swp]
  ·rfl
theorem QK {b:Nat}: ∀(n j:Nat) (d:Array Ed),b-j=n→(shiftUp ai b j d).size=d.size:=by
 intro n
 induction n with
 | zero=>intro j d h;rw[tI,ah (by omega)]
 | succ n ih=>
  intro j d h
  rw[tI,ag (by omega)]
  split
  ·rw[ih _ _ (by omega),size_swp]
  ·rfl
theorem Fb {a b i k:Nat}: ∀(j:Nat) (d:Array Ed),j<d.size→d.size<1152921504606846976→
  ∃t,Loop (F4 CC a b i k) ((j:Int),eA d)=some (t,eA (shiftDown ai j d))
 | 0,d,hj,hs=>⟨(0:Nat),bd (by
   simp (disch:=omega) only[F4,F3,un,aw,ah]
   rfl)⟩
 | j+1,d,hj,hs=>by
  obtain ⟨t,ih⟩:=Fb (a:=a) (b:=b) (i:=i) (k:=k) j (swp d (j+1) j) (by rw[size_swp];omega) (by rw[size_swp];omega)
  rw[E6]
  have e:F4 CC a b i k (((j+1:Nat):Int),eA d)=if aR d[j+1]! d[j]! <0 then some (.inl ((j:Int),eA (swp d (j+1) j))) else some (.inr (((j+1:Nat):Int),eA d)):=by
   simp (disch:=omega) only[F4,F3,un,aw,cE,dF,ag,ah,wrap64,bU,db,Int.toNat_natCast,Option.bind_some,c9,dd,Ed.b7,Ed.b8,Ed.b9,Ed.re,da,dN,dE,iw,V.bz,V.toInt_int,cond_true,cond_false,nC]
   rfl
  by_cases h2:aR d[j+1]! d[j]! <0
  ·rw[ag h2] at e⊢
   exact ⟨t,(cM e).trans ih⟩
  ·rw[ah h2] at e⊢
   exact ⟨_,bd e⟩
theorem QL {a b i k:Nat}: ∀(n j:Nat) (d:Array Ed),b-j=n→1≤j→j≤b→b≤d.size→d.size<1152921504606846976→
  ∃t,Loop (F6 CC a b i k) ((j:Int),eA d)=some (t,eA (shiftUp ai b j d)):=by
 intro n
 induction n with
 | zero=>
  intro j d hn h1 hj hb hs
  rw[tI,ah (by omega)]
  exact ⟨(j:Int),bd (by
   simp (disch:=omega) only[F6,F5,un,aw,ah])⟩
 | succ n ih=>
  intro j d hn h1 hj hb hs
  obtain ⟨t,h⟩:=ih (j+1) (swp d j (j-1)) (by omega) (by omega) (by omega) (by rw[size_swp];omega) (by rw[size_swp];omega)
  rw[tI,ag (by omega)]
  have e:F6 CC a b i k ((j:Int),eA d)=if aR d[j]! d[j-1]! <0 then some (.inl (((j+1:Nat):Int),eA (swp d j (j-1)))) else some (.inr ((j:Int),eA d)):=by
   simp (disch:=omega) only[F6,F5,un,fl,aw,cE,dF,ag,ah,wrap64,bU,db,Int.toNat_natCast,Option.bind_some,c9,dd,Ed.b7,Ed.b8,Ed.b9,Ed.re,da,dN,dE,iw,V.bz,V.toInt_int,cond_true,cond_false]
   rfl
  by_cases h2:aR d[j]! d[j-1]! <0
  ·rw[ag h2] at e⊢
   exact ⟨t,(cM e).trans h⟩
  ·rw[ah h2] at e⊢
   exact ⟨_,bd e⟩
theorem QM {d:Array Ed} {b:Nat}: ∀(n i:Nat),b-i=n→i≤b→i≤scanSorted ai d b i∧scanSorted ai d b i≤b:=by
 intro n
 induction n with
 | zero=>intro i hn hi;rw[tH,ah (by omega)];omega
 | succ n ih=>
  intro i hn hi
  rw[tH,ag (by omega)]
  obtain ⟨h1,h2⟩:=ih (i+1) (by omega) (by omega)
  split<;>omega
theorem QN {a b:Nat}: ∀(s i:Nat) (d:Array Ed),s≤5→a<i→i≤b→b≤d.size→d.size<1152921504606846976→
  (Loop (vn CC a b) ((i:Int),((5-s:Nat):Int),eA d)=some (.inl ((partialIns ai a b s i d).2,eA (partialIns ai a b s i d).1)))∨
  (∃x y z,(partialIns ai a b s i d).2=false∧Loop (vn CC a b) ((i:Int),((5-s:Nat):Int),eA d)=some (.inr (x,y,z,eA (partialIns ai a b s i d).1))):=by
 intro s
 induction s with
 | zero=>
  intro i d QO hi xA hb hs
  refine .inr ⟨(i:Int),((5:Nat):Int),false,rfl,bd ?_⟩
  simp (disch:=omega) only[vn,F7,un,mc,cond_false]
  rfl
 | succ s ih=>
  intro i d QO hi xA hb hs
  obtain ⟨t1,e1⟩:=QJ (a:=a) (j:=5-(s+1)) hb hs _ i rfl (by omega) xA
  obtain ⟨q1,q2⟩:=QM (d:=d) _ i rfl xA
  rw[partialIns_succ]
  have f:vn CC a b ((i:Int),((5-(s+1):Nat):Int),eA d)=vn CC a b ((i:Int),((5-(s+1):Nat):Int),eA d):=rfl
  conv at f=>rhs;simp only[vn,F7,un];rw[aw,ag (by omega),e1];simp only[Option.bind_some,un]
  generalize scanSorted ai d b i=k at*
  by_cases h1:k=b
  ·rw[ag h1]
   left
   refine bd (f.trans ?_)
   rw[lV,ag (by omega)]
  ·rw[ah h1]
   by_cases h2:b-a<50
   ·rw[ag h2]
    left
    refine bd (f.trans ?_)
    rw[lV,ah (by omega),wrap64 (by omega) (by omega),aw,ag (by omega)]
   ·rw[ah h2]
    have z1:(swp d k (k-1)).size=d.size:=size_swp ..
    have z2:(fixDown ai a k (swp d k (k-1))).size=d.size:=by
     unfold fixDown
     split
     ·rw[Fa,z1]
     ·exact z1
    have z3:(fixUp ai b k (fixDown ai a k (swp d k (k-1)))).size=d.size:=by
     unfold fixUp
     split
     ·rw[QK _ _ _ rfl,z2]
     ·exact z2
    obtain ⟨t2,e2⟩:=Fb (a:=a) (b:=b) (i:=k) (k:=5-(s+1)) (k-1) (swp d k (k-1)) (by omega) (by omega)
    obtain ⟨t4,e4⟩:=QL (a:=a) (b:=b) (i:=k) (k:=5-(s+1)) _ (k+1) (fixDown ai a k (swp d k (k-1))) rfl (by omega) (by omega) (by omega) (by omega)
    have e5:vn CC a b ((i:Int),((5-(s+1):Nat):Int),eA d)=some (.inl ((k:Int),((5-s:Nat):Int),eA (fixUp ai b k (fixDown ai a k (swp d k (k-1)))))):=by
     refine f.trans ?_
     rw[lV,ah (by omega),wrap64 (by omega) (by omega),aw,ah (by omega)]
     simp (disch:=omega) only[aw,cE,ag,c9,dd,Int.toNat_natCast,Option.bind_some,Ed.b7,Ed.b8,Ed.b9,Ed.re,da,dN,dE,fl,bU,gv,wrap64,oy,KK]
     rw[show 5-(s+1)+1=5-s by omega]
     unfold fixDown at e4⊢
     unfold fixUp
     have c1:(((k-a:Nat):Int)≥2)=(k-a≥2):=propext (by omega)
     have c2:(((b-k:Nat):Int)≥2)=(b-k≥2):=propext (by omega)
     simp only[c1,c2]
     by_cases g1:k-a≥2
     ·by_cases g2:b-k≥2
      ·simp only[g1,g2,gy,e2,Option.bind_some,un] at e4⊢
       rw[e4]
       rfl
      ·simp only[g1,g2,gy,iP,e2,Option.bind_some,un]
     ·by_cases g2:b-k≥2
      ·simp only[g1,g2,gy,iP] at e4⊢
       rw[e4]
       rfl
      ·exact absurd (show b-k≥2 by omega) g2
    rw[cM e5]
    exact ih k _ (by omega) (by omega) (by omega) (by omega) (by omega)
theorem Fc {a b:Nat} {d:Array Ed} (cY:a<b) (hb:b≤d.size) (hs:d.size<1152921504606846976):
  CC CV [.int .i64 (a:Int),.int .i64 (b:Int),.list ak (eA d)]=
   some [.bool (partialInsertionSort ai d a b).2,.list ak (eA (partialInsertionSort ai d a b).1)]:=by
 refine amR ?_
 unfold abL
 simp (disch:=omega) only[bU,wrap64]
 rcases QN (a:=a) (b:=b) 5 (a+1) d (aE _) (by omega) (by omega) hb hs with h|⟨x,y,z,h0,h⟩
 ·rw[show ((5-5:Nat):Int)=0 from rfl] at h
  rw[h]
  rfl
 ·rw[show ((5-5:Nat):Int)=0 from rfl] at h
  rw[h]
  unfold partialInsertionSort
  rw[h0]
  rfl
end Go.AM
set_option maxRecDepth 100000
namespace Go.AM
open Go.Proofs
noncomputable abbrev vo:Code:=cA Tryd.prog (au.aU 128)
noncomputable def F9 (C:ae) (data:List V) (i j k':Int) (t36:Bool) (dB:Int) {β:Type} (kr:(Int × Int × Int × Int)→Option β):Option β:=
 bif t36 then
  (C w4 [.list ak data,.int .i64 i,.int .i64 dB]).bind fun r1=>
  (C w4 [.list ak data,.int .i64 j,.int .i64 ((V.nth (r1.drop 1) 0).toInt)]).bind fun r2=>
  (C w4 [.list ak data,.int .i64 k',.int .i64 ((V.nth (r2.drop 1) 0).toInt)]).bind fun r3=>
  kr ((V.nth r1 0).toInt,(V.nth r2 0).toInt,(V.nth r3 0).toInt,(V.nth (r3.drop 1) 0).toInt)
 else
  kr (i,j,k',dB)
noncomputable def Ga (C:ae) (data:List V) (l i j k':Int) (t34:Bool) (dB:Int) {β:Type} (kr:(Int × Int)→Option β):Option β:=
 bif t34 then
  F9 C data i j k' (decide ((l:Int)≥50)) dB (un fun (cL:Int)=>un fun (QP:Int)=>un fun (QQ:Int) (QR:Int)=>
   (C zw [.list ak data,.int .i64 cL,.int .i64 QP,.int .i64 QQ,.int .i64 QR]).bind fun r8=>
   kr ((V.nth r8 0).toInt,(V.nth (r8.drop 1) 0).toInt))
 else
  kr (j,dB)
noncomputable def abM (C:ae):cl:=fun β n ds k=>
 bif Nat.beq n 591 then jb OH [[1,0,0,0,0]] (@F9 C) ds k else
 bif Nat.beq n 559 then jb OI [[0,0]] (@Ga C) ds k else
 none
abbrev abN (C:ae) (b:ch):Prop:=cj Tryd.prog au C (abM C) 128 (cH Tryd.prog (au.aU 128)) (au.sin 128).aZ.length b
theorem amS (C:ae):abN C (.cond 36 (aq [1,1,1,1,1,1,0,1,0,0,1,0] vo) (aq [1,1,1,1,1,1,0,1,0,0,1,1] vo)):=
 jy OH [[1,0,0,0,0]] (@F9 C) (by kernel_rfl) (aK (bs:=[]) (by kernel_rfl) ar) (aK (bs:=[]) (by kernel_rfl) ar) (fun ds=>by kernel_rfl) (fun i β k=>by kernel_rfl) (fun β ds k=>by kernel_rfl)
theorem amT (C:ae):abN C (.cond 34 (aq [1,1,1,1,1,1,0,1,0] vo) (aq [1,1,1,1,1,1,0,1,1] vo)):=
 jy OI [[0,0]] (@Ga C) (by kernel_rfl) (aK (bs:=[.cond 36 (aq [1,1,1,1,1,1,0,1,0,0,1,0] vo) (aq [1,1,1,1,1,1,0,1,0,0,1,1] vo)]) (by kernel_rfl) (aY (amS C) ar)) (aK (bs:=[]) (by kernel_rfl) ar) (fun ds=>by kernel_rfl) (fun i β k=>by kernel_rfl) (fun β ds k=>by kernel_rfl)
noncomputable def Sh (C:ae) (data:List V) (a b':Int):Option (List V):=
 Ga C data (IntKind.wrap .i64 (b'-a)) (IntKind.wrap .i64 (a+(IntKind.wrap .i64 (1*(IntKind.wrap .i64 (Int.tdiv (IntKind.wrap .i64 (b'-a)) 4)))))) (IntKind.wrap .i64 (a+(IntKind.wrap .i64 (2*(IntKind.wrap .i64 (Int.tdiv (IntKind.wrap .i64 (b'-a)) 4)))))) (IntKind.wrap .i64 (a+(IntKind.wrap .i64 (3*(IntKind.wrap .i64 (Int.tdiv (IntKind.wrap .i64 (b'-a)) 4)))))) (decide (((IntKind.wrap .i64 (b'-a)):Int)≥8)) 0 (un fun (xB:Int) (Fg:Int)=>
  bif (Fg:Int)==0 then
   some [.int .i64 xB,.int .i64 1]
  else
   bif (Fg:Int)==12 then
   some [.int .i64 xB,.int .i64 2]
   else
   some [.int .i64 xB,.int .i64 0])
theorem abO {data:List V} {a b':Int} {r:Option (List V)} (h:Sh CC data a b'=r):CC zq [.list ak data,.int .i64 a,.int .i64 b']=r:=
 bp (key:=128) (L:=abM CC) (bs:=[.cond 34 (aq [1,1,1,1,1,1,0,1,0] vo) (aq [1,1,1,1,1,1,0,1,1] vo)]) (by kernel_rfl) (aY (amT CC) ar) (bn (by kernel_rfl) h)
noncomputable def abP (C:ae) (data:List V) (a b' c dB:Int):Option (List V):=
 (C w5 [.list ak data,.int .i64 a,.int .i64 b',.int .i64 dB]).bind fun r1=>
 (C w5 [.list ak data,.int .i64 ((V.nth (r1.drop 1) 0).toInt),.int .i64 c,.int .i64 ((V.nth (r1.drop 2) 0).toInt)]).bind fun r2=>
 (C w5 [.list ak data,.int .i64 ((V.nth r1 0).toInt),.int .i64 ((V.nth r2 0).toInt),.int .i64 ((V.nth (r2.drop 2) 0).toInt)]).bind fun r3=>
 some [.int .i64 ((V.nth (r3.drop 1) 0).toInt),.int .i64 ((V.nth (r3.drop 2) 0).toInt)]
theorem amU {data:List V} {a b' c dB:Int} {r:Option (List V)} (h:abP CC data a b' c dB=r):CC zw [.list ak data,.int .i64 a,.int .i64 b',.int .i64 c,.int .i64 dB]=r:=
 bp (key:=145) (L:=di) (bs:=[]) (by kernel_rfl) ar (bn (by kernel_rfl) h)
noncomputable def Si (C:ae) (data:List V) (a b' dB:Int):Option (List V):=
 (idx data b').bind fun x1=>
 (idx data a).bind fun x2=>
 (C bC [.int .i64 ((x1.cell 0).toInt),.int .i64 ((x1.cell 1).toInt),.int .i64 ((x1.cell 2).toInt),.int .i64 ((x2.cell 0).toInt),.int .i64 ((x2.cell 1).toInt),.int .i64 ((x2.cell 2).toInt)]).bind fun r3=>
 bif decide ((((V.nth r3 0).toInt):Int)<0) then
  some [.int .i64 b',.int .i64 a,.int .i64 (IntKind.wrap .i64 (dB+1))]
 else
  some [.int .i64 a,.int .i64 b',.int .i64 dB]
theorem abQ {data:List V} {a b' dB:Int} {r:Option (List V)} (h:Si CC data a b' dB=r):CC w5 [.list ak data,.int .i64 a,.int .i64 b',.int .i64 dB]=r:=
 bp (key:=146) (L:=di) (bs:=[]) (by kernel_rfl) ar (bn (by kernel_rfl) h)
noncomputable def abR (C:ae) (data:List V) (a dB:Int):Option (List V):=
 (C zw [.list ak data,.int .i64 (IntKind.wrap .i64 (a-1)),.int .i64 a,.int .i64 (IntKind.wrap .i64 (a+1)),.int .i64 dB]).bind fun r1=>
 some [.int .i64 ((V.nth r1 0).toInt),.int .i64 ((V.nth (r1.drop 1) 0).toInt)]
theorem amV {data:List V} {a dB:Int} {r:Option (List V)} (h:abR CC data a dB=r):CC w4 [.list ak data,.int .i64 a,.int .i64 dB]=r:=
 bp (key:=144) (L:=di) (bs:=[]) (by kernel_rfl) ar (bn (by kernel_rfl) h)
noncomputable abbrev AS:Code:=cA Tryd.prog (au.aU 127)
noncomputable def KL (C:ae) (a length oz eR other:Int) (t45:Bool) (ab:List V) (qk:Int) {β:Type} (kr:(Int)→Option β):Option β:=
 bif t45 then
  kr (IntKind.wrap .i64 (other-length))
 else
  kr other
noncomputable def Gb (C:ae) (a length oz eR:Int) (ab:List V) (qk:Int) {β:Type} (kn:(Int × (List V) × Int)→Option β) (kr:(Int × Bool × (List V) × Int)→Option β):Option β:=
 bif decide ((eR:Int)≤(IntKind.wrap .i64 ((IntKind.wrap .i64 (a+(IntKind.wrap .i64 (2*(IntKind.wrap .i64 (Int.tdiv length 4))))))+1))) then
  (C zu [.int .u64 qk]).bind fun r2=>
  KL C a length oz eR (IntKind.wrap .i64 (IntKind.wrap .u64 ((BitVec.ofInt (IntKind.bits .u64) ((V.nth r2 0).toInt)&&&BitVec.ofInt (IntKind.bits .u64) (IntKind.wrap .u64 (oz-1))).toNat))) (decide (((IntKind.wrap .i64 (IntKind.wrap .u64 ((BitVec.ofInt (IntKind.bits .u64) ((V.nth r2 0).toInt)&&&BitVec.ofInt (IntKind.bits .u64) (IntKind.wrap .u64 (oz-1))).toNat))):Int)≥length)) ab ((V.nth (r2.drop 1) 0).toInt) (fun (mN:Int)=>
   bif (decide (0≤(IntKind.wrap .i64 (a+mN))))&&(decide ((IntKind.wrap .i64 (a+mN))<(ab.length:Int))) then
   (ab[(IntKind.wrap .i64 (a+mN):Int).toNat]?).bind fun x4=>
   bif (decide (0≤eR))&&(decide (eR<(ab.length:Int))) then
    (ab[(eR:Int).toNat]?).bind fun x5=>
    bif (decide (0≤eR))&&(decide (eR<(ab.length:Int))) then
    (ab[(eR:Int).toNat]?).bind fun x6=>
    bif (decide (0≤(IntKind.wrap .i64 (a+mN))))&&(decide ((IntKind.wrap .i64 (a+mN))<((ab.set ((eR:Int).toNat) (.agg [.int .i64 ((x4.cell 0).toInt),.int .i64 ((x4.cell 1).toInt),.int .i64 ((x4.cell 2).toInt)])).length:Int))) then
     ((ab.set ((eR:Int).toNat) (.agg [.int .i64 ((x4.cell 0).toInt),.int .i64 ((x4.cell 1).toInt),.int .i64 ((x4.cell 2).toInt)]))[(IntKind.wrap .i64 (a+mN):Int).toNat]?).bind fun x7=>
     kn (IntKind.wrap .i64 (eR+1),(ab.set ((eR:Int).toNat) (.agg [.int .i64 ((x4.cell 0).toInt),.int .i64 ((x4.cell 1).toInt),.int .i64 ((x4.cell 2).toInt)])).set ((IntKind.wrap .i64 (a+mN):Int).toNat) (.agg [.int .i64 ((x5.cell 0).toInt),.int .i64 ((x5.cell 1).toInt),.int .i64 ((x5.cell 2).toInt)]),(V.nth (r2.drop 1) 0).toInt)
    else none
    else none
   else none
   else none)
 else
  kr (eR,decide ((eR:Int)≤(IntKind.wrap .i64 ((IntKind.wrap .i64 (a+(IntKind.wrap .i64 (2*(IntKind.wrap .i64 (Int.tdiv length 4))))))+1))),ab,qk)
noncomputable def KM (C:ae) (a length oz:Int):(Int × (List V) × Int)→Option ((Int × (List V) × Int) ⊕ (Int × Bool × (List V) × Int)):=un fun eR=>un fun ab qk=>Gb C a length oz eR ab qk (fun y=>some (.inl y)) (fun r=>some (.inr r))
noncomputable def abS (C:ae):cl:=fun β n ds k=>
 bif Nat.beq n 735 then jb OF [[1,2,3,4,0,7,8]] (@KL C) ds k else
 bif Nat.beq n 81 then bt OG [false,false,false,true,true,true] [[1,2,3,0,0,0,0]] (@Gb C) ds k else
 none
abbrev abT (C:ae) (b:ch):Prop:=cj Tryd.prog au C (abS C) 127 (cH Tryd.prog (au.aU 127)) (au.sin 127).aZ.length b
theorem amW (C:ae):abT C (.cond 45 (aq [1,1,0,1,1,1,0,0,1,0,0,1,0,1,0] AS) (aq [1,1,0,1,1,1,0,0,1,0,0,1,0,1,1] AS)):=
 jy OF [[1,2,3,4,0,7,8]] (@KL C) (by kernel_rfl) (aK (bs:=[]) (by kernel_rfl) ar) (aK (bs:=[]) (by kernel_rfl) ar) (fun ds=>by kernel_rfl) (fun i β k=>by kernel_rfl) (fun β ds k=>by kernel_rfl)
theorem amX (C:ae):abT C (.loop (aq [1,1,0,1,1,1,0,0] AS)):=
 bA OG [false,false,false,true,true,true] [[1,2,3,0,0,0,0]] (@Gb C) (by kernel_rfl) (aK (bs:=[.cond 45 (aq [1,1,0,1,1,1,0,0,1,0,0,1,0,1,0] AS) (aq [1,1,0,1,1,1,0,0,1,0,0,1,0,1,1] AS)]) (by kernel_rfl) (aY (amW C) ar)) (fun ds=>by kernel_rfl) (fun i x=>by kernel_rfl) (fun i x β k=>by kernel_rfl) (fun β ds k=>by kernel_rfl)
noncomputable def abU (C:ae) (a b':Int) (ab:List V):Option (List V):=
 bif decide (((IntKind.wrap .i64 (b'-a)):Int)≥8) then
  (C zt [.int .i64 (IntKind.wrap .i64 (b'-a))]).bind fun r1=>
  (Loop (KM C a (IntKind.wrap .i64 (b'-a)) ((V.nth r1 0).toInt)) (IntKind.wrap .i64 ((IntKind.wrap .i64 (a+(IntKind.wrap .i64 (2*(IntKind.wrap .i64 (Int.tdiv (IntKind.wrap .i64 (b'-a)) 4))))))-1),ab,IntKind.wrap .u64 (IntKind.wrap .i64 (b'-a)))).bind (un fun (akS:Int)=>un fun (pq:Bool)=>un fun (iA:List V) (akT:Int)=>
   some [.list ak iA])
 else
  some [.list ak ab]
theorem amY {a b':Int} {ab:List V} {r:Option (List V)} (h:abU CC a b' ab=r):CC CT [.int .i64 a,.int .i64 b',.list ak ab]=r:=
 bp (key:=127) (L:=abS CC) (bs:=[.loop (aq [1,1,0,1,1,1,0,0] AS)]) (by kernel_rfl) (aY (amX CC) ar) (bn (by kernel_rfl) h)
noncomputable abbrev nF:Code:=cA Tryd.prog (au.aU 110)
noncomputable def AT (C:ae) (a b' er:Int) (cv cG:Bool) (length:Int) (t39:Bool) (ab:List V) {β:Type} (kr:(Int × (List V))→Option β):Option β:=
 bif t39 then
  (C CT [.int .i64 a,.int .i64 b',.list ak ab]).bind fun r3=>
  kr (IntKind.wrap .i64 (er-1),(V.nth r3 0).toList)
 else
  kr (er,ab)
noncomputable def AU (C:ae) (a b' er:Int) (cv cG:Bool) (length pivot hint:Int) (t56:Bool) (ab:List V) {β:Type} (kr:(Int × Int × (List V))→Option β):Option β:=
 bif t56 then
  (C CU [.int .i64 a,.int .i64 b',.list ak ab]).bind fun r7=>
  kr (IntKind.wrap .i64 ((IntKind.wrap .i64 (b'-1))-(IntKind.wrap .i64 (pivot-a))),1,(V.nth r7 0).toList)
 else
  kr (pivot,hint,ab)
noncomputable def oI (C:ae) (a b' er:Int) (cv cG:Bool) (length pivot:Int) (t75:Bool) (ab:List V) {β:Type} (kr:((Bool × (List V)) ⊕ (List V))→Option β):Option β:=
 bif t75 then
  (C CV [.int .i64 a,.int .i64 b',.list ak ab]).bind fun ln=>
  bif (V.nth ln 0).toBool then
  kr (.inl ((V.nth ln 0).toBool,(V.nth (ln.drop 1) 0).toList))
  else
  kr (.inr ((V.nth (ln.drop 1) 0).toList))
 else
  kr (.inr ab)
noncomputable def rO (C:ae) (a b' er:Int) (cv cG:Bool) (ab:List V) {β:Type} (kn:(Int × Int × Int × Bool × Bool × (List V))→Option β) (kr:(List V)→Option β):Option β:=
 bif decide (((IntKind.wrap .i64 (b'-a)):Int)≤12) then
  (C zo [.int .i64 a,.int .i64 b',.list ak ab]).bind fun r1=>
  kr ((V.nth r1 0).toList)
 else
  bif (er:Int)==0 then
  (C zp [.int .i64 a,.int .i64 b',.list ak ab]).bind fun r2=>
  kr ((V.nth r2 0).toList)
  else
  AT C a b' er cv cG (IntKind.wrap .i64 (b'-a)) (!cv) ab (un fun (bm:Int) (qn:List V)=>
   (C zq [.list ak qn,.int .i64 a,.int .i64 b']).bind fun r6=>
   AU C a b' bm cv cG (IntKind.wrap .i64 (b'-a)) ((V.nth r6 0).toInt) ((V.nth (r6.drop 1) 0).toInt) ((((V.nth (r6.drop 1) 0).toInt):Int)==2) qn (un fun (bS:Int)=>un fun (xC:Int) (iA:List V)=>
    bif cv then
     bif cG then
     oI C a b' bm cv cG (IntKind.wrap .i64 (b'-a)) bS ((xC:Int)==1) iA (dm (un fun (xl:Bool) (xq:List V)=>
      kr xq) (fun (mO:List V)=>
      bif decide ((a:Int)>0) then
       bif (decide (0≤(IntKind.wrap .i64 (a-1))))&&(decide ((IntKind.wrap .i64 (a-1))<(mO.length:Int))) then
       (mO[(IntKind.wrap .i64 (a-1):Int).toNat]?).bind fun cX=>
       bif (decide (0≤bS))&&(decide (bS<(mO.length:Int))) then
        (mO[(bS:Int).toNat]?).bind fun dp=>
        (C bC [.int .i64 ((cX.cell 0).toInt),.int .i64 ((cX.cell 1).toInt),.int .i64 ((cX.cell 2).toInt),.int .i64 ((dp.cell 0).toInt),.int .i64 ((dp.cell 1).toInt),.int .i64 ((dp.cell 2).toInt)]).bind fun cu=>
        bif !(decide ((((V.nth cu 0).toInt):Int)<0)) then
        (C uW [.int .i64 a,.int .i64 b',.int .i64 bS,.list ak mO]).bind fun mP=>
        kn ((V.nth mP 0).toInt,b',bm,cv,cG,(V.nth (mP.drop 1) 0).toList)
        else
        (C oh [.int .i64 a,.int .i64 b',.int .i64 bS,.list ak mO]).bind fun dJ=>
        bif decide (((IntKind.wrap .i64 (((V.nth dJ 0).toInt)-a)):Int)<(IntKind.wrap .i64 (b'-((V.nth dJ 0).toInt)))) then
         (C iv [.int .i64 a,.int .i64 ((V.nth dJ 0).toInt),.int .i64 bm,.list ak ((V.nth (dJ.drop 2) 0).toList)]).bind fun eS=>
         kn (IntKind.wrap .i64 (((V.nth dJ 0).toInt)+1),b',bm,decide (((IntKind.wrap .i64 (((V.nth dJ 0).toInt)-a)):Int)≥(IntKind.wrap .i64 (Int.tdiv (IntKind.wrap .i64 (b'-a)) 8))),(V.nth (dJ.drop 1) 0).toBool,(V.nth eS 0).toList)
        else
         (C iv [.int .i64 (IntKind.wrap .i64 (((V.nth dJ 0).toInt)+1)),.int .i64 b',.int .i64 bm,.list ak ((V.nth (dJ.drop 2) 0).toList)]).bind fun oB=>
         kn (a,(V.nth dJ 0).toInt,bm,decide (((IntKind.wrap .i64 (b'-((V.nth dJ 0).toInt))):Int)≥(IntKind.wrap .i64 (Int.tdiv (IntKind.wrap .i64 (b'-a)) 8))),(V.nth (dJ.drop 1) 0).toBool,(V.nth oB 0).toList)
       else none
       else none
      else
       (C oh [.int .i64 a,.int .i64 b',.int .i64 bS,.list ak mO]).bind fun fa=>
       bif decide (((IntKind.wrap .i64 (((V.nth fa 0).toInt)-a)):Int)<(IntKind.wrap .i64 (b'-((V.nth fa 0).toInt)))) then
       (C iv [.int .i64 a,.int .i64 ((V.nth fa 0).toInt),.int .i64 bm,.list ak ((V.nth (fa.drop 2) 0).toList)]).bind fun QX=>
       kn (IntKind.wrap .i64 (((V.nth fa 0).toInt)+1),b',bm,decide (((IntKind.wrap .i64 (((V.nth fa 0).toInt)-a)):Int)≥(IntKind.wrap .i64 (Int.tdiv (IntKind.wrap .i64 (b'-a)) 8))),(V.nth (fa.drop 1) 0).toBool,(V.nth QX 0).toList)
       else
       (C iv [.int .i64 (IntKind.wrap .i64 (((V.nth fa 0).toInt)+1)),.int .i64 b',.int .i64 bm,.list ak ((V.nth (fa.drop 2) 0).toList)]).bind fun QY=>
       kn (a,(V.nth fa 0).toInt,bm,decide (((IntKind.wrap .i64 (b'-((V.nth fa 0).toInt))):Int)≥(IntKind.wrap .i64 (Int.tdiv (IntKind.wrap .i64 (b'-a)) 8))),(V.nth (fa.drop 1) 0).toBool,(V.nth QY 0).toList)))
     else
     oI C a b' bm cv cG (IntKind.wrap .i64 (b'-a)) bS false iA (dm (un fun (Y9:Bool) (QZ:List V)=>
      kr QZ) (fun (j9:List V)=>
      bif decide ((a:Int)>0) then
       bif (decide (0≤(IntKind.wrap .i64 (a-1))))&&(decide ((IntKind.wrap .i64 (a-1))<(j9.length:Int))) then
       (j9[(IntKind.wrap .i64 (a-1):Int).toNat]?).bind fun mK=>
       bif (decide (0≤bS))&&(decide (bS<(j9.length:Int))) then
        (j9[(bS:Int).toNat]?).bind fun mL=>
        (C bC [.int .i64 ((mK.cell 0).toInt),.int .i64 ((mK.cell 1).toInt),.int .i64 ((mK.cell 2).toInt),.int .i64 ((mL.cell 0).toInt),.int .i64 ((mL.cell 1).toInt),.int .i64 ((mL.cell 2).toInt)]).bind fun tG=>
        bif !(decide ((((V.nth tG 0).toInt):Int)<0)) then
        (C uW [.int .i64 a,.int .i64 b',.int .i64 bS,.list ak j9]).bind fun Fj=>
        kn ((V.nth Fj 0).toInt,b',bm,cv,cG,(V.nth (Fj.drop 1) 0).toList)
        else
        (C oh [.int .i64 a,.int .i64 b',.int .i64 bS,.list ak j9]).bind fun gN=>
        bif decide (((IntKind.wrap .i64 (((V.nth gN 0).toInt)-a)):Int)<(IntKind.wrap .i64 (b'-((V.nth gN 0).toInt)))) then
         (C iv [.int .i64 a,.int .i64 ((V.nth gN 0).toInt),.int .i64 bm,.list ak ((V.nth (gN.drop 2) 0).toList)]).bind fun Q0=>
         kn (IntKind.wrap .i64 (((V.nth gN 0).toInt)+1),b',bm,decide (((IntKind.wrap .i64 (((V.nth gN 0).toInt)-a)):Int)≥(IntKind.wrap .i64 (Int.tdiv (IntKind.wrap .i64 (b'-a)) 8))),(V.nth (gN.drop 1) 0).toBool,(V.nth Q0 0).toList)
        else
         (C iv [.int .i64 (IntKind.wrap .i64 (((V.nth gN 0).toInt)+1)),.int .i64 b',.int .i64 bm,.list ak ((V.nth (gN.drop 2) 0).toList)]).bind fun Q1=>
         kn (a,(V.nth gN 0).toInt,bm,decide (((IntKind.wrap .i64 (b'-((V.nth gN 0).toInt))):Int)≥(IntKind.wrap .i64 (Int.tdiv (IntKind.wrap .i64 (b'-a)) 8))),(V.nth (gN.drop 1) 0).toBool,(V.nth Q1 0).toList)
       else none
       else none
      else
       (C oh [.int .i64 a,.int .i64 b',.int .i64 bS,.list ak j9]).bind fun gO=>
       bif decide (((IntKind.wrap .i64 (((V.nth gO 0).toInt)-a)):Int)<(IntKind.wrap .i64 (b'-((V.nth gO 0).toInt)))) then
       (C iv [.int .i64 a,.int .i64 ((V.nth gO 0).toInt),.int .i64 bm,.list ak ((V.nth (gO.drop 2) 0).toList)]).bind fun Q2=>
       kn (IntKind.wrap .i64 (((V.nth gO 0).toInt)+1),b',bm,decide (((IntKind.wrap .i64 (((V.nth gO 0).toInt)-a)):Int)≥(IntKind.wrap .i64 (Int.tdiv (IntKind.wrap .i64 (b'-a)) 8))),(V.nth (gO.drop 1) 0).toBool,(V.nth Q2 0).toList)
       else
       (C iv [.int .i64 (IntKind.wrap .i64 (((V.nth gO 0).toInt)+1)),.int .i64 b',.int .i64 bm,.list ak ((V.nth (gO.drop 2) 0).toList)]).bind fun Q3=>
       kn (a,(V.nth gO 0).toInt,bm,decide (((IntKind.wrap .i64 (b'-((V.nth gO 0).toInt))):Int)≥(IntKind.wrap .i64 (Int.tdiv (IntKind.wrap .i64 (b'-a)) 8))),(V.nth (gO.drop 1) 0).toBool,(V.nth Q3 0).toList)))
    else
     oI C a b' bm cv cG (IntKind.wrap .i64 (b'-a)) bS false iA (dm (un fun (akY:Bool) (Q4:List V)=>
      kr Q4) (fun (eQ:List V)=>
      bif decide ((a:Int)>0) then
      bif (decide (0≤(IntKind.wrap .i64 (a-1))))&&(decide ((IntKind.wrap .i64 (a-1))<(eQ.length:Int))) then
       (eQ[(IntKind.wrap .i64 (a-1):Int).toNat]?).bind fun gk=>
       bif (decide (0≤bS))&&(decide (bS<(eQ.length:Int))) then
       (eQ[(bS:Int).toNat]?).bind fun mM=>
       (C bC [.int .i64 ((gk.cell 0).toInt),.int .i64 ((gk.cell 1).toInt),.int .i64 ((gk.cell 2).toInt),.int .i64 ((mM.cell 0).toInt),.int .i64 ((mM.cell 1).toInt),.int .i64 ((mM.cell 2).toInt)]).bind fun Q5=>
       bif !(decide ((((V.nth Q5 0).toInt):Int)<0)) then
        (C uW [.int .i64 a,.int .i64 b',.int .i64 bS,.list ak eQ]).bind fun Fk=>
        kn ((V.nth Fk 0).toInt,b',bm,cv,cG,(V.nth (Fk.drop 1) 0).toList)
       else
        (C oh [.int .i64 a,.int .i64 b',.int .i64 bS,.list ak eQ]).bind fun gP=>
        bif decide (((IntKind.wrap .i64 (((V.nth gP 0).toInt)-a)):Int)<(IntKind.wrap .i64 (b'-((V.nth gP 0).toInt)))) then
        (C iv [.int .i64 a,.int .i64 ((V.nth gP 0).toInt),.int .i64 bm,.list ak ((V.nth (gP.drop 2) 0).toList)]).bind fun Q6=>
        kn (IntKind.wrap .i64 (((V.nth gP 0).toInt)+1),b',bm,decide (((IntKind.wrap .i64 (((V.nth gP 0).toInt)-a)):Int)≥(IntKind.wrap .i64 (Int.tdiv (IntKind.wrap .i64 (b'-a)) 8))),(V.nth (gP.drop 1) 0).toBool,(V.nth Q6 0).toList)
        else
        (C iv [.int .i64 (IntKind.wrap .i64 (((V.nth gP 0).toInt)+1)),.int .i64 b',.int .i64 bm,.list ak ((V.nth (gP.drop 2) 0).toList)]).bind fun Q7=>
        kn (a,(V.nth gP 0).toInt,bm,decide (((IntKind.wrap .i64 (b'-((V.nth gP 0).toInt))):Int)≥(IntKind.wrap .i64 (Int.tdiv (IntKind.wrap .i64 (b'-a)) 8))),(V.nth (gP.drop 1) 0).toBool,(V.nth Q7 0).toList)
       else none
      else none
      else
      (C oh [.int .i64 a,.int .i64 b',.int .i64 bS,.list ak eQ]).bind fun gQ=>
      bif decide (((IntKind.wrap .i64 (((V.nth gQ 0).toInt)-a)):Int)<(IntKind.wrap .i64 (b'-((V.nth gQ 0).toInt)))) then
       (C iv [.int .i64 a,.int .i64 ((V.nth gQ 0).toInt),.int .i64 bm,.list ak ((V.nth (gQ.drop 2) 0).toList)]).bind fun Q8=>
       kn (IntKind.wrap .i64 (((V.nth gQ 0).toInt)+1),b',bm,decide (((IntKind.wrap .i64 (((V.nth gQ 0).toInt)-a)):Int)≥(IntKind.wrap .i64 (Int.tdiv (IntKind.wrap .i64 (b'-a)) 8))),(V.nth (gQ.drop 1) 0).toBool,(V.nth Q8 0).toList)
      else
       (C iv [.int .i64 (IntKind.wrap .i64 (((V.nth gQ 0).toInt)+1)),.int .i64 b',.int .i64 bm,.list ak ((V.nth (gQ.drop 2) 0).toList)]).bind fun Q9=>
       kn (a,(V.nth gQ 0).toInt,bm,decide (((IntKind.wrap .i64 (b'-((V.nth gQ 0).toInt))):Int)≥(IntKind.wrap .i64 (Int.tdiv (IntKind.wrap .i64 (b'-a)) 8))),(V.nth (gQ.drop 1) 0).toBool,(V.nth Q9 0).toList)))))
noncomputable def abV (C:ae):(Int × Int × Int × Bool × Bool × (List V))→Option ((Int × Int × Int × Bool × Bool × (List V)) ⊕ (List V)):=un fun a=>un fun b'=>un fun er=>un fun cv=>un fun cG ab=>rO C a b' er cv cG ab (fun y=>some (.inl y)) (fun r=>some (.inr r))
noncomputable def abW (C:ae):cl:=fun β n ds k=>
 bif Nat.beq n 639 then jb Oo [[1,2,0,4,5,6,0]] (@AT C) ds k else
 bif Nat.beq n 911 then jb Oq [[1,2,3,4,5,6,0,0,0]] (@AU C) ds k else
 bif Nat.beq n 1215 then jb Ot [[1,2,3,4,5,6,7,0,0],[1,2,3,4,5,6,7,0]] (@oI C) ds k else
 bif Nat.beq n 33 then bt Ou [true,true,true,true,true,true] [[0]] (@rO C) ds k else
 none
abbrev KN (C:ae) (b:ch):Prop:=cj Tryd.prog au C (abW C) 110 (cH Tryd.prog (au.aU 110)) (au.sin 110).aZ.length b
theorem amZ (C:ae):KN C (.cond 39 (aq [1,1,0,0,0,1,1,1,0,1,0] nF) (aq [1,1,0,0,0,1,1,1,0,1,1] nF)):=
 jy Oo [[1,2,0,4,5,6,0]] (@AT C) (by kernel_rfl) (aK (bs:=[]) (by kernel_rfl) ar) (aK (bs:=[]) (by kernel_rfl) ar) (fun ds=>by kernel_rfl) (fun i β k=>by kernel_rfl) (fun β ds k=>by kernel_rfl)
theorem am0 (C:ae):KN C (.cond 56 (aq [1,1,0,0,0,1,1,1,1,1,0,1,0] nF) (aq [1,1,0,0,0,1,1,1,1,1,0,1,1] nF)):=
 jy Oq [[1,2,3,4,5,6,0,0,0]] (@AU C) (by kernel_rfl) (aK (bs:=[]) (by kernel_rfl) ar) (aK (bs:=[]) (by kernel_rfl) ar) (fun ds=>by kernel_rfl) (fun i β k=>by kernel_rfl) (fun β ds k=>by kernel_rfl)
theorem am1 (C:ae):KN C (.cond 75 (aq [1,1,0,0,0,1,1,1,1,1,1,0,1,0] nF) (aq [1,1,0,0,0,1,1,1,1,1,1,0,1,1] nF)):=
 jy Ot [[1,2,3,4,5,6,7,0,0],[1,2,3,4,5,6,7,0]] (@oI C) (by kernel_rfl) (aK (bs:=[]) (by kernel_rfl) ar) (aK (bs:=[]) (by kernel_rfl) ar) (fun ds=>by kernel_rfl) (fun i β k=>by kernel_rfl) (fun β ds k=>by kernel_rfl)
theorem am2 (C:ae):KN C (.loop (aq [1,1,0,0] nF)):=
 bA Ou [true,true,true,true,true,true] [[0]] (@rO C) (by kernel_rfl) (aK (bs:=[.cond 39 (aq [1,1,0,0,0,1,1,1,0,1,0] nF) (aq [1,1,0,0,0,1,1,1,0,1,1] nF),.cond 56 (aq [1,1,0,0,0,1,1,1,1,1,0,1,0] nF) (aq [1,1,0,0,0,1,1,1,1,1,0,1,1] nF),.cond 75 (aq [1,1,0,0,0,1,1,1,1,1,1,0,1,0] nF) (aq [1,1,0,0,0,1,1,1,1,1,1,0,1,1] nF)]) (by kernel_rfl) (aY (amZ C) (aY (am0 C) (aY (am1 C) ar)))) (fun ds=>by kernel_rfl) (fun i x=>by kernel_rfl) (fun i x β k=>by kernel_rfl) (fun β ds k=>by kernel_rfl)
noncomputable def abX (C:ae) (a b' er:Int) (ab:List V):Option (List V):=
 (Loop (abV C) (a,b',er,true,true,ab)).bind (fun (Ra:List V)=>
  some [.list ak Ra])
theorem am3 {a b' er:Int} {ab:List V} {r:Option (List V)} (h:abX CC a b' er ab=r):CC iv [.int .i64 a,.int .i64 b',.int .i64 er,.list ak ab]=r:=
 bp (key:=110) (L:=abW CC) (bs:=[.loop (aq [1,1,0,0] nF)]) (by kernel_rfl) (aY (am2 CC) ar) (bn (by kernel_rfl) h)
noncomputable def abY (C:ae) (xs:List V):Option (List V):=
 (C wY [.int .u64 (IntKind.wrap .u64 (xs.length:Int))]).bind fun r1=>
 (C iv [.int .i64 0,.int .i64 (xs.length:Int),.int .i64 ((V.nth r1 0).toInt),.list ak xs]).bind fun r2=>
 some [.list ak ((V.nth r2 0).toList)]
theorem am4 {xs:List V} {r:Option (List V)} (h:abY CC xs=r):CC Nj [.list ak xs]=r:=
 bp (key:=168) (L:=di) (bs:=[]) (by kernel_rfl) ar (bn (by kernel_rfl) h)
end Go.AM
set_option maxRecDepth 100000
set_option maxHeartbeats 4000000
namespace Go.AM
open Go.Proofs Go.Sort
theorem Fl (a b:Ed):(ai a b=true)=(a.lt b):=by rw[ll,propext (zH a b)]
theorem tL (a b:Ed):(ai a b=false)= ¬(a.lt b):=by rw[←Fl];simp
theorem oC:SWO ai where
 irrefl x:=by rw[tL];unfold Ed.lt;omega
 trans x y z:=by simp only[Fl];unfold Ed.lt;omega
 ntrans x y z:=by simp only[tL];unfold Ed.lt;omega
def tM:List UInt8:=([0,1,2,2,3,3,3,3,4,4,4,4,4,4,4,4,5,5,5,5,5,5,5,5,5,5,5,5,5,5,5,5,6,6,6,6,6,6,6,6,6,6,6,6,6,6,6,6,6,6,6,6,6,6,6,6,6,6,6,6,6,6,6,6,7,7,7,7,7,7,7,7,7,7,7,7,7,7,7,7,7,7,7,7,7,7,7,7,7,7,7,7,7,7,7,7,7,7,7,7,7,7,7,7,7,7,7,7,7,7,7,7,7,7,7,7,7,7,7,7,7,7,7,7,7,7,7,7,8,8,8,8,8,8,8,8,8,8,8,8,8,8,8,8,8,8,8,8,8,8,8,8,8,8,8,8,8,8,8,8,8,8,8,8,8,8,8,8,8,8,8,8,8,8,8,8,8,8,8,8,8,8,8,8,8,8,8,8,8,8,8,8,8,8,8,8,8,8,8,8,8,8,8,8,8,8,8,8,8,8,8,8,8,8,8,8,8,8,8,8,8,8,8,8,8,8,8,8,8,8,8,8,8,8,8,8,8,8,8,8,8,8,8,8,8,8,8,8,8,8,8,8,8,8,8,8]:List UInt8)
theorem Rb:(List.range 256).all (fun y=>match tM[y]? with|some b=>decide (b.toNat≤8)&&(Nat.beq y 0||(decide (1≤b.toNat)&&decide (2^(b.toNat-1)≤y)))|none=>false)=true:=by decide+kernel
theorem Fm {y:Nat} (h:y<256): ∃b,tM[y]? =some b∧b.toNat≤8∧(0<y→1≤b.toNat∧2^(b.toNat-1)≤y):=by
 have:=gl.1 Rb y (iR.2 h)
 cases hb:tM[y]? with
 | none=>rw[hb] at this;cases this
 | some b=>
  rw[hb] at this
  simp only[aL,vy,dx] at this
  refine ⟨b,rfl,this.1,fun hy=> ?_⟩
  rcases this.2 with h2|h2
  ·have:=Gl h2;omega
  ·exact h2
theorem xD {y t k:Nat} (h:2^(t-1)≤y/2^k) (ht:1≤t):2^(t+k-1)≤y:=by
 have e:t+k-1=(t-1)+k:=by omega
 rw[e,Nat.pow_add]
 exact jH (dP _ h) (Gu _ _)
noncomputable def oD (y n:Int):Option (List V):=
(bif decide ((y:Int)≥256) then
    (bif decide (0≤(IntKind.wrap .u8 (Int.fdiv y (2^(min (8:Int).toNat (IntKind.bits .u64)))))) then (([0,1,2,2,3,3,3,3,4,4,4,4,4,4,4,4,5,5,5,5,5,5,5,5,5,5,5,5,5,5,5,5,6,6,6,6,6,6,6,6,6,6,6,6,6,6,6,6,6,6,6,6,6,6,6,6,6,6,6,6,6,6,6,6,7,7,7,7,7,7,7,7,7,7,7,7,7,7,7,7,7,7,7,7,7,7,7,7,7,7,7,7,7,7,7,7,7,7,7,7,7,7,7,7,7,7,7,7,7,7,7,7,7,7,7,7,7,7,7,7,7,7,7,7,7,7,7,7,8,8,8,8,8,8,8,8,8,8,8,8,8,8,8,8,8,8,8,8,8,8,8,8,8,8,8,8,8,8,8,8,8,8,8,8,8,8,8,8,8,8,8,8,8,8,8,8,8,8,8,8,8,8,8,8,8,8,8,8,8,8,8,8,8,8,8,8,8,8,8,8,8,8,8,8,8,8,8,8,8,8,8,8,8,8,8,8,8,8,8,8,8,8,8,8,8,8,8,8,8,8,8,8,8,8,8,8,8,8,8,8,8,8,8,8,8,8,8,8,8,8,8,8,8,8,8,8]:List UInt8)[(IntKind.wrap .u8 (Int.fdiv y (2^(min (8:Int).toNat (IntKind.bits .u64)))):Int).toNat]?).map fun b=>V.int .u8 b.toNat else none).bind fun x5=>
    some [V.int .i64 (IntKind.wrap .i64 ((IntKind.wrap .i64 (n+8))+(IntKind.wrap .i64 x5.toInt)))]
   else
    (bif decide (0≤(IntKind.wrap .u8 y)) then (([0,1,2,2,3,3,3,3,4,4,4,4,4,4,4,4,5,5,5,5,5,5,5,5,5,5,5,5,5,5,5,5,6,6,6,6,6,6,6,6,6,6,6,6,6,6,6,6,6,6,6,6,6,6,6,6,6,6,6,6,6,6,6,6,7,7,7,7,7,7,7,7,7,7,7,7,7,7,7,7,7,7,7,7,7,7,7,7,7,7,7,7,7,7,7,7,7,7,7,7,7,7,7,7,7,7,7,7,7,7,7,7,7,7,7,7,7,7,7,7,7,7,7,7,7,7,7,7,8,8,8,8,8,8,8,8,8,8,8,8,8,8,8,8,8,8,8,8,8,8,8,8,8,8,8,8,8,8,8,8,8,8,8,8,8,8,8,8,8,8,8,8,8,8,8,8,8,8,8,8,8,8,8,8,8,8,8,8,8,8,8,8,8,8,8,8,8,8,8,8,8,8,8,8,8,8,8,8,8,8,8,8,8,8,8,8,8,8,8,8,8,8,8,8,8,8,8,8,8,8,8,8,8,8,8,8,8,8,8,8,8,8,8,8,8,8,8,8,8,8,8,8,8,8,8,8]:List UInt8)[(IntKind.wrap .u8 y:Int).toNat]?).map fun b=>V.int .u8 b.toNat else none).bind fun x6=>
    some [V.int .i64 (IntKind.wrap .i64 (n+(IntKind.wrap .i64 x6.toInt)))])
theorem Rc {x:Nat} (h:x<2^64): ∃L:Nat,CC CW [.int .u64 (x:Int)]=some [.int .i64 (L:Int)]∧L≤64∧(0<x→1≤L∧2^(L-1)≤x):=by
 have last: ∀y n:Nat,y<65536→n≤48→∃t:Nat,
   oD (y:Int) (n:Int)=some [V.int .i64 ((n+t:Nat):Int)]∧t≤16∧(0<y→1≤t∧2^(t-1)≤y):=by
  intro y n hy hn
  unfold oD
  rw[show ([0,1,2,2,3,3,3,3,4,4,4,4,4,4,4,4,5,5,5,5,5,5,5,5,5,5,5,5,5,5,5,5,6,6,6,6,6,6,6,6,6,6,6,6,6,6,6,6,6,6,6,6,6,6,6,6,6,6,6,6,6,6,6,6,7,7,7,7,7,7,7,7,7,7,7,7,7,7,7,7,7,7,7,7,7,7,7,7,7,7,7,7,7,7,7,7,7,7,7,7,7,7,7,7,7,7,7,7,7,7,7,7,7,7,7,7,7,7,7,7,7,7,7,7,7,7,7,7,8,8,8,8,8,8,8,8,8,8,8,8,8,8,8,8,8,8,8,8,8,8,8,8,8,8,8,8,8,8,8,8,8,8,8,8,8,8,8,8,8,8,8,8,8,8,8,8,8,8,8,8,8,8,8,8,8,8,8,8,8,8,8,8,8,8,8,8,8,8,8,8,8,8,8,8,8,8,8,8,8,8,8,8,8,8,8,8,8,8,8,8,8,8,8,8,8,8,8,8,8,8,8,8,8,8,8,8,8,8,8,8,8,8,8,8,8,8,8,8,8,8,8,8,8,8,8,8]:List UInt8)=tM from rfl]
  by_cases h1:y≥256
  ·have e:Int.fdiv (y:Int) (2^(min (8:Int).toNat (IntKind.bits .u64)))=((y/2^8:Nat):Int):=xb (m:=8) (by omega)
   obtain ⟨b,hb,b1,b2⟩:=Fm (y:=y/2^8) (by omega)
   refine ⟨b.toNat+8,?_,by omega,fun _=> ?_⟩
   ·rw[e,aw,ag (by omega),CE (by omega) (by omega),aw,ag (by omega),Int.toNat_natCast,hb]
    simp only[Option.map_some,Option.bind_some,V.toInt_int]
    simp (disch:=omega) only[wrap64]
    congr 3
    omega
   ·obtain ⟨b3,b4⟩:=b2 (by omega)
    exact ⟨by omega,xD b4 b3⟩
  ·obtain ⟨b,hb,b1,b2⟩:=Fm (y:=y) (by omega)
   refine ⟨b.toNat,?_,by omega,b2⟩
   rw[aw,ah (by omega),CE (by omega) (by omega),aw,ag (by omega),Int.toNat_natCast,hb]
   simp (disch:=omega) only[Option.map_some,Option.bind_some,V.toInt_int,wrap64]
   congr 3
 have mid: ∀y n:Nat,y<4294967296→n≤32→∃t:Nat,∀F:Int→Int→Option (List V),
   (∀y n:Nat,y<65536→n≤48→∃t:Nat,F (y:Int) (n:Int)=some [V.int .i64 ((n+t:Nat):Int)]∧t≤16∧(0<y→1≤t∧2^(t-1)≤y))→
   ∃t:Nat,qm CC (y:Int) (n:Int) (decide (((y:Int):Int)≥65536)) (un F)=some [V.int .i64 ((n+t:Nat):Int)]∧t≤32∧(0<y→1≤t∧2^(t-1)≤y):=by
  intro y n hy hn
  refine ⟨0,fun F hF=> ?_⟩
  unfold qm
  by_cases h1:y≥65536
  ·have e:Int.fdiv (y:Int) (2^(min (16:Int).toNat (IntKind.bits .u64)))=((y/2^16:Nat):Int):=xb (m:=16) (by omega)
   rw[aw,ag (by omega),e,wrap64 (by omega) (by omega)]
   obtain ⟨t,h2,h3,h4⟩:=hF (y/2^16) (n+16) (by omega) (by omega)
   refine ⟨t+16,?_,by omega,fun _=> ?_⟩
   ·rw[show ((n:Int)+16)=((n+16:Nat):Int) by omega]
    simp only[un]
    rw[h2]
    congr 3
    omega
   ·obtain ⟨b3,b4⟩:=h4 (by omega)
    exact ⟨by omega,xD b4 b3⟩
  ·rw[aw,ah (by omega)]
   obtain ⟨t,h2,h3,h4⟩:=hF y n (by omega) (by omega)
   exact ⟨t,h2,by omega,h4⟩
 by_cases h1:x≥4294967296
 ·have e:Int.fdiv (x:Int) (2^(min (32:Int).toNat (IntKind.bits .u64)))=((x/2^32:Nat):Int):=xb (m:=32) (by omega)
  obtain ⟨_,hm⟩:=mid (x/2^32) 32 (by omega) (by omega)
  obtain ⟨t,h2,h3,h4⟩:=hm oD last
  refine ⟨32+t,Ko ?_,by omega,fun _=> ?_⟩
  ·show ql CC (x:Int) 0 (decide (((x:Int):Int)≥4294967296)) (un fun (nD:Int) (dM:Int)=>qm CC nD dM (decide ((nD:Int)≥65536)) (un oD))=_
   unfold ql
   rw[aw,ag (by omega),e]
   exact h2
  ·obtain ⟨b3,b4⟩:=h4 (by omega)
   rw[yb 32 t]
   exact ⟨by omega,xD b4 b3⟩
 ·obtain ⟨_,hm⟩:=mid x 0 (by omega) (by omega)
  obtain ⟨t,h2,h3,h4⟩:=hm oD last
  refine ⟨t,Ko ?_,by omega,h4⟩
  show ql CC (x:Int) 0 (decide (((x:Int):Int)≥4294967296)) (un fun (nD:Int) (dM:Int)=>qm CC nD dM (decide ((nD:Int)≥65536)) (un oD))=_
  unfold ql
  rw[aw,ah (by omega)]
  rw[fe] at h2
  exact h2
theorem Fo {x:Nat} (h:x<2^64): ∃L:Nat,CC wY [.int .u64 (x:Int)]=some [.int .i64 (L:Int)]∧L≤64∧(0<x→1≤L∧2^(L-1)≤x):=by
 obtain ⟨L,h1,h2⟩:=Rc h
 refine ⟨L,aaA ?_,h2⟩
 unfold QW
 rw[h1]
 rfl
theorem Re {x:Nat} (h0:0<x) (h:x<1152921504606846976): ∃M:Nat,CC zt [.int .i64 (x:Int)]=some [.int .u64 (M:Int)]∧1≤M∧M≤2*x:=by
 obtain ⟨L,h1,h2,h3⟩:=Fo (x:=x) (by omega)
 obtain ⟨h4,h5⟩:=h3 h0
 have e:2^L=2*2^(L-1):=by
  obtain ⟨k,rfl⟩: ∃k,L=k+1:=⟨L-1,by omega⟩
  rw[Nat.pow_succ];simp only[rQ];omega
 have hL:L<64:=by
  by_cases hx:L<64
  ·exact hx
  ·have:2^63≤2^(L-1):=oQ (by omega) (by omega)
   omega
 refine ⟨2^L,aaz ?_,rT (by simp),by omega⟩
 unfold QV
 rw[qe (A:=x) (by omega),h1]
 simp only[Option.bind_some,V.bz,V.toInt_int]
 rw[aw,ag (by omega),Int.toNat_natCast,w9 hL]
theorem Rf (r:Int): ∃R:Nat,CC zu [.int .u64 r]=some [.int .u64 (R:Int),.int .u64 (R:Int)]∧R<2^64:=by
 have h: ∀n:Int,∃R:Nat,IntKind.wrap .u64 n=(R:Int)∧R<2^64:=fun n=>⟨(IntKind.wrap .u64 n).toNat,by rw[wrap_u64];omega,by rw[wrap_u64];omega⟩
 obtain ⟨R,h1,h2⟩:=h _
 exact ⟨R,aay (by unfold QU;rw[h1]),h2⟩
theorem tN {d:Array Ed} {i:Nat} (h:i<d.size):idx (eA d) (i:Int)=some (d[i]!).enc:=by rw[CF,dd h]
theorem xE {d:Array Ed} {a b:Nat} {s:Int} (ha:a<d.size) (hb:b<d.size): ∃(x y:Nat) (s':Int),CC w5 [.list ak (eA d),.int .i64 (a:Int),.int .i64 (b:Int),.int .i64 s]=some [.int .i64 (x:Int),.int .i64 (y:Int),.int .i64 s']∧(x=a∧y=b∨x=b∧y=a):=by
 by_cases h:aR d[b]! d[a]! <0
 ·refine ⟨b,a,_,abQ (by unfold Si;rw[tN hb,tN ha];simp only[Option.bind_some,Ed.b7,Ed.b8,Ed.b9,iw,V.bz,V.toInt_int];rw[aw,ag h]),.inr ⟨rfl,rfl⟩⟩
 ·refine ⟨a,b,_,abQ (by unfold Si;rw[tN hb,tN ha];simp only[Option.bind_some,Ed.b7,Ed.b8,Ed.b9,iw,V.bz,V.toInt_int];rw[aw,ah h]),.inl ⟨rfl,rfl⟩⟩
theorem xF {d:Array Ed} {a b c:Nat} {s:Int} (ha:a<d.size) (hb:b<d.size) (hc:c<d.size): ∃(m:Nat) (s':Int),CC zw [.list ak (eA d),.int .i64 (a:Int),.int .i64 (b:Int),.int .i64 (c:Int),.int .i64 s]=some [.int .i64 (m:Int),.int .i64 s']∧(m=a∨m=b∨m=c):=by
 obtain ⟨x1,y1,s1,e1,o1⟩:=xE (s:=s) ha hb
 obtain ⟨x2,y2,s2,e2,o2⟩:=xE (d:=d) (a:=y1) (b:=c) (s:=s1) (by omega) hc
 obtain ⟨x3,y3,s3,e3,o3⟩:=xE (d:=d) (a:=x1) (b:=x2) (s:=s2) (by omega) (by omega)
 refine ⟨y3,s3,amU ?_,by omega⟩
 unfold abP
 rw[e1]
 simp only[Option.bind_some,V.bz,V.kH,V.toInt_int,ji,ig]
 rw[e2]
 simp only[Option.bind_some,V.bz,V.kH,V.toInt_int,ji,ig]
 rw[e3]
 rfl
theorem xG {d:Array Ed} {a:Nat} {s:Int} (h1:1≤a) (ha:a+1<d.size) (hs:d.size<1152921504606846976): ∃(m:Nat) (s':Int),CC w4 [.list ak (eA d),.int .i64 (a:Int),.int .i64 s]=some [.int .i64 (m:Int),.int .i64 s']∧a≤m+1∧m≤a+1:=by
 obtain ⟨m,s',e,o⟩:=xF (d:=d) (a:=a-1) (b:=a) (c:=a+1) (s:=s) (by omega) (by omega) (by omega)
 refine ⟨m,s',amV ?_,by omega,by omega⟩
 unfold abR
 simp (disch:=omega) only[fl,bU,wrap64]
 rw[e]
 rfl
theorem xH (n:Nat):Int.tdiv (n:Int) 4=((n/4:Nat):Int):=by
 have:=divC n 4
 exact this
theorem mulC (k n:Nat):((k:Nat):Int)*(n:Int)=((k*n:Nat):Int):=(Int.natCast_mul k n).symm
theorem Rg {d:Array Ed} {a b:Nat} (cY:a+12<b) (hb:b≤d.size) (hs:d.size<1152921504606846976): ∃(p:Nat) (h:Int),CC zq [.list ak (eA d),.int .i64 (a:Int),.int .i64 (b:Int)]=some [.int .i64 (p:Int),.int .i64 h]∧a≤p∧p<b:=by
 have fin: ∀(p:Nat) (s:Int),∃h:Int,(bif (s:Int)==0 then some [V.int .i64 (p:Int),V.int .i64 1] else bif (s:Int)==12 then some [V.int .i64 (p:Int),V.int .i64 2] else some [V.int .i64 (p:Int),V.int .i64 0])=some [V.int .i64 (p:Int),V.int .i64 h]:=by
  intro p s
  rw[lV]
  split
  ·exact ⟨1,rfl⟩
  ·rw[lV]
   split
   ·exact ⟨2,rfl⟩
   ·exact ⟨0,rfl⟩
 have e1:IntKind.wrap .i64 ((b:Int)-(a:Int))=((b-a:Nat):Int):=by rw[gv (by omega),wrap64 (by omega) (by omega)]
 have e2:IntKind.wrap .i64 (Int.tdiv ((b-a:Nat):Int) 4)=(((b-a)/4:Nat):Int):=by rw[xH,wrap64 (by omega) (by omega)]
 have e3: ∀k:Nat,k≤3→IntKind.wrap .i64 ((a:Int)+IntKind.wrap .i64 ((k:Int)*(((b-a)/4:Nat):Int)))=((a+k*((b-a)/4):Nat):Int):=by
  intro k hk
  have sN:k*((b-a)/4)≤3*((b-a)/4):=dP _ hk
  simp (disch:=omega) only[mulC,wrap64,db]
 have xI:=e3 1 (by omega)
 have lp:=e3 2 (by omega)
 have xJ:=e3 3 (by omega)
 rw[show ((1:Nat):Int)=1 from rfl] at xI
 rw[show ((2:Nat):Int)=2 from rfl] at lp
 rw[show ((3:Nat):Int)=3 from rfl] at xJ
 by_cases h50:b-a≥50
 ·obtain ⟨m1,s1,q1,r1⟩:=xG (d:=d) (a:=a+1*((b-a)/4)) (s:=0) (by omega) (by omega) hs
  obtain ⟨m2,s2,q2,r2⟩:=xG (d:=d) (a:=a+2*((b-a)/4)) (s:=s1) (by omega) (by omega) hs
  obtain ⟨m3,s3,q3,r3⟩:=xG (d:=d) (a:=a+3*((b-a)/4)) (s:=s2) (by omega) (by omega) hs
  obtain ⟨m,s,q,r⟩:=xF (d:=d) (a:=m1) (b:=m2) (c:=m3) (s:=s3) (by omega) (by omega) (by omega)
  obtain ⟨h,hf⟩:=fin m s
  refine ⟨m,h,abO ?_,by omega,by omega⟩
  unfold Sh Ga F9
  rw[e1,e2,xI,lp,xJ,ic (by omega),cond_true,ic (by omega),cond_true,q1]
  simp only[Option.bind_some,V.bz,V.kH,V.toInt_int,ji,ig]
  rw[q2]
  simp only[Option.bind_some,V.bz,V.kH,V.toInt_int,ji,ig]
  rw[q3]
  simp only[Option.bind_some,V.bz,V.kH,V.toInt_int,ji,ig,un]
  rw[q]
  exact hf
 ·obtain ⟨m,s,q,r⟩:=xF (d:=d) (a:=a+1*((b-a)/4)) (b:=a+2*((b-a)/4)) (c:=a+3*((b-a)/4)) (s:=0) (by omega) (by omega) (by omega)
  obtain ⟨h,hf⟩:=fin m s
  refine ⟨m,h,abO ?_,by omega,by omega⟩
  unfold Sh Ga F9
  rw[e1,e2,xI,lp,xJ,ic (by omega),cond_true,mc (by omega),cond_false]
  simp only[un]
  rw[q]
  exact hf
theorem Rh {a b M:Nat} (Ri:1≤M) (hM:M≤2*(b-a)) (h8:8≤b-a) (hB:b<1152921504606846976): ∀(n i:Nat) (d:Array Ed) (r:Int),a+2*((b-a)/4)+2-i=n→a≤i→b≤d.size→d.size<1152921504606846976→
  ∃x y z R,Loop (KM CC a (b-a:Nat) M) ((i:Int),eA d,r)=some (x,y,eA R,z)∧PermIn a b d R:=by
 have e2:IntKind.wrap .i64 (Int.tdiv ((b-a:Nat):Int) 4)=(((b-a)/4:Nat):Int):=by rw[xH,wrap64 (by omega) (by omega)]
 have lp:IntKind.wrap .i64 ((a:Int)+IntKind.wrap .i64 (2*(((b-a)/4:Nat):Int)))=((a+2*((b-a)/4):Nat):Int):=by
  have:=mulC 2 ((b-a)/4)
  rw[show ((2:Nat):Int)=2 from rfl] at this
  rw[this]
  simp (disch:=omega) only[wrap64,db]
 intro n
 induction n with
 | zero=>
  intro i d r hn hi hb hs
  refine ⟨(i:Int),false,r,d,bd ?_,permIn_refl _ _ _⟩
  simp only[KM,Gb,un]
  rw[e2,lp,bU,wrap64 (by omega) (by omega),mc (by omega),cond_false]
 | succ n ih=>
  intro i d r hn hi hb hs
  obtain ⟨R1,q1,q2⟩:=Rf r
  obtain ⟨o,ho,nT⟩: ∃o:Nat,(o=if R1&&&(M-1)≥b-a then (R1&&&(M-1))-(b-a) else R1&&&(M-1))∧o<b-a:=by
   refine ⟨_,rfl,?_⟩
   have:R1&&&(M-1)≤M-1:=Nat.and_le_right
   split<;>omega
  have hand:R1&&&(M-1)≤M-1:=Nat.and_le_right
  have hP:=swp_permIn (α:=Ed) d a b i (a+o) hi (by omega) (by omega) (by omega) hb
  obtain ⟨x,y,z,R,e,hR⟩:=ih (i+1) (swp d i (a+o)) (R1:Int) (by omega) (by omega) (by rw[size_swp];exact hb) (by rw[size_swp];exact hs)
  refine ⟨x,y,z,R,(cM ?_).trans e,permIn_trans _ _ _ a b hP hR⟩
  simp only[KM,Gb,un]
  rw[e2,lp,bU,wrap64 (x:=((a+2*((b-a)/4)+1:Nat):Int)) (by omega) (by omega),ic (by omega),cond_true,q1]
  simp only[Option.bind_some,V.bz,V.kH,V.toInt_int,ji,ig]
  have e5:IntKind.wrap .u64 ((M:Int)-1)=((M-1:Nat):Int):=by rw[fl Ri,qe (by omega)]
  rw[e5,u64_and q2 (by omega),wrap64 (x:=((R1&&&(M-1):Nat):Int)) (by omega) (by omega)]
  have fin: ∀k:Int,k=(o:Int)→(bif (decide (0≤(IntKind.wrap .i64 ((a:Int)+k))))&&(decide ((IntKind.wrap .i64 ((a:Int)+k))<((eA d).length:Int))) then
   ((eA d)[(IntKind.wrap .i64 ((a:Int)+k):Int).toNat]?).bind fun x4=>
   bif (decide (0≤(i:Int)))&&(decide ((i:Int)<((eA d).length:Int))) then
    ((eA d)[((i:Int):Int).toNat]?).bind fun x5=>
    bif (decide (0≤(i:Int)))&&(decide ((i:Int)<((eA d).length:Int))) then
    ((eA d)[((i:Int):Int).toNat]?).bind fun x6=>
    bif (decide (0≤(IntKind.wrap .i64 ((a:Int)+k))))&&(decide ((IntKind.wrap .i64 ((a:Int)+k))<(((eA d).set (((i:Int):Int).toNat) (.agg [.int .i64 ((x4.cell 0).toInt),.int .i64 ((x4.cell 1).toInt),.int .i64 ((x4.cell 2).toInt)])).length:Int))) then
     (((eA d).set (((i:Int):Int).toNat) (.agg [.int .i64 ((x4.cell 0).toInt),.int .i64 ((x4.cell 1).toInt),.int .i64 ((x4.cell 2).toInt)]))[(IntKind.wrap .i64 ((a:Int)+k):Int).toNat]?).bind fun x7=>
     some (.inl (IntKind.wrap .i64 ((i:Int)+1),((eA d).set (((i:Int):Int).toNat) (.agg [.int .i64 ((x4.cell 0).toInt),.int .i64 ((x4.cell 1).toInt),.int .i64 ((x4.cell 2).toInt)])).set ((IntKind.wrap .i64 ((a:Int)+k):Int).toNat) (.agg [.int .i64 ((x5.cell 0).toInt),.int .i64 ((x5.cell 1).toInt),.int .i64 ((x5.cell 2).toInt)]),(R1:Int)))
    else none
    else none
   else none
   else none:Option ((Int × List V × Int) ⊕ (Int × Bool × List V × Int)))=some (.inl (((i+1:Nat):Int),eA (swp d i (a+o)),(R1:Int))):=by
   intro k hk
   subst hk
   simp (disch:=omega) only[aw,cE,dF,ag,ah,wrap64,bU,db,Int.toNat_natCast,Option.bind_some,c9,dd,Ed.b7,Ed.b8,Ed.b9,Ed.re,da,dN,dE,iw,V.bz,V.toInt_int,cond_true,cond_false]
   rfl
  unfold KL
  by_cases h:R1&&&(M-1)≥b-a
  ·rw[ag h] at ho
   rw[ic (by omega),cond_true]
   exact fin _ (by rw[gv (by omega),wrap64 (by omega) (by omega)];omega)
  ·rw[ah h] at ho
   rw[mc (by omega),cond_false]
   exact fin _ (by omega)
theorem Rj {a b:Nat} {d:Array Ed} (cY:a+12<b) (hb:b≤d.size) (hs:d.size<1152921504606846976): ∃R,CC CT [.int .i64 (a:Int),.int .i64 (b:Int),.list ak (eA d)]=some [.list ak (eA R)]∧PermIn a b d R:=by
 obtain ⟨M,q1,q2,q3⟩:=Re (x:=b-a) (by omega) (by omega)
 have e1:IntKind.wrap .i64 ((b:Int)-(a:Int))=((b-a:Nat):Int):=by rw[gv (by omega),wrap64 (by omega) (by omega)]
 have e2:IntKind.wrap .i64 (Int.tdiv ((b-a:Nat):Int) 4)=(((b-a)/4:Nat):Int):=by rw[xH,wrap64 (by omega) (by omega)]
 have lp:IntKind.wrap .i64 ((a:Int)+IntKind.wrap .i64 (2*(((b-a)/4:Nat):Int)))=((a+2*((b-a)/4):Nat):Int):=by
  have:=mulC 2 ((b-a)/4)
  rw[show ((2:Nat):Int)=2 from rfl] at this
  rw[this]
  simp (disch:=omega) only[wrap64,db]
 obtain ⟨x,y,z,R,e,hR⟩:=Rh (a:=a) (b:=b) (M:=M) q2 q3 (by omega) (by omega) _ (a+2*((b-a)/4)-1) d (IntKind.wrap .u64 ((b-a:Nat):Int)) rfl (by omega) hb hs
 refine ⟨R,amY ?_,hR⟩
 unfold abU
 rw[e1,aw,ag (by omega),q1]
 simp only[Option.bind_some,V.bz,V.toInt_int]
 rw[e2,lp,fl (by omega),wrap64 (x:=((a+2*((b-a)/4)-1:Nat):Int)) (by omega) (by omega),e]
 rfl
noncomputable def lu (C:ae) (a b':Int) (cv cG:Bool) (bm bS:Int) (gj:List V) {β:Type} (kn:(Int × Int × Int × Bool × Bool × (List V))→Option β):Option β:=
      bif decide ((a:Int)>0) then
       bif (decide (0≤(IntKind.wrap .i64 (a-1))))&&(decide ((IntKind.wrap .i64 (a-1))<(gj.length:Int))) then
       (gj[(IntKind.wrap .i64 (a-1):Int).toNat]?).bind fun eP=>
       bif (decide (0≤bS))&&(decide (bS<(gj.length:Int))) then
        (gj[(bS:Int).toNat]?).bind fun iB=>
        (C bC [.int .i64 ((eP.cell 0).toInt),.int .i64 ((eP.cell 1).toInt),.int .i64 ((eP.cell 2).toInt),.int .i64 ((iB.cell 0).toInt),.int .i64 ((iB.cell 1).toInt),.int .i64 ((iB.cell 2).toInt)]).bind fun fA=>
        bif !(decide ((((V.nth fA 0).toInt):Int)<0)) then
        (C uW [.int .i64 a,.int .i64 b',.int .i64 bS,.list ak gj]).bind fun iL=>
        kn ((V.nth iL 0).toInt,b',bm,cv,cG,(V.nth (iL.drop 1) 0).toList)
        else
        (C oh [.int .i64 a,.int .i64 b',.int .i64 bS,.list ak gj]).bind fun cu=>
        bif decide (((IntKind.wrap .i64 (((V.nth cu 0).toInt)-a)):Int)<(IntKind.wrap .i64 (b'-((V.nth cu 0).toInt)))) then
         (C iv [.int .i64 a,.int .i64 ((V.nth cu 0).toInt),.int .i64 bm,.list ak ((V.nth (cu.drop 2) 0).toList)]).bind fun mP=>
         kn (IntKind.wrap .i64 (((V.nth cu 0).toInt)+1),b',bm,decide (((IntKind.wrap .i64 (((V.nth cu 0).toInt)-a)):Int)≥(IntKind.wrap .i64 (Int.tdiv (IntKind.wrap .i64 (b'-a)) 8))),(V.nth (cu.drop 1) 0).toBool,(V.nth mP 0).toList)
        else
         (C iv [.int .i64 (IntKind.wrap .i64 (((V.nth cu 0).toInt)+1)),.int .i64 b',.int .i64 bm,.list ak ((V.nth (cu.drop 2) 0).toList)]).bind fun dJ=>
         kn (a,(V.nth cu 0).toInt,bm,decide (((IntKind.wrap .i64 (b'-((V.nth cu 0).toInt))):Int)≥(IntKind.wrap .i64 (Int.tdiv (IntKind.wrap .i64 (b'-a)) 8))),(V.nth (cu.drop 1) 0).toBool,(V.nth dJ 0).toList)
       else none
       else none
      else
       (C oh [.int .i64 a,.int .i64 b',.int .i64 bS,.list ak gj]).bind fun eS=>
       bif decide (((IntKind.wrap .i64 (((V.nth eS 0).toInt)-a)):Int)<(IntKind.wrap .i64 (b'-((V.nth eS 0).toInt)))) then
       (C iv [.int .i64 a,.int .i64 ((V.nth eS 0).toInt),.int .i64 bm,.list ak ((V.nth (eS.drop 2) 0).toList)]).bind fun oB=>
       kn (IntKind.wrap .i64 (((V.nth eS 0).toInt)+1),b',bm,decide (((IntKind.wrap .i64 (((V.nth eS 0).toInt)-a)):Int)≥(IntKind.wrap .i64 (Int.tdiv (IntKind.wrap .i64 (b'-a)) 8))),(V.nth (eS.drop 1) 0).toBool,(V.nth oB 0).toList)
       else
       (C iv [.int .i64 (IntKind.wrap .i64 (((V.nth eS 0).toInt)+1)),.int .i64 b',.int .i64 bm,.list ak ((V.nth (eS.drop 2) 0).toList)]).bind fun fa=>
       kn (a,(V.nth eS 0).toInt,bm,decide (((IntKind.wrap .i64 (b'-((V.nth eS 0).toInt))):Int)≥(IntKind.wrap .i64 (Int.tdiv (IntKind.wrap .i64 (b'-a)) 8))),(V.nth (eS.drop 1) 0).toBool,(V.nth fa 0).toList)
theorem tO (C:ae) (a b' er:Int) (cv cG:Bool) (ab:List V) {β:Type} (kn:(Int × Int × Int × Bool × Bool × (List V))→Option β) (kr:(List V)→Option β):
  rO C a b' er cv cG ab kn kr=
 bif decide (((IntKind.wrap .i64 (b'-a)):Int)≤12) then
  (C zo [.int .i64 a,.int .i64 b',.list ak ab]).bind fun r1=>
  kr ((V.nth r1 0).toList)
 else
  bif (er:Int)==0 then
  (C zp [.int .i64 a,.int .i64 b',.list ak ab]).bind fun r2=>
  kr ((V.nth r2 0).toList)
  else
  AT C a b' er cv cG (IntKind.wrap .i64 (b'-a)) (!cv) ab (un fun (bm:Int) (qn:List V)=>
   (C zq [.list ak qn,.int .i64 a,.int .i64 b']).bind fun r6=>
   AU C a b' bm cv cG (IntKind.wrap .i64 (b'-a)) ((V.nth r6 0).toInt) ((V.nth (r6.drop 1) 0).toInt) ((((V.nth (r6.drop 1) 0).toInt):Int)==2) qn (un fun (bS:Int)=>un fun (xC:Int) (iA:List V)=>
    bif cv then
     bif cG then
     oI C a b' bm cv cG (IntKind.wrap .i64 (b'-a)) bS ((xC:Int)==1) iA (dm (un fun (J3:Bool) (xK:List V)=>
      kr xK) (fun (gj:List V)=>lu C a b' cv cG bm bS gj kn))
     else
     oI C a b' bm cv cG (IntKind.wrap .i64 (b'-a)) bS false iA (dm (un fun (ak5:Bool) (Rk:List V)=>
      kr Rk) (fun (Rl:List V)=>lu C a b' cv cG bm bS Rl kn))
    else
     oI C a b' bm cv cG (IntKind.wrap .i64 (b'-a)) bS false iA (dm (un fun (ak6:Bool) (Rm:List V)=>
      kr Rm) (fun (Rn:List V)=>lu C a b' cv cG bm bS Rn kn)))):=rfl
section
variable {a b:Nat} {lim:Int} {wb wp:Bool}
theorem Ro {d:Array Ed} (cY:a+12<b) (hb:b≤d.size) (hs:d.size<1152921504606846976) (len:Int) (t:Bool): ∃(l1:Int) (d1:Array Ed),PermIn a b d d1∧∀(β:Type) (kr:(Int × List V)→Option β),AT CC a b lim wb wp len t (eA d) kr=kr (l1,eA d1):=by
 cases t with
 | true=>
  obtain ⟨R,e,hR⟩:=Rj cY hb hs
  refine ⟨IntKind.wrap .i64 (lim-1),R,hR,fun β kr=> ?_⟩
  unfold AT
  rw[cond_true,e]
  rfl
 | false=>exact ⟨lim,d,permIn_refl _ _ _,fun β kr=>rfl⟩
theorem Rp {d:Array Ed} (cY:a+12<b) (hb:b≤d.size) (hs:d.size<1152921504606846976) (len h:Int) (t:Bool) {p:Nat} (h1:a≤p) (h2:p<b): ∃(p2:Nat) (h2:Int) (d1:Array Ed),a≤p2∧p2<b∧PermIn a b d d1∧∀(β:Type) (kr:(Int × Int × List V)→Option β),AU CC a b lim wb wp len p h t (eA d) kr=kr ((p2:Int),h2,eA d1):=by
 cases t with
 | true=>
  refine ⟨b-1-(p-a),1,reverseRange d a b,by omega,by omega,reverseRange_holds d a b (by omega) hb,fun β kr=> ?_⟩
  unfold AU
  rw[cond_true,Qt (by omega) hb hs]
  simp (disch:=omega) only[Option.bind_some,V.bz,V.la,fl,gv,wrap64]
 | false=>exact ⟨p,h,d,h1,h2,permIn_refl _ _ _,fun β kr=>rfl⟩
theorem Rq {d:Array Ed} (cY:a+12<b) (hb:b≤d.size) (hs:d.size<1152921504606846976) (hB:Below ai a b d) (len p:Int) (t:Bool): ∃d1:Array Ed,PermIn a b d d1∧
  ((∀(β:Type) (kr:((Bool × List V) ⊕ List V)→Option β),oI CC a b lim wb wp len p t (eA d) kr=kr (.inr (eA d1)))∨
  (SortedIn ai a b d1∧∀(β:Type) (kr:((Bool × List V) ⊕ List V)→Option β),oI CC a b lim wb wp len p t (eA d) kr=kr (.inl (true,eA d1)))):=by
 cases t with
 | true=>
  have hp:=partialInsertionSort_holds (lt:=ai) oC d a b (by omega) hb hB
  refine ⟨_,hp.1,?_⟩
  cases h:(partialInsertionSort ai d a b).2 with
  | true=>
   refine .inr ⟨hp.2 h,fun β kr=> ?_⟩
   unfold oI
   rw[cond_true,Fc (by omega) hb hs,h]
   rfl
  | false=>
   refine .inl fun β kr=> ?_
   unfold oI
   rw[cond_true,Fc (by omega) hb hs,h]
   rfl
 | false=>exact ⟨d,permIn_refl _ _ _,.inl fun β kr=>rfl⟩
end
def tP (a b:Nat) (d:Array Ed):Prop:= ∀(lim:Int) (wb wp:Bool),∃R,Loop (abV CC) ((a:Int),(b:Int),lim,wb,wp,eA d)=some (eA R)∧PermIn a b d R∧SortedIn ai a b R
theorem tP.call {a b:Nat} {d:Array Ed} (h:tP a b d) (lim:Int): ∃R,CC iv [.int .i64 (a:Int),.int .i64 (b:Int),.int .i64 lim,.list ak (eA d)]=some [.list ak (eA R)]∧PermIn a b d R∧SortedIn ai a b R:=by
 obtain ⟨R,e,h1,h2⟩:=h lim true true
 refine ⟨R,am3 ?_,h1,h2⟩
 unfold abX
 rw[e]
 rfl
theorem Rr {a b p:Nat} {d:Array Ed} (cY:a+12<b) (hb:b≤d.size) (hs:d.size<1152921504606846976) (hB:Below ai a b d) (h1:a≤p) (h2:p<b)
  (ih: ∀(a2 b2:Nat) (d2:Array Ed),b2-a2<b-a→a2≤b2→b2≤d2.size→d2.size<1152921504606846976→Below ai a2 b2 d2→tP a2 b2 d2) (wb wp:Bool) (lim:Int):
  ∃(a2 b2:Nat) (mQ mR:Bool) (d2:Array Ed),b2-a2<b-a∧a2≤b2∧b2≤d2.size∧d2.size<1152921504606846976∧Below ai a2 b2 d2∧
   (∀R,PermIn a2 b2 d2 R→SortedIn ai a2 b2 R→PermIn a b d R∧SortedIn ai a b R)∧
   ∀(β:Type) (kn:(Int × Int × Int × Bool × Bool × (List V))→Option β),lu CC a b wb wp lim p (eA d) kn=kn ((a2:Int),(b2:Int),lim,mQ,mR,eA d2):=by
 have part: ∃(a2 b2:Nat) (mQ mR:Bool) (d2:Array Ed),b2-a2<b-a∧a2≤b2∧b2≤d2.size∧d2.size<1152921504606846976∧Below ai a2 b2 d2∧
   (∀R,PermIn a2 b2 d2 R→SortedIn ai a2 b2 R→PermIn a b d R∧SortedIn ai a b R)∧
   ∀(β:Type) (kn:(Int × Int × Int × Bool × Bool × (List V))→Option β),
    ((CC oh [.int .i64 (a:Int),.int .i64 (b:Int),.int .i64 (p:Int),.list ak (eA d)]).bind fun cu=>
        bif decide (((IntKind.wrap .i64 (((V.nth cu 0).toInt)-(a:Int))):Int)<(IntKind.wrap .i64 ((b:Int)-((V.nth cu 0).toInt)))) then
         (CC iv [.int .i64 (a:Int),.int .i64 ((V.nth cu 0).toInt),.int .i64 lim,.list ak ((V.nth (cu.drop 2) 0).toList)]).bind fun mP=>
         kn (IntKind.wrap .i64 (((V.nth cu 0).toInt)+1),(b:Int),lim,decide (((IntKind.wrap .i64 (((V.nth cu 0).toInt)-(a:Int))):Int)≥(IntKind.wrap .i64 (Int.tdiv (IntKind.wrap .i64 ((b:Int)-(a:Int))) 8))),(V.nth (cu.drop 1) 0).toBool,(V.nth mP 0).toList)
        else
         (CC iv [.int .i64 (IntKind.wrap .i64 (((V.nth cu 0).toInt)+1)),.int .i64 (b:Int),.int .i64 lim,.list ak ((V.nth (cu.drop 2) 0).toList)]).bind fun dJ=>
         kn ((a:Int),(V.nth cu 0).toInt,lim,decide (((IntKind.wrap .i64 ((b:Int)-((V.nth cu 0).toInt))):Int)≥(IntKind.wrap .i64 (Int.tdiv (IntKind.wrap .i64 ((b:Int)-(a:Int))) 8))),(V.nth (cu.drop 1) 0).toBool,(V.nth dJ 0).toList))=kn ((a2:Int),(b2:Int),lim,mQ,mR,eA d2):=by
  obtain ⟨mid,ap,d4,hx⟩: ∃mid ap d4,partition ai d a b p=(mid,ap,d4):=⟨_,_,_,rfl⟩
  obtain ⟨g1,g2,iD,Rs,Rt,Ru,Rv⟩:=round_part oC (partition_holds ai) h1 h2 hb hB hx
  have hc:=QG (a:=a) (b:=b) (pivot:=p) (d:=d) h2 (by omega) hb hs
  rw[hx] at hc
  by_cases hl:mid-a<b-mid
  ·obtain ⟨L,e,l1,l2⟩:=(ih a mid d4 (by omega) g1 (by rw[iD];omega) (by rw[iD];exact hs) Rs).call lim
   obtain ⟨xL,kL⟩:=Ru _ l1 l2
   refine ⟨mid+1,b,decide (((IntKind.wrap .i64 ((mid:Int)-(a:Int))):Int)≥(IntKind.wrap .i64 (Int.tdiv (IntKind.wrap .i64 ((b:Int)-(a:Int))) 8))),ap,L,by omega,by omega,by rw[l1.1,iD];exact hb,by rw[l1.1,iD];exact hs,xL,kL,fun β kn=> ?_⟩
   ·rw[hc]
    simp only[Option.bind_some,V.bz,V.kH,V.toInt_int,V.oe,V.la,ji,ig]
    rw[aw,ag (by rw[gv g1,gv (by omega),wrap64 (by omega) (by omega),wrap64 (by omega) (by omega)];omega),e]
    simp only[Option.bind_some,V.bz,V.la]
    rw[bU,wrap64 (x:=((mid+1:Nat):Int)) (by omega) (by omega)]
  ·obtain ⟨L,e,l1,l2⟩:=(ih (mid+1) b d4 (by omega) (by omega) (by rw[iD];exact hb) (by rw[iD];exact hs) Rt).call lim
   obtain ⟨xL,kL⟩:=Rv _ l1 l2
   refine ⟨a,mid,decide (((IntKind.wrap .i64 ((b:Int)-(mid:Int))):Int)≥(IntKind.wrap .i64 (Int.tdiv (IntKind.wrap .i64 ((b:Int)-(a:Int))) 8))),ap,L,by omega,by omega,by rw[l1.1,iD];omega,by rw[l1.1,iD];exact hs,xL,kL,fun β kn=> ?_⟩
   ·rw[hc]
    simp only[Option.bind_some,V.bz,V.kH,V.toInt_int,V.oe,V.la,ji,ig]
    rw[aw,ah (by rw[gv g1,gv (by omega),wrap64 (by omega) (by omega),wrap64 (by omega) (by omega)];omega),bU,wrap64 (x:=((mid+1:Nat):Int)) (by omega) (by omega),e]
    simp only[Option.bind_some,V.bz,V.la]
 by_cases ha:0<a
 ·by_cases hc:aR d[a-1]! d[p]! <0
  ·obtain ⟨a2,b2,mQ,mR,d2,q1,q2,q3,q4,q5,q6,q7⟩:=part
   refine ⟨a2,b2,mQ,mR,d2,q1,q2,q3,q4,q5,q6,fun β kn=> ?_⟩
   rw[←q7 β kn]
   unfold lu
   rw[aw,ag (by omega),fl ha,wrap64 (by omega) (by omega),fb (i:=a-1) (by omega),fc (by omega),fb (i:=p) (by omega),fc (by omega)]
   simp only[Ed.b7,Ed.b8,Ed.b9,iw,Option.bind_some,V.bz,V.toInt_int]
   rw[dF,aw,ag hc]
  ·obtain ⟨mid,d4,hx⟩: ∃mid d4,partitionEqual ai d a b p=(mid,d4):=⟨_,_,rfl⟩
   obtain ⟨g1,sk,iD,Rw,kL⟩:=round_eq oC (partitionEqual_holds ai) ha h1 h2 hb hB (by rw[tL,←propext (zH _ _)];exact hc) hx
   have he:=QI (a:=a) (b:=b) (pivot:=p) (d:=d) h2 (by omega) hb hs
   rw[hx] at he
   refine ⟨mid,b,wb,wp,d4,by omega,sk,by rw[iD];exact hb,by rw[iD];exact hs,Rw,kL,fun β kn=> ?_⟩
   unfold lu
   rw[aw,ag (by omega),fl ha,wrap64 (by omega) (by omega),fb (i:=a-1) (by omega),fc (by omega),fb (i:=p) (by omega),fc (by omega)]
   simp only[Ed.b7,Ed.b8,Ed.b9,iw,Option.bind_some,V.bz,V.toInt_int]
   rw[dF,aw,ah hc,he]
   rfl
 ·obtain ⟨a2,b2,mQ,mR,d2,q1,q2,q3,q4,q5,q6,q7⟩:=part
  refine ⟨a2,b2,mQ,mR,d2,q1,q2,q3,q4,q5,q6,fun β kn=> ?_⟩
  rw[←q7 β kn]
  unfold lu
  rw[aw,ah (by omega)]
theorem Rx: ∀(n a b:Nat) (d:Array Ed),b-a≤n→a≤b→b≤d.size→d.size<1152921504606846976→Below ai a b d→tP a b d:=by
 intro n
 induction n with
 | zero=>
  intro a b d hn cY hb hs hB lim wb wp
  have hi:=insertionSort_holds (lt:=ai) oC d a b cY hb
  refine ⟨_,bd ?_,hi⟩
  show rO CC a b lim wb wp (eA d) (fun y=>some (Sum.inl y)) (fun r=>some (Sum.inr r))=_
  rw[tO,aw,ag (by rw[gv cY,wrap64 (by omega) (by omega)];omega),EI hb hs (by omega)]
  rfl
 | succ n ih=>
  intro a b d hn cY hb hs hB lim wb wp
  by_cases h12:b-a≤12
  ·have hi:=insertionSort_holds (lt:=ai) oC d a b cY hb
   refine ⟨_,bd ?_,hi⟩
   show rO CC a b lim wb wp (eA d) (fun y=>some (Sum.inl y)) (fun r=>some (Sum.inr r))=_
   rw[tO,aw,ag (by rw[gv cY,wrap64 (by omega) (by omega)];omega),EI hb hs (by omega)]
   rfl
  ·have qo:a+12<b:=by omega
   have p7: ¬(((IntKind.wrap .i64 ((b:Int)-(a:Int))):Int)≤12):=by rw[gv cY,wrap64 (by omega) (by omega)];omega
   by_cases h0:lim=0
   ·have hi:=heapSort_holds (lt:=ai) oC d a b cY hb
    refine ⟨_,bd ?_,hi⟩
    show rO CC a b lim wb wp (eA d) (fun y=>some (Sum.inl y)) (fun r=>some (Sum.inr r))=_
    rw[tO,aw,ah p7,lV,ag h0,Qr (by omega) hb hs]
    rfl
   ·obtain ⟨l1,d1,s1,k1⟩:=Ro (lim:=lim) (wb:=wb) (wp:=wp) qo hb hs (IntKind.wrap .i64 ((b:Int)-(a:Int))) (!wb)
    have b1:b≤d1.size:=by rw[s1.1];exact hb
    have z1:d1.size<1152921504606846976:=by rw[s1.1];exact hs
    obtain ⟨p,h,c1,p1,p2⟩:=Rg qo b1 z1
    obtain ⟨q,h2,d2,q1,q2,s2,k2⟩:=Rp (lim:=l1) (wb:=wb) (wp:=wp) qo b1 z1 (IntKind.wrap .i64 ((b:Int)-(a:Int))) h (h==2) p1 p2
    have b2:b≤d2.size:=by rw[s2.1];exact b1
    have z2:d2.size<1152921504606846976:=by rw[s2.1];exact z1
    have B2:Below ai a b d2:=(hB.perm hb s1).perm b1 s2
    obtain ⟨t,ht⟩: ∃t:Bool,t=(bif wb then (bif wp then (h2==1) else false) else false):=⟨_,rfl⟩
    obtain ⟨d3,s3,k3⟩:=Rq (lim:=l1) (wb:=wb) (wp:=wp) qo b2 z2 B2 (IntKind.wrap .i64 ((b:Int)-(a:Int))) (q:Int) t
    have b3:b≤d3.size:=by rw[s3.1];exact b2
    have z3:d3.size<1152921504606846976:=by rw[s3.1];exact z2
    have B3:Below ai a b d3:=B2.perm b2 s3
    have P3:PermIn a b d d3:=permIn_trans _ _ _ a b (permIn_trans _ _ _ a b s1 s2) s3
    have step: ∀(β:Type) (kn:(Int × Int × Int × Bool × Bool × (List V))→Option β) (kr:(List V)→Option β),rO CC a b lim wb wp (eA d) kn kr=
      oI CC a b l1 wb wp (IntKind.wrap .i64 ((b:Int)-(a:Int))) (q:Int) t (eA d2) (dm (un fun (J3:Bool) (xK:List V)=>kr xK) (fun (gj:List V)=>lu CC a b wb wp l1 q gj kn)):=by
     intro β kn kr
     rw[tO,aw,ah p7,lV,ah h0,k1]
     simp only[un]
     rw[c1]
     simp only[Option.bind_some,V.bz,V.kH,V.toInt_int,ji,ig]
     rw[k2]
     simp only[un]
     rw[ht]
     cases wb
     ·rfl
     ·cases wp
      ·rfl
      ·rfl
    rcases k3 with k3|⟨Ry,k3⟩
    ·obtain ⟨a4,b4,Rz,RA,d4,r1,r2,r3,r4,r5,r6,r7⟩:=Rr qo b3 z3 B3 q1 q2 (fun a2 b2 d2 aX h1 h2 h3 h4=>ih a2 b2 d2 (by omega) h1 h2 h3 h4) wb wp l1
     obtain ⟨R,e,e1,e2⟩:=ih a4 b4 d4 (by omega) r2 r3 r4 r5 l1 Rz RA
     obtain ⟨f1,f2⟩:=r6 R e1 e2
     refine ⟨R,(cM ?_).trans e,permIn_trans _ _ _ a b P3 f1,f2⟩
     show rO CC a b lim wb wp (eA d) (fun y=>some (Sum.inl y)) (fun r=>some (Sum.inr r))=_
     rw[step,k3]
     exact r7 _ (fun y=>some (Sum.inl y))
    ·refine ⟨d3,bd ?_,P3,Ry⟩
     show rO CC a b lim wb wp (eA d) (fun y=>some (Sum.inl y)) (fun r=>some (Sum.inr r))=_
     rw[step,k3]
     rfl
theorem am5 (l:List Ed) (hs:l.length<1152921504606846976): ∃R:List Ed,CC Nj [.list ak (l.map Ed.enc)]=some [.list ak (R.map Ed.enc)]∧R.Perm l∧R.Pairwise (fun x y=> ¬y.lt x):=by
 obtain ⟨L,e1,_⟩:=Fo (x:=l.length) (by omega)
 obtain ⟨R,e2,h1,h2⟩:=(Rx _ 0 l.toArray.size l.toArray (aE _) (jG _) (aE _) (by simpa using hs) (.inl rfl)).call (L:Int)
 have a9:R.size=l.length:=by rw[h1.1];simp
 refine ⟨R.toList,am4 ?_,?_,?_⟩
 ·unfold abY
  rw[cy,qe (A:=l.length) (by omega),e1]
  simp only[Option.bind_some,V.bz,V.toInt_int]
  have e3:eA l.toArray=l.map Ed.enc:=by simp[pw]
  rw[e3,show ((l.toArray.size:Nat):Int)=(l.length:Int) by simp,show ((0:Nat):Int)=0 from rfl] at e2
  rw[e2]
  rfl
 ·have h3:=h1.2.2
  rw[show l.toArray.size=R.size from h1.1.symm,Gw,h1.1,Gw] at h3
  exact h3
 ·rw[vw]
  intro i j hi hj sH
  have h3:=h2 i j (jG _) sH (by simpa[←a9] using hj)
  rw[tL] at h3
  have eM:i<R.size:=by simpa using hi
  have hG:j<R.size:=by simpa using hj
  rw[Be R i eM,Be R j hG] at h3
  simpa using h3
end Go.AM
set_option maxRecDepth 100000
namespace Go.AM
open Go.Proofs
noncomputable abbrev vp:Code:=cA Tryd.prog (au.aU 78)
noncomputable def KO (C:ae) (p:Int) (row t31:List V) (t32 t33:Int) (t42:Bool) (bf bx:Int) (bK bH:List V) (dV dW ma lg br bj bu bq:Int) (gS eO:List V) {β:Type} (kr:(Int)→Option β):Option β:=
 bif t42 then
  bif decide (0≤p) then
  kr (IntKind.wrap .u64 ((BitVec.ofInt (IntKind.bits .u64) bq|||BitVec.ofInt (IntKind.bits .u64) (IntKind.wrap .u64 (1*2^(min p.toNat (IntKind.bits .u64))))).toNat))
  else none
 else
  kr bq
noncomputable def Gc (C:ae) (p:Int) (t31:List V) (t32 t33:Int) (t49:List V) (t50 bf bx:Int) (bK bH:List V) (dV dW ma lg br bj bu bq:Int) (gS:List V) (t51:Int) (eO:List V) {β:Type} (kn:(Int × (List V))→Option β) (kr:(Int × Bool × (List V))→Option β):Option β:=
 bif decide ((t51:Int)<t50) then
  (idx t49 t51).bind fun x5=>
  bif Nat.ble ((eO.length+([.agg [.int .i64 p,.int .i64 t51,.int .i64 x5.toInt]]:List V).length)*24) cz then
  kn (IntKind.wrap .i64 (t51+1),eO++([.agg [.int .i64 p,.int .i64 t51,.int .i64 x5.toInt]]:List V))
  else none
 else
  kr (t51,decide ((t51:Int)<t50),eO)
noncomputable def KP (C:ae) (p:Int) (t31:List V) (t32 t33:Int) (t49:List V) (t50 bf bx:Int) (bK bH:List V) (dV dW ma lg br bj bu bq:Int) (gS:List V):(Int × (List V))→Option ((Int × (List V)) ⊕ (Int × Bool × (List V))):=un fun t51 eO=>Gc C p t31 t32 t33 t49 t50 bf bx bK bH dV dW ma lg br bj bu bq gS t51 eO (fun y=>some (.inl y)) (fun r=>some (.inr r))
noncomputable def Gd (C:ae) (t31:List V) (t32 bf bx:Int) (bK bH:List V) (dV dW ma lg br bj bu:Int) (gS:List V) (t33 bq:Int) (eO:List V) {β:Type} (kn:(Int × Int × (List V))→Option β) (kr:(Int × Bool × Int × (List V))→Option β):Option β:=
 bif decide ((t33:Int)<t32) then
  (idx t31 t33).bind fun x2=>
  (idx bK t33).bind fun x3=>
  KO C t33 x2.toList t31 t32 t33 x3.toBool bf bx bK bH dV dW ma lg br bj bu bq gS eO (fun (rk:Int)=>
   (Loop (KP C t33 t31 t32 t33 x2.toList (x2.toList.length:Int) bf bx bK bH dV dW ma lg br bj bu rk gS) (0,eO)).bind (un fun (te:Int)=>un fun (pj:Bool) (b_8:List V)=>
    kn (IntKind.wrap .i64 (t33+1),rk,b_8)))
 else
  kr (t33,decide ((t33:Int)<t32),bq,eO)
noncomputable def Sj (C:ae) (t31:List V) (t32 bf bx:Int) (bK bH:List V) (dV dW ma lg br bj bu:Int) (gS:List V):(Int × Int × (List V))→Option ((Int × Int × (List V)) ⊕ (Int × Bool × Int × (List V))):=un fun t33=>un fun bq eO=>Gd C t31 t32 bf bx bK bH dV dW ma lg br bj bu gS t33 bq eO (fun y=>some (.inl y)) (fun r=>some (.inr r))
noncomputable def abZ (C:ae):cl:=fun β n ds k=>
 bif Nat.beq n 687 then jb NU [[1,2,3,4,5,7,8,9,10,11,12,13,14,15,16,17,0,19,20]] (@KO C) ds k else
 bif Nat.beq n 209 then bt NV [false,false,false,false,false,false,true,false,false,false,false,false,false,false,false,false,false,false,false,false,true] [[1,2,3,4,5,6,0,0,8,9,10,11,12,13,14,15,16,17,18,19,20,0]] (@Gc C) ds k else
 bif Nat.beq n 129 then bt NW [false,false,true,false,false,false,false,false,false,false,false,false,false,false,true,false,true] [[1,2,0,0,4,5,6,7,8,9,10,11,12,13,14,0,16,0]] (@Gd C) ds k else
 none
abbrev Sk (C:ae) (b:ch):Prop:=cj Tryd.prog au C (abZ C) 78 (cH Tryd.prog (au.aU 78)) (au.sin 78).aZ.length b
theorem am6 (C:ae):Sk C (.cond 42 (aq [1,1,1,1,0,1,0,0,1,1,0,0,1,0,1,0] vp) (aq [1,1,1,1,0,1,0,0,1,1,0,0,1,0,1,1] vp)):=
 jy NU [[1,2,3,4,5,7,8,9,10,11,12,13,14,15,16,17,0,19,20]] (@KO C) (by kernel_rfl) (aK (bs:=[]) (by kernel_rfl) ar) (aK (bs:=[]) (by kernel_rfl) ar) (fun ds=>by kernel_rfl) (fun i β k=>by kernel_rfl) (fun β ds k=>by kernel_rfl)
theorem am7 (C:ae):Sk C (.loop (aq [1,1,1,1,0,1,0,0,1,1,0,0,1,1,1,0,0] vp)):=
 bA NV [false,false,false,false,false,false,true,false,false,false,false,false,false,false,false,false,false,false,false,false,true] [[1,2,3,4,5,6,0,0,8,9,10,11,12,13,14,15,16,17,18,19,20,0]] (@Gc C) (by kernel_rfl) (aK (bs:=[]) (by kernel_rfl) ar) (fun ds=>by kernel_rfl) (fun i x=>by kernel_rfl) (fun i x β k=>by kernel_rfl) (fun β ds k=>by kernel_rfl)
theorem am8 (C:ae):Sk C (.loop (aq [1,1,1,1,0,1,0,0] vp)):=
 bA NW [false,false,true,false,false,false,false,false,false,false,false,false,false,false,true,false,true] [[1,2,0,0,4,5,6,7,8,9,10,11,12,13,14,0,16,0]] (@Gd C) (by kernel_rfl) (aK (bs:=[.cond 42 (aq [1,1,1,1,0,1,0,0,1,1,0,0,1,0,1,0] vp) (aq [1,1,1,1,0,1,0,0,1,1,0,0,1,0,1,1] vp),.loop (aq [1,1,1,1,0,1,0,0,1,1,0,0,1,1,1,0,0] vp)]) (by kernel_rfl) (aY (am6 C) (aY (am7 C) ar))) (fun ds=>by kernel_rfl) (fun i x=>by kernel_rfl) (fun i x β k=>by kernel_rfl) (fun β ds k=>by kernel_rfl)
noncomputable def Sl (C:ae) (ba bh:Int) (aM bc:List V):Option (List V):=
 (C pg [.int .i64 ba,.int .i64 bh,.list ay aM,.list aA bc]).bind fun r1=>
 bif (((V.nth r1 0).toInt):Int) != 0 then
  some [.int .i64 0,.int .i64 0,.int .u64 0,.int .u64 0,.int .i64 ((V.nth r1 0).toInt),.list ak ([]:List V)]
 else
  bif decide (((aM.length:Int):Int)>64) then
  some [.int .i64 0,.int .i64 0,.int .u64 0,.int .u64 0,.int .i64 3,.list ak ([]:List V)]
  else
  bif decide (0≤bh) then
   (Loop (Sj C bc (bc.length:Int) ba bh aM bc 0 0 0 0 ba (aM.length:Int) (IntKind.wrap .u64 (1*2^(min bh.toNat (IntKind.bits .u64)))) ([]:List V)) (0,0,([]:List V))).bind (un fun (pq:Int)=>un fun (YX:Bool)=>un fun (Sa:Int) (am9:List V)=>
    some [.int .i64 ba,.int .i64 (aM.length:Int),.int .u64 (IntKind.wrap .u64 (1*2^(min bh.toNat (IntKind.bits .u64)))),.int .u64 Sa,.int .i64 0,.list ak am9])
  else none
theorem ab0 {ba bh:Int} {aM bc:List V} {r:Option (List V)} (h:Sl CC ba bh aM bc=r):CC CM [.int .i64 ba,.int .i64 bh,.list ay aM,.list aA bc]=r:=
 bp (key:=78) (L:=abZ CC) (bs:=[.loop (aq [1,1,1,1,0,1,0,0] vp)]) (by kernel_rfl) (aY (am8 CC) ar) (bn (by kernel_rfl) h)
noncomputable abbrev ab1:Code:=cA Tryd.prog (au.aU 80)
noncomputable def Ge (C:ae) (t20:List V) (t21 dV dW ma lg ab2 ab3 ab4 ab5:Int) (dw:List V) (t22:Int) (gS:List V) {β:Type} (kn:(Int × (List V))→Option β) (kr:(Int × Bool × (List V))→Option β):Option β:=
 bif decide ((t22:Int)<t21) then
  (idx t20 t22).bind fun x2=>
  bif Nat.ble ((gS.length+([.agg [.int .i64 ((x2.cell 2).toInt),.int .i64 ((x2.cell 1).toInt),.int .i64 ((x2.cell 0).toInt)]]:List V).length)*24) cz then
  kn (IntKind.wrap .i64 (t22+1),gS++([.agg [.int .i64 ((x2.cell 2).toInt),.int .i64 ((x2.cell 1).toInt),.int .i64 ((x2.cell 0).toInt)]]:List V))
  else none
 else
  kr (t22,decide ((t22:Int)<t21),gS)
noncomputable def Sm (C:ae) (t20:List V) (t21 dV dW ma lg ab2 ab3 ab4 ab5:Int) (dw:List V):(Int × (List V))→Option ((Int × (List V)) ⊕ (Int × Bool × (List V))):=un fun t22 gS=>Ge C t20 t21 dV dW ma lg ab2 ab3 ab4 ab5 dw t22 gS (fun y=>some (.inl y)) (fun r=>some (.inr r))
noncomputable def ab6 (C:ae):cl:=fun β n ds k=>
 bif Nat.beq n 81 then bt NX [false,false,true,false,false,false,false,false,false,false,false,false,true] [[1,2,0,0,4,5,6,7,8,9,10,11,12,0]] (@Ge C) ds k else
 none
abbrev ana (C:ae) (b:ch):Prop:=cj Tryd.prog au C (ab6 C) 80 (cH Tryd.prog (au.aU 80)) (au.sin 80).aZ.length b
theorem anb (C:ae):ana C (.loop (aq [1,1,1,0,1,0,0] ab1)):=
 bA NX [false,false,true,false,false,false,false,false,false,false,false,false,true] [[1,2,0,0,4,5,6,7,8,9,10,11,12,0]] (@Ge C) (by kernel_rfl) (aK (bs:=[]) (by kernel_rfl) ar) (fun ds=>by kernel_rfl) (fun i x=>by kernel_rfl) (fun i x β k=>by kernel_rfl) (fun β ds k=>by kernel_rfl)
noncomputable def ab7 (C:ae) (en ft dM fM:Int) (eN:List V):Option (List V):=
 (C CP [.int .i64 en,.int .i64 ft,.int .u64 dM,.int .u64 fM,.list ak eN]).bind fun r1=>
 bif (((V.nth r1 0).toInt):Int) != 0 then
  some [.int .i64 0,.int .i64 0,.int .u64 0,.int .u64 0,.list ak ([]:List V)]
 else
  (Loop (Sm C eN (eN.length:Int) 0 0 0 0 en ft fM dM ([]:List V)) (0,([]:List V))).bind (un fun (lb:Int)=>un fun (lY:Bool) (b_5:List V)=>
   (C Nj [.list ak b_5]).bind fun r6=>
   some [.int .i64 en,.int .i64 ft,.int .u64 fM,.int .u64 dM,.list ak ((V.nth r6 0).toList)])
theorem anc {en ft dM fM:Int} {eN:List V} {r:Option (List V)} (h:ab7 CC en ft dM fM eN=r):CC IA [.int .i64 en,.int .i64 ft,.int .u64 dM,.int .u64 fM,.list ak eN]=r:=
 bp (key:=80) (L:=ab6 CC) (bs:=[.loop (aq [1,1,1,0,1,0,0] ab1)]) (by kernel_rfl) (aY (anb CC) ar) (bn (by kernel_rfl) h)
noncomputable def Sn (C:ae) (ba bh:Int) (aM bc:List V):Option (List V):=
 (C wS [.int .i64 ba,.int .i64 bh,.list ay aM,.list aA bc]).bind fun r1=>
 bif (((V.nth (r1.drop 2) 0).toInt):Int) != 0 then
  some [.int .i64 0,.int .i64 0,.int .i64 ((V.nth (r1.drop 2) 0).toInt),.list ay ([]:List V),.list aA ([]:List V)]
 else
  (C CM [.int .i64 ((V.nth r1 0).toInt),.int .i64 ((V.nth (r1.drop 1) 0).toInt),.list ay ((V.nth (r1.drop 3) 0).toList),.list aA ((V.nth ((r1.drop 3).drop 1) 0).toList)]).bind fun r2=>
  bif (((V.nth (r2.drop 4) 0).toInt):Int) != 0 then
  some [.int .i64 0,.int .i64 0,.int .i64 ((V.nth (r2.drop 4) 0).toInt),.list ay ([]:List V),.list aA ([]:List V)]
  else
  (C IA [.int .i64 ((V.nth r2 0).toInt),.int .i64 ((V.nth (r2.drop 1) 0).toInt),.int .u64 ((V.nth ((r2.drop 1).drop 1) 0).toInt),.int .u64 ((V.nth (((r2.drop 1).drop 1).drop 1) 0).toInt),.list ak ((V.nth (r2.drop 5) 0).toList)]).bind fun r3=>
  (C zk [.int .i64 ((V.nth r3 0).toInt),.int .i64 ((V.nth (r3.drop 1) 0).toInt),.int .u64 ((V.nth ((r3.drop 1).drop 1) 0).toInt),.int .u64 ((V.nth (((r3.drop 1).drop 1).drop 1) 0).toInt),.list ak ((V.nth (r3.drop 4) 0).toList)]).bind fun r4=>
  some [.int .i64 ((V.nth r4 0).toInt),.int .i64 ((V.nth (r4.drop 1) 0).toInt),.int .i64 ((V.nth (r4.drop 2) 0).toInt),.list ay ((V.nth (r4.drop 3) 0).toList),.list aA ((V.nth ((r4.drop 3).drop 1) 0).toList)]
theorem ab8 {ba bh:Int} {aM bc:List V} {r:Option (List V)} (h:Sn CC ba bh aM bc=r):CC qZ [.int .i64 ba,.int .i64 bh,.list ay aM,.list aA bc]=r:=
 bp (key:=46) (L:=di) (bs:=[]) (by kernel_rfl) ar (bn (by kernel_rfl) h)
theorem ane {a:Da} {off p:Nat}:lj (mf a off p):=by
 unfold mf tab lj
 rw[List.pairwise_map]
 refine List.Pairwise.imp ?_ List.pairwise_lt_range
 intro x y h
 show (eF (p+off) x (a.nx p x+off)).lt (eF (p+off) y (a.nx p y+off))
 exact .inr ⟨rfl,.inl (Int.ofNat_lt.2 h)⟩
theorem So {a:Da} {off:Nat}: ∀n,lj (fm n (mf a off))
 | 0=>List.Pairwise.nil
 | n+1=>by
  rw[Az]
  refine Gr.2 ⟨So n,ane,fun e he f hf=> ?_⟩
  obtain ⟨p,hp,he⟩:=RU.1 he
  obtain ⟨x,_,rfl⟩:=tp.1 he
  obtain ⟨y,_,rfl⟩:=tp.1 hf
  unfold Ed.lt eF
  simp only
  omega
theorem anf {a:Da}:qi (cg a 0)=cg a 0:=Kc (EA _) (So _) fun _=>vf
def AV (m:Da):Nf:=⟨m.L,m.n,2^m.st,eh 0 m.fin 0 m.n,cg m 0⟩
section
variable {m:Da} (hm:m.Ok)
include hm
theorem ang (hs:m.n≤64):rH m.L m.n (2^m.st) (eh 0 m.fin 0 m.n) (cg m 0) where
 l1:=hm.l1
 l6:=hm.l6
 pk:=hs
 st:=km (by omega) hm.s
 fin:=vk (yc _) (by omega)
 E:=fun e he=>AA hm (by omega) he
 len:=by
  have h1:=oF hm (off:=0) (n:=m.n)
  unfold cg
  omega
theorem anh (hs:m.n≤64):Nat6 (AV m) m.L m.n:=by
 have h:=oE (ang hm hs)
 unfold dg at h
 rw[anf] at h
 exact h
theorem ani (hs:m.n≤64):CC CM (dU m)=some [.int .i64 (m.L:Int),.int .i64 (m.n:Int),.int .u64 ((2^m.st:Nat):Int),.int .u64 (eh 0 m.fin 0 m.n:Int),.int .i64 0,.list ak ((cg m 0).map Ed.enc)]:=by
 have h6:=hm.l6
 have cd:=hm.s
 refine ab0 ?_
 unfold Sl
 refine bs (tt hm) (bF rfl ?_)
 rw[Da.lZ]
 refine bF (eG (by omega)) ?_
 refine bT (bX (by omega)) ?_
 rw[Int.toNat_natCast,w9 (by omega),show m.cO.length=m.n from gg]
 refine bs (tY m.n (fun i=>((i:Int),(eh 0 m.fin 0 i:Int),(fm i (mf m 0)).map Ed.enc)) ((m.n:Int),false,(eh 0 m.fin 0 m.n:Int),(cg m 0).map Ed.enc) rfl (fun p hp=> ?_) ?_) ?_
 ·have hlen:=oF hm (off:=0) (n:=p)
  have aX:=vk (f:=m.fin) (off:=0) (fin:=0) (k:=64) (by omega) (n:=p) (by omega)
  have key: ∀{c1 c2 c3 c4 c5 c6 c7 c8:Int} {l1:List V},Loop (KP CC (p:Int) m.cO (m.n:Int) (p:Int) (kK m.L (m.nx p)).toList ((kK m.L (m.nx p)).toList.length:Int) (m.L:Int) (m.st:Int) m.cZ m.cO c1 c2 c3 c4 c5 c6 c7 c8 l1) (0,(fm p (mf m 0)).map Ed.enc)=some ((m.L:Int),false,(fm p (mf m 0)++mf m 0 p).map Ed.enc):=by
   intro c1 c2 c3 c4 c5 c6 c7 c8 l1
   rw[show (kK m.L (m.nx p)).toList=tab m.L fun x=>nV (m.nx p x) from rfl,gg]
   refine tY m.L (fun i=>((i:Int),(fm p (mf m 0)++tab i fun x=>eF (p+0) x (m.nx p x+0)).map Ed.enc)) _ (by rw[PN,iQ];rfl) (fun x hx=> ?_) ?_
   ·simp only[KP,Gc,un]
    refine bT (eW hx) ?_
    refine bs (qg hx) ?_
    refine bT (cap (by rw[cy,dO,gg];simp;omega) (by omega)) ?_
    rw[show (nV (m.nx p x)).toInt=((m.nx p x:Nat):Int) from rfl,aa5,dI (by omega),va,←dK]
    rfl
   ·simp only[KP,Gc,un]
    refine bF (b6 (aE _)) ?_
    rw[b6 (aE _)]
    rfl
  simp only[Sj,Gd,un]
  refine bT (eW hp) ?_
  refine bs (qg hp) ?_
  refine bs (qg hp) ?_
  unfold KO
  rw[V.oe]
  cases hf:m.fin p with
  | true=>
   refine bT rfl (bT (bX (by omega)) ?_)
   rw[Int.toNat_natCast,w9 (by omega),u64_or aX (km (by omega) (by omega)),show eh 0 m.fin 0 (p+1)=eh 0 m.fin 0 p|||2^p from ag hf]
   refine bs key ?_
   simp only[un]
   rw[dI (by omega),Az]
  | false=>
   refine bF rfl ?_
   rw[show eh 0 m.fin 0 (p+1)=eh 0 m.fin 0 p from ah (by rw[hf];simp)]
   refine bs key ?_
   simp only[un]
   rw[dI (by omega),Az]
 ·simp only[Sj,Gd,un]
  refine bF (b6 (aE _)) ?_
  rw[b6 (aE _)]
  rfl
 ·rfl
theorem anj (hs:64<m.n):CC CM (dU m)=some [.int .i64 0,.int .i64 0,.int .u64 0,.int .u64 0,.int .i64 3,.list ak []]:=by
 refine ab0 ?_
 unfold Sl
 refine bs (tt hm) (bF rfl ?_)
 rw[Da.lZ]
 exact bT (bX (by omega)) rfl
theorem ank (hs:m.n≤64):CC IA (mD (AV m) [])=some (mD (FK m) []):=by
 have h6:=anh hm hs
 have hl:=oF hm (off:=0) (n:=m.n)
 refine anc ?_
 unfold ab7
 have hv:=Px _ h6.ok
 rw[h6.code] at hv
 refine bs hv (bF rfl ?_)
 have hll:(cg m 0).length≤m.n*6:=hl
 refine bs (tY (cg m 0).length (fun i=>((i:Int),(((cg m 0).take i).map Ed.rev).map Ed.enc)) (((cg m 0).length:Int),false,((cg m 0).map Ed.rev).map Ed.enc) rfl (fun i hi=> ?_) ?_) ?_
 ·have uj:((cg m 0).take i).length≤i:=List.length_take_le _ _
  simp only[Sm,Ge,un]
  refine bT (bX (show (i:Int)<(((AV m).E.map Ed.enc).length:Int) by rw[cy];show (i:Int)<((cg m 0).length:Int);omega)) ?_
  refine bs (Jd (E:=(AV m).E) hi) ?_
  have e1:(AV m).E.getD i default=(cg m 0)[i]:=XC hi
  rw[e1,Ed.b7,Ed.b8,Ed.b9]
  refine bT (cap (by simp;omega) (by omega)) ?_
  rw[dI (by omega),Bd hi,qt,qt]
  rfl
 ·simp only[Sm,Ge,un]
  have e2:decide (((cg m 0).length:Int)<(((AV m).E.map Ed.enc).length:Int))=false:=eG (by rw[cy];show¬((cg m 0).length:Int)<((cg m 0).length:Int);omega)
  refine bF e2 ?_
  rw[e2,ud]
 ·simp only[un]
  obtain ⟨R,e,hp,hr⟩:=am5 ((cg m 0).map Ed.rev) (by rw[cy];omega)
  refine bs e ?_
  have hn:((cg m 0).map Ed.rev).Nodup:=by
   have:=ajS (So (a:=m) (off:=0) m.n)
   rw[List.Nodup,List.pairwise_map]
   exact this.imp fun {x y} cY e=>cY (by have:=congrArg Ed.rev e;simpa using this)
  have hR:R=qi ((cg m 0).map Ed.rev):=Kc (ajT hp hn hr) (EA _) fun x=>by rw[vf,hp.mem_iff]
  rw[hR]
  rfl
end
section
variable {a:Da} (h:a.Ok)
include h
theorem anl (hs:(minD a).n≤64):CC qZ (dU a)=some (j7 (gR (FK (minD a)) a.L (minD a).n) (pA (FK (minD a)) a.L (minD a).n)):=by
 have hm:=jF h
 have hl:=RC (oE (abp hm hs))
 rw[lx h] at hl
 refine ab8 ?_
 unfold Sn
 refine bs (FC h) (bF rfl ?_)
 refine bs (ani hm hs) (bF rfl ?_)
 refine bs (ank hm hs) ?_
 unfold FK
 rw[lx h]
 refine bs hl ?_
 rfl
theorem anm (hs:64<(minD a).n):CC qZ (dU a)=some (j7 zD 3):=by
 have hm:=jF h
 refine ab8 ?_
 unfold Sn
 refine bs (FC h) (bF rfl ?_)
 refine bs (anj hm hs) (bT rfl ?_)
 rfl
theorem Gf:rL (CC qZ (dU a)) a.L (minD a).n fun w=>a.acc a.st w.reverse=true:=by
 have hm:=jF h
 have hL:=lx h
 by_cases hs:(minD a).n≤64
 ·have hr:=abp hm hs
  have he:=anl h hs
  unfold FK at he
  rw[←hL] at he⊢
  refine rL.of hr he fun w hw=> ?_
  rw[amk hm hw,pC h (hL▸hw.rev)]
 ·exact .inr ⟨anm h (by omega),by omega⟩
end
theorem WT.Sp {P:Program} {t:TypeId} {x:V} (hu:P.underlying t=some (.int .i64)) (h:WT P t x): ∃n:Int,x= .int .i64 n∧ -9223372036854775808≤n∧n≤9223372036854775807:=by
 obtain ⟨n,rfl,h1,h2⟩:=h.fq hu
 have e1:IntKind.min .i64= -9223372036854775808:=by decide
 have e2:IntKind.max .i64=9223372036854775807:=by decide
 rw[e1] at h1
 rw[e2] at h2
 exact ⟨n,rfl,h1,h2⟩
theorem ano {α:Type} {l:List α} (h:l.length=4): ∃a b c d,l=[a,b,c,d]:=by
 match l,h with
 | [a,b,c,d],_=>exact ⟨a,b,c,d,rfl⟩
theorem anp {x:V} (h:jw Tryd.prog aA x): ∃r:List Int,x=mE r∧(r.length≤maxLen∧∀q∈r,-9223372036854775808≤q∧q≤9223372036854775807):=by
 have hu:Tryd.prog.underlying aA=some (.slice bJ):=by kernel_rfl
 have hi:Tryd.prog.underlying bJ=some (.int .i64):=by kernel_rfl
 obtain ⟨es,rfl,e1,e2⟩:=WT.MZ hu (jw.one (by kernel_rfl) h)
 obtain ⟨r,rfl,hr⟩:=M0 (f:=iV) (p:=fun q=> -9223372036854775808≤q∧q≤9223372036854775807) fun y hy=>WT.Sp hi (jw.one (by kernel_rfl) (e2 y hy))
 exact ⟨r,rfl,by simpa using e1,hr⟩
def Df.enc (d:Df):V:= .agg (nG d [])
theorem Sw {t:TypeId} {x:V} (ha:bP Tryd.prog t=true) (he:a8 Tryd.prog t=[bJ,bJ,Ng,Nh]) (h:jw Tryd.prog t x): ∃d:Df,x=d.enc∧d.Ok:=by
 obtain ⟨xs,rfl,hl,hx⟩:=jw.mr ha h
 rw[he] at hl
 obtain ⟨a,b,c,d,rfl⟩:=ano hl
 have hu:Tryd.prog.underlying bJ=some (.int .i64):=by kernel_rfl
 have hb:Tryd.prog.underlying ay=some .bool:=by kernel_rfl
 have hv:Tryd.prog.underlying Ng=some (.slice ay):=by kernel_rfl
 have hw:Tryd.prog.underlying Nh=some (.slice aA):=by kernel_rfl
 obtain ⟨L,rfl,l1,l2⟩:=WT.Sp hu (hx 0 bJ a (by rw[he];rfl) rfl)
 obtain ⟨S,rfl,s1,s2⟩:=WT.Sp hu (hx 1 bJ b (by rw[he];rfl) rfl)
 obtain ⟨fs,rfl,f1,f2⟩:=WT.MZ hv (hx 2 Ng c (by rw[he];rfl) rfl)
 obtain ⟨ns,rfl,n1,n2⟩:=WT.MZ hw (hx 3 Nh d (by rw[he];rfl) rfl)
 obtain ⟨F,rfl⟩:=VW (f:=V.bool) fun y hy=>WT.kU hb (jw.one (by kernel_rfl) (f2 y hy))
 obtain ⟨N,rfl,hN⟩:=M0 (f:=mE) fun y hy=>anp (n2 y hy)
 exact ⟨⟨L,S,F,N⟩,rfl,l1,l2,s1,s2,by simpa using f1,by simpa using n1,hN⟩
noncomputable def ab9 (C:ae) (ba bh:Int) (aM bc:List V):Option (List V):=
 (C wS [.int .i64 ba,.int .i64 bh,.list ay aM,.list aA bc]).bind fun r1=>
 bif (((V.nth (r1.drop 2) 0).toInt):Int) != 0 then
  some [.int .i64 0,.int .i64 0,.int .i64 ((V.nth (r1.drop 2) 0).toInt),.list ay ([]:List V),.list aA ([]:List V)]
 else
  (C Iz [.int .i64 ((V.nth r1 0).toInt),.int .i64 ((V.nth (r1.drop 1) 0).toInt),.list ay ((V.nth (r1.drop 3) 0).toList),.list aA ((V.nth ((r1.drop 3).drop 1) 0).toList)]).bind fun r2=>
  (C q0 [.int .i64 ((V.nth r1 0).toInt),.int .i64 ((V.nth (r1.drop 1) 0).toInt),.list ay ((V.nth r2 0).toList),.list aA ((V.nth ((r1.drop 3).drop 1) 0).toList)]).bind fun r3=>
  some [.int .i64 ((V.nth r3 0).toInt),.int .i64 ((V.nth (r3.drop 1) 0).toInt),.int .i64 0,.list ay ((V.nth (r3.drop 2) 0).toList),.list aA ((V.nth ((r3.drop 2).drop 1) 0).toList)]
theorem anq {ba bh:Int} {aM bc:List V} {r:Option (List V)} (h:ab9 CC ba bh aM bc=r):CC Iq [.int .i64 ba,.int .i64 bh,.list ay aM,.list aA bc]=r:=
 bp (key:=34) (L:=di) (bs:=[]) (by kernel_rfl) ar (bn (by kernel_rfl) h)
end Go.AM
set_option maxRecDepth 100000
namespace Go.AM
open Go.Proofs
namespace Da
def kN (a:Da) (f:Nat→Bool):Da:=⟨a.L,a.st,tab a.n f,a.N⟩
def pre (a:Da) (k:Nat) (g:Nat→List Nat):Da:=⟨k,a.st,a.F,tab a.n fun q=>tab k fun x=>a.run q (g x)⟩
theorem xT {a:Da} {f:Nat→Bool}:(a.kN f).n=a.n:=by simp[kN,n]
theorem aca {a:Da} {f:Nat→Bool} {q:Nat} (h:q<a.n):(a.kN f).fin q=f q:=by
 show (tab a.n f).getD q false=f q
 exact u9 h
theorem Ok.kN {a:Da} (h:a.Ok) {f:Nat→Bool}:(a.kN f).Ok:=⟨h.l1,h.l6,by rw[xT];exact h.nN,fun r hr=>by rw[xT];exact h.row r hr,by rw[xT];exact h.s,by rw[xT];exact h.e8⟩
theorem anr {a:Da} {f:Nat→Bool} {q:Nat} {w:List Nat}:(a.kN f).run q w=a.run q w:=rfl
theorem ans {a:Da} (h:a.Ok) {f:Nat→Bool} {q:Nat} (hq:q<a.n) {w:List Nat} (hw:WL a.L w):(a.kN f).acc q w=f (a.run q w):=by
 unfold acc
 rw[anr,aca (h.rn w hq hw)]
theorem ant {a:Da} {f:Nat→Bool}:(a.kN f).cZ=bV a.n f:=by
 unfold cZ bV
 rw[xT]
 exact fN fun q hq=>by rw[aca hq]
theorem anu {a:Da} {f:Nat→Bool}:(a.kN f).cO=a.cO:=by unfold cO;rw[xT];rfl
theorem Ok.pre {a:Da} (h:a.Ok) {k:Nat} {g:Nat→List Nat} (h1:1≤k) (h6:k≤6) (hg: ∀x,x<k→WL a.L (g x)):(a.pre k g).Ok:=⟨h1,h6,by simp[Da.pre,n],fun r hr=>by
 obtain ⟨q,hq,rfl⟩:=tp.1 hr
 refine ⟨by simp[Da.pre],fun s hs=> ?_⟩
 obtain ⟨x,hx,rfl⟩:=tp.1 hs
 exact h.rn _ hq (hg x hx),h.s,h.e8⟩
end Da
section
variable {a:Da} (h:a.Ok) {w:List UInt8}
include h
theorem anv:CC Iq (dU a)=some (j7 (minD ((minD a).kN (minD a).jM)) 0):=by
 have hm:=jF h
 refine anq ?_
 unfold ab9
 refine bs (FC h) (bF rfl ?_)
 refine bs (aly hm) ?_
 have hM:=z5 (hm.kN (f:=(minD a).jM))
 unfold dU lf at hM
 rw[Da.ant,Da.anu] at hM
 refine bs hM ?_
 rfl
end
section
variable {d:Df} (h:d.Ok) (hv:d.val≠0)
include h hv
end
def acb (l:List (List UInt8)) (L:Int):Prop:= ∀i,i<l.length→gh (l.getD i []) L
instance (l:List (List UInt8)) (L:Int):Decidable (acb l L):=by unfold acb;infer_instance
section
variable {a:Da} (h:a.Ok) {l:List (List UInt8)}
include h
end
end Go.AM
set_option maxRecDepth 100000
namespace Go.AM
open Go.Proofs
noncomputable abbrev acd:Code:=cA Tryd.prog (au.aU 81)
noncomputable def Gg (C:ae) (final:List V) (t27 R7 R8:Int) (dw gS:List V) (t28 br bj bu bq:Int) (eO:List V) {β:Type} (kn:(Int × Int × Int × Int × Int × (List V))→Option β) (kr:(Int × Bool × Int × Int × Int × Int × (List V))→Option β):Option β:=
 bif decide ((t28:Int)<t27) then
  (C wV [.int .i64 t28,.int .i64 br,.int .i64 bj,.int .u64 bu,.int .u64 bq,.list ak eO]).bind fun r3=>
  kn (IntKind.wrap .i64 (t28+1),(V.nth r3 0).toInt,(V.nth (r3.drop 1) 0).toInt,(V.nth ((r3.drop 1).drop 1) 0).toInt,(V.nth (((r3.drop 1).drop 1).drop 1) 0).toInt,(V.nth (r3.drop 4) 0).toList)
 else
  kr (t28,decide ((t28:Int)<t27),br,bj,bu,bq,eO)
noncomputable def Sq (C:ae) (final:List V) (t27 R7 R8:Int) (dw gS:List V):(Int × Int × Int × Int × Int × (List V))→Option ((Int × Int × Int × Int × Int × (List V)) ⊕ (Int × Bool × Int × Int × Int × Int × (List V))):=un fun t28=>un fun br=>un fun bj=>un fun bu=>un fun bq eO=>Gg C final t27 R7 R8 dw gS t28 br bj bu bq eO (fun y=>some (.inl y)) (fun r=>some (.inr r))
noncomputable def ace (C:ae):cl:=fun β n ds k=>
 bif Nat.beq n 97 then bt NY [false,false,true,false,false,true,true,true,true,false,false,true] [[1,2,0,0,4,5,0,0,0,0,10,11,0]] (@Gg C) ds k else
 none
abbrev anw (C:ae) (b:ch):Prop:=cj Tryd.prog au C (ace C) 81 (cH Tryd.prog (au.aU 81)) (au.sin 81).aZ.length b
theorem anx (C:ae):anw C (.loop (aq [1,1,1,1,0,1,0,0] acd)):=
 bA NY [false,false,true,false,false,true,true,true,true,false,false,true] [[1,2,0,0,4,5,0,0,0,0,10,11,0]] (@Gg C) (by kernel_rfl) (aK (bs:=[]) (by kernel_rfl) ar) (fun ds=>by kernel_rfl) (fun i x=>by kernel_rfl) (fun i x β k=>by kernel_rfl) (fun β ds k=>by kernel_rfl)
noncomputable def Sr (C:ae) (Gh KQ:Int) (AW KR final:List V):Option (List V):=
 (C wU [.int .i64 Gh,.int .i64 (AW.length:Int)]).bind fun r1=>
 bif (V.nth r1 0).toBool then
  some [.int .i64 0,.int .i64 0,.int .i64 3,.list ay ([]:List V),.list aA ([]:List V)]
 else
  (C wX [.int .i64 Gh,.int .i64 KQ,.list ay AW,.list aA KR,.int .i64 0,.int .i64 ((V.nth (r1.drop 1) 0).toInt),.int .i64 ((V.nth ((r1.drop 1).drop 1) 0).toInt),.int .u64 ((V.nth (((r1.drop 1).drop 1).drop 1) 0).toInt),.int .u64 ((V.nth ((((r1.drop 1).drop 1).drop 1).drop 1) 0).toInt),.list ak ((V.nth ((r1.drop 1).drop 4) 0).toList)]).bind fun r2=>
  (Loop (Sq C final (AW.length:Int) 0 0 ([]:List V) ([]:List V)) (0,(V.nth r2 0).toInt,(V.nth (r2.drop 1) 0).toInt,(V.nth ((r2.drop 1).drop 1) 0).toInt,(V.nth (((r2.drop 1).drop 1).drop 1) 0).toInt,(V.nth (r2.drop 4) 0).toList)).bind (un fun (lY:Int)=>un fun (nn:Bool)=>un fun (xN:Int)=>un fun (tU:Int)=>un fun (tW:Int)=>un fun (tX:Int) (vc:List V)=>
   (C wW [.list ay final,.int .i64 0,.int .i64 xN,.int .i64 tU,.int .u64 tW,.int .u64 tX,.list ak vc]).bind fun ln=>
   (C sX [.int .i64 ((V.nth ln 0).toInt),.int .i64 ((V.nth (ln.drop 1) 0).toInt),.int .u64 ((V.nth ((ln.drop 1).drop 1) 0).toInt),.int .u64 ((V.nth (((ln.drop 1).drop 1).drop 1) 0).toInt),.list ak ((V.nth (ln.drop 4) 0).toList)]).bind fun ep=>
   some [.int .i64 ((V.nth ep 0).toInt),.int .i64 ((V.nth (ep.drop 1) 0).toInt),.int .i64 ((V.nth (ep.drop 2) 0).toInt),.list ay ((V.nth ((ep.drop 3).drop 5) 0).toList),.list aA ((V.nth (((ep.drop 3).drop 5).drop 1) 0).toList)])
theorem acf {Gh KQ:Int} {AW KR final:List V} {r:Option (List V)} (h:Sr CC Gh KQ AW KR final=r):CC zl [.int .i64 Gh,.int .i64 KQ,.list ay AW,.list aA KR,.list ay final]=r:=
 bp (key:=81) (L:=ace CC) (bs:=[.loop (aq [1,1,1,1,0,1,0,0] acd)]) (by kernel_rfl) (aY (anx CC) ar) (bn (by kernel_rfl) h)
noncomputable def acg (C:ae) (ba bh:Int) (aM bc:List V):Option (List V):=
 (C wS [.int .i64 ba,.int .i64 bh,.list ay aM,.list aA bc]).bind fun r1=>
 bif (((V.nth (r1.drop 2) 0).toInt):Int) != 0 then
  some [.int .i64 0,.int .i64 0,.int .i64 ((V.nth (r1.drop 2) 0).toInt),.list ay ([]:List V),.list aA ([]:List V)]
 else
  (C zl [.int .i64 ((V.nth r1 0).toInt),.int .i64 ((V.nth (r1.drop 1) 0).toInt),.list ay ((V.nth (r1.drop 3) 0).toList),.list aA ((V.nth ((r1.drop 3).drop 1) 0).toList),.list ay ((V.nth (r1.drop 3) 0).toList)]).bind fun r2=>
  some [.int .i64 ((V.nth r2 0).toInt),.int .i64 ((V.nth (r2.drop 1) 0).toInt),.int .i64 ((V.nth (r2.drop 2) 0).toInt),.list ay ((V.nth (r2.drop 3) 0).toList),.list aA ((V.nth ((r2.drop 3).drop 1) 0).toList)]
theorem anz {ba bh:Int} {aM bc:List V} {r:Option (List V)} (h:acg CC ba bh aM bc=r):CC CL [.int .i64 ba,.int .i64 bh,.list ay aM,.list aA bc]=r:=
 bp (key:=48) (L:=di) (bs:=[]) (by kernel_rfl) ar (bn (by kernel_rfl) h)
theorem anA (i:Nat):(2^i-1)|||2^i=2^(i+1)-1:=by
 refine A9 fun j=> ?_
 rw[xZ,vD,rS,vD,oR]
 simp only[vy,dx]
 omega
theorem anB {m:Da} (hm:m.Ok) (hs:m.n≤64) {f:Nat→Bool}:CC zl (lf m [.list ay (bV m.n f)])=some (j7 (gR (Sf m f) m.L m.n) (pA (Sf m f) m.L m.n)):=by
 have hlen:=oF hm (off:=0) (n:=m.n)
 refine acf ?_
 unfold Sr
 rw[Da.lZ]
 refine bs (RX hs) (bF rfl ?_)
 refine bs (Kw (l:=[]) hm (off:=0) (by omega) (by simp)) ?_
 rw[List.nil_append]
 refine bs (tY m.n (fun i=>((i:Int),(m.L:Int),(m.n:Int),((2^i-1:Nat):Int),((0:Nat):Int),(cg m 0).map Ed.enc)) ((m.n:Int),false,(m.L:Int),(m.n:Int),((2^m.n-1:Nat):Int),((0:Nat):Int),(cg m 0).map Ed.enc) rfl (fun q hq=> ?_) ?_) ?_
 ·have hp:(2:Nat)^q<2^64:=km (by omega) (by omega)
  simp only[Sq,Gg,un]
  refine bT (eW hq) ?_
  refine bs (Kv (q:=q) (by omega) (by omega)) ?_
  rw[dI (by omega),anA]
  rfl
 ·simp only[Sq,Gg,un]
  refine bF (b6 (aE _)) ?_
  rw[b6 (aE _)]
 ·simp only[un]
  refine bs (RZ (n:=m.n) (f:=f) (off:=0) (by omega) (by omega)) ?_
  refine bs (aaJ (abq hm hs)) ?_
  rfl
theorem anC {m:Da} (hs:64<m.n) (l:List V):CC zl (lf m [.list ay l])=some (j7 zD 3):=by
 refine acf ?_
 unfold Sr
 rw[Da.lZ]
 refine bs (aa6 hs) (bT rfl ?_)
 rfl
section
variable {a:Da} (h:a.Ok)
include h
theorem ach {r:Da} {e:Int} (hr:CC zl (lf (minD a) [.list ay (bV (minD a).n (minD a).fin)])=some (j7 r e)):CC CL (dU a)=some (j7 r e):=by
 refine anz ?_
 unfold acg
 refine bs (FC h) (bF rfl ?_)
 refine bs hr ?_
 rfl
theorem anD {w:List Nat} (hw:WL a.L w) {f:Nat→Bool}:(∃q,q<(minD a).n∧f ((minD a).run q w)=true)↔∃u,WL a.L u∧f ((minD a).run (minD a).st (u++w))=true:=by
 constructor
 ·rintro ⟨q,hq,hf⟩
  obtain ⟨u,hu,hr⟩:=amm h hq
  exact ⟨u,hu,by rw[Da.Dx,hr];exact hf⟩
 ·rintro ⟨u,hu,hf⟩
  exact ⟨_,(jF h).rn u (jF h).s (by rw[lx h];exact hu),by rw[←Da.Dx];exact hf⟩
theorem anE:rL (CC CL (dU a)) a.L (minD a).n fun w=> ∃u,WL a.L u∧a.acc a.st (u++w)=true:=by
 have hm:=jF h
 have hL:=lx h
 by_cases hs:(minD a).n≤64
 ·have hr:=abq hm hs (f:=(minD a).fin)
  have he:=ach h (anB hm hs)
  unfold Sf at he
  rw[hL] at he hr
  refine rL.of hr he fun w hw=> ?_
  rw[aml hm (by rw[hL];exact hw),anD h hw]
  constructor
  ·rintro ⟨u,hu,hf⟩
   have:=pC h (WL.app.2 ⟨hu,hw⟩)
   exact ⟨u,hu,this.symm.trans hf⟩
  ·rintro ⟨u,hu,hf⟩
   have:=pC h (WL.app.2 ⟨hu,hw⟩)
   exact ⟨u,hu,this.trans hf⟩
 ·exact .inr ⟨ach h (anC (by omega) _),by omega⟩
theorem anF {u:List Nat} (hu:WL a.L u):(minD a).jM ((minD a).run (minD a).st u)=true↔∃z,WL a.L z∧a.acc a.st (u++z)=true:=by
 rw[Da.aaR]
 unfold Da.Live
 rw[lx h]
 constructor
 ·rintro ⟨z,hz,hf⟩
  rw[←Da.X1,pC h (WL.app.2 ⟨hu,hz⟩)] at hf
  exact ⟨z,hz,hf⟩
 ·rintro ⟨z,hz,hf⟩
  rw[←pC h (WL.app.2 ⟨hu,hz⟩),Da.X1] at hf
  exact ⟨z,hz,hf⟩
theorem anG:mg (minD ((minD a).kN (minD a).jM)) a.L fun w=> ∃z,WL a.L z∧a.acc a.st (w++z)=true:=by
 have hm:=jF h
 have hL:=lx h
 have hr:=abt (hm.kN (f:=(minD a).jM))
 rw[show ((minD a).kN (minD a).jM).L=a.L from hL] at hr
 refine hr.ext fun w hw=> ?_
 have e:((minD a).kN (minD a).jM).acc ((minD a).kN (minD a).jM).st w=(minD a).jM ((minD a).run (minD a).st w):=Da.ans hm hm.s (by rw[hL];exact hw)
 rw[e,anF h hw]
end
section
variable {d:Df} (h:d.Ok) (hv:d.val≠0)
include h hv
end
theorem Gi {w:List UInt8} {L:Int}:gh w L↔1≤L∧L≤6∧w.length≤2048∧∀b∈w,0≤(b.toNat:Int)-97∧(b.toNat:Int)-97<L:=by
 unfold gh
 refine and_congr Iff.rfl (and_congr Iff.rfl (and_congr Iff.rfl ⟨fun h b hb=> ?_,fun h i hi=> ?_⟩))
 ·obtain ⟨i,hi,rfl⟩:=List.mem_iff_getElem.1 hb
  have:=h i hi
  unfold iK at this
  rwa [gu hi] at this
 ·unfold iK
  rw[gu hi]
  exact h _ (gb hi)
theorem gh.part {w v:List UInt8} {L:Int} (h:gh w L) (hl:v.length≤w.length) (hm: ∀b∈v,b∈w):gh v L:=by
 obtain ⟨h1,h2,h3,h4⟩:=Gi.1 h
 exact Gi.2 ⟨h1,h2,by omega,fun b hb=>h4 b (hm b hb)⟩
theorem gh.left {u v:List UInt8} {L:Int} (h:gh (u++v) L):gh u L:=h.part (by simp) fun b hb=>List.mem_append_left _ hb
theorem gh.right {u v:List UInt8} {L:Int} (h:gh (u++v) L):gh v L:=h.part (by simp) fun b hb=>List.mem_append_right _ hb
theorem gh.app {u v:List UInt8} {L:Int} (h1:gh u L) (h2:gh v L) (hl:u.length+v.length≤2048):gh (u++v) L:=by
 obtain ⟨a1,a2,_,a4⟩:=Gi.1 h1
 obtain ⟨_,_,_,b4⟩:=Gi.1 h2
 refine Gi.2 ⟨a1,a2,by rw[dO];exact hl,fun b hb=> ?_⟩
 rcases ew.1 hb with hb|hb
 ·exact a4 b hb
 ·exact b4 b hb
section
variable {a b:Da} (ha:a.Ok) (hb:b.Ok) (hL:a.L=b.L)
include ha hb hL
theorem aci:rL (CC wQ (lf a (dU b))) a.L ((minD a).n+(minD b).n) fun w=> ∃u v,w=u++v∧a.acc a.st u=true∧b.acc b.st v=true:=by
 have hm:=jF ha
 have hk:=jF hb
 have xR:=lx ha
 have Sd:=lx hb
 have FH:(minD a).L=(minD b).L:=by rw[xR,Sd,hL]
 by_cases hs:(minD a).n+(minD b).n≤64
 ·have hr:=abm hm hk FH hs
  have he:=ame ha hb hL hs
  unfold FG at he
  rw[xR] at hr he
  refine rL.of hr he fun w hw=> ?_
  rw[amg hm hk FH (by rw[xR];exact hw)]
  constructor
  ·rintro ⟨u,v,rfl,h1,h2⟩
   obtain ⟨w1,w2⟩:=WL.app.1 hw
   exact ⟨u,v,rfl,by rw[←pC ha w1];exact h1,by rw[←pC hb (hL▸w2)];exact h2⟩
  ·rintro ⟨u,v,rfl,h1,h2⟩
   obtain ⟨w1,w2⟩:=WL.app.1 hw
   exact ⟨u,v,rfl,by rw[pC ha w1];exact h1,by rw[pC hb (hL▸w2)];exact h2⟩
 ·exact .inr ⟨amf ha hb hL (by omega),by omega⟩
end
def fD:Da:=⟨2,0,[false,true],[[1,0],[0,1]]⟩
def oJ:Da:=⟨2,0,[false,true],[[1,0],[1,1]]⟩
theorem Gj:fD.Ok:=⟨by decide,by decide,by decide,by decide,by decide,by decide⟩
theorem KS:oJ.Ok:=⟨by decide,by decide,by decide,by decide,by decide,by decide⟩
theorem anH:fD.Canon fD.L (fD.acc fD.st) where
 ok:=Gj
 hL:=rfl
 st:=rfl
 num:=⟨by decide,by decide,by decide⟩
 red:=fun p q hp hq h=>by
  have h0:=h [] WL.nil
  have hp':p<2:=hp
  have ct:q<2:=hq
  have: ∀p,p<2→∀q,q<2→fD.acc p []=fD.acc q []→p=q:=by decide
  exact this p hp' q ct h0
 iy:=fun _ _=>rfl
theorem anI:oJ.Canon oJ.L (oJ.acc oJ.st) where
 ok:=KS
 hL:=rfl
 st:=rfl
 num:=⟨by decide,by decide,by decide⟩
 red:=fun p q hp hq h=>by
  have h0:=h [] WL.nil
  have hp':p<2:=hp
  have ct:q<2:=hq
  have: ∀p,p<2→∀q,q<2→oJ.acc p []=oJ.acc q []→p=q:=by decide
  exact this p hp' q ct h0
 iy:=fun _ _=>rfl
theorem acj:minD fD=fD:=(Ek Gj anH).symm
theorem anJ:j8 (AB fD) 2 2=oJ:=by kernel_rfl
theorem ack: ¬jD (AB fD) 2 2:=by
 have:=z7 (oE (abj Gj (by decide))) (2^2)
 exact fun h=>absurd (lz h this) (by decide)
theorem anK:gR (AB fD) 2 2=oJ:=by
 unfold gR
 rw[ah ack,anJ]
 exact (Ek KS anI).symm
noncomputable def acm (C:ae):Option (List V):=
 (C Iv []).bind fun r1=>
 (C Ir [.int .i64 ((V.nth r1 0).toInt),.int .i64 ((V.nth (r1.drop 1) 0).toInt),.list ay ((V.nth (r1.drop 2) 0).toList),.list aA ((V.nth ((r1.drop 2).drop 1) 0).toList)]).bind fun r2=>
 bif (((V.nth (r2.drop 2) 0).toInt):Int)==0 then
  bif ((((V.nth (r2.drop 3) 0).toList).length:Int):Int)==2 then
  (C CK [.int .i64 ((V.nth r2 0).toInt),.int .i64 ((V.nth (r2.drop 1) 0).toInt),.list ay ((V.nth (r2.drop 3) 0).toList),.list aA ((V.nth ((r2.drop 3).drop 1) 0).toList),.str [98,97,97]]).bind fun r3=>
  bif (V.nth r3 0).toBool then
   (C CK [.int .i64 ((V.nth r2 0).toInt),.int .i64 ((V.nth (r2.drop 1) 0).toInt),.list ay ((V.nth (r2.drop 3) 0).toList),.list aA ((V.nth ((r2.drop 3).drop 1) 0).toList),.str [98,98]]).bind fun r4=>
   some [.bool (!((V.nth r4 0).toBool))]
  else
   some [.bool false]
  else
  some [.bool false]
 else
  some [.bool false]
theorem anL {r:Option (List V)} (h:acm CC=r):CC uU []=r:=
 bp (key:=19) (L:=di) (bs:=[]) (by kernel_rfl) ar (bn (by kernel_rfl) h)
noncomputable def anM (C:ae):Option (List V):=
 some [.int .i64 2,.int .i64 0,.list ay ([.bool false,.bool true]:List V),.list aA ([.list bJ ([.int .i64 1,.int .i64 0]:List V),.list bJ ([.int .i64 0,.int .i64 1]:List V)]:List V)]
theorem anN {r:Option (List V)} (h:anM CC=r):CC Iv []=r:=
 bp (key:=59) (L:=di) (bs:=[]) (by kernel_rfl) ar (bn (by kernel_rfl) h)
def acn:List Ed:=[⟨0,0,1⟩,⟨0,1,0⟩,⟨1,0,0⟩,⟨1,1,1⟩,⟨0,0,0⟩,⟨0,1,0⟩,⟨1,0,1⟩,⟨1,1,1⟩]
def Ss:List Ed:=[⟨0,0,0⟩,⟨0,0,1⟩,⟨0,1,0⟩,⟨0,1,0⟩,⟨1,0,0⟩,⟨1,0,1⟩,⟨1,1,1⟩,⟨1,1,1⟩]
def KT:List Ed:=[⟨0,0,0⟩,⟨0,0,1⟩,⟨0,1,0⟩,⟨1,0,0⟩,⟨1,0,1⟩,⟨1,1,1⟩]
theorem anO:cg fD 0++ly 2 2=acn:=by decide
theorem anP:CC zm [.list ak (acn.map Ed.enc)]=some [.list ak (Ss.map Ed.enc)]:=afp (N:=40) (n:=40) (by kernel_rfl)
theorem anQ:AB fD=⟨2,2,1,2,KT⟩:=by kernel_rfl
theorem anR:CC sX (aN 2 2 (2^fD.st) (eh 0 fD.fin 0 2) (cg fD 0++ly 2 2))=some (RD oJ 0 ⟨2,2,1,2,KT⟩):=by
 obtain ⟨b,e2⟩:=Z5 (l:=Ss) (by decide)
 have hc:jE Ss=KT:=by decide
 rw[hc] at e2
 have e3:=RC (oE (abj Gj (by decide)))
 rw[show dg fD.L fD.n (2^fD.st) (eh 0 fD.fin 0 fD.n) (cg fD 0++ly fD.L fD.n)=AB fD from rfl,show fD.L=2 from rfl,show fD.n=2 from rfl,anK,show pA (AB fD) 2 2=0 from ah ack,anQ] at e3
 rw[anO]
 refine aaI ?_
 unfold RB
 refine bs anP ?_
 refine bs e2 ?_
 cases b
 ·refine bF rfl ?_
  refine bs e3 ?_
  rfl
 ·refine bT rfl ?_
  refine bs e3 ?_
  rfl
theorem KU:CC uU []=some [.bool true]:=by
 have h1:CC Iv []=some (dU fD):=anN rfl
 have h2:=al7 Gj (X:=oJ) (e:=0) (n:=⟨2,2,1,2,KT⟩) (by rw[acj];decide) (by rw[acj];exact anR)
 refine anL ?_
 unfold acm
 refine bs h1 ?_
 refine bs h2 ?_
 refine bT rfl (bT (by decide) ?_)
 refine bs (YD KS (w:=[98,97,97]) (by decide)) ?_
 refine bT (by decide) ?_
 refine bs (YD KS (w:=[98,98]) (by decide)) ?_
 rw[show oJ.acc oJ.st (lets [98,98])=false by decide]
 rfl
noncomputable def Su (C:ae) (dZ eD:Int) (eg eu:List V) (eE eX:Int) (eT eY:List V):Option (List V):=
 (C Ip [.int .i64 dZ,.int .i64 eD,.list ay eg,.list aA eu,.int .i64 eE,.int .i64 eX,.list ay eT,.list aA eY,.int .i64 3]).bind fun r1=>
 bif !((V.nth r1 0).toBool) then
  (C uU []).bind fun r2=>
  some [.bool ((V.nth r2 0).toBool)]
 else
  (C qZ [.int .i64 dZ,.int .i64 eD,.list ay eg,.list aA eu]).bind fun r3=>
  (C qZ [.int .i64 eE,.int .i64 eX,.list ay eT,.list aA eY]).bind fun r4=>
  (C qZ [.int .i64 ((V.nth r3 0).toInt),.int .i64 ((V.nth (r3.drop 1) 0).toInt),.list ay ((V.nth (r3.drop 3) 0).toList),.list aA ((V.nth ((r3.drop 3).drop 1) 0).toList)]).bind fun r5=>
  bif (((V.nth (r3.drop 2) 0).toInt):Int) != 0 then
  some [.bool false]
  else
  bif (((V.nth (r4.drop 2) 0).toInt):Int) != 0 then
   some [.bool false]
  else
   bif (((V.nth (r5.drop 2) 0).toInt):Int) != 0 then
   some [.bool false]
   else
   (C q0 [.int .i64 dZ,.int .i64 eD,.list ay eg,.list aA eu]).bind fun r6=>
   (C wR [.int .i64 ((V.nth r5 0).toInt),.int .i64 ((V.nth (r5.drop 1) 0).toInt),.list ay ((V.nth (r5.drop 3) 0).toList),.list aA ((V.nth ((r5.drop 3).drop 1) 0).toList),.int .i64 ((V.nth r6 0).toInt),.int .i64 ((V.nth (r6.drop 1) 0).toInt),.list ay ((V.nth (r6.drop 2) 0).toList),.list aA ((V.nth ((r6.drop 2).drop 1) 0).toList)]).bind fun r7=>
   bif !((V.nth r7 0).toBool) then
    some [.bool false]
   else
    (C Iq [.int .i64 dZ,.int .i64 eD,.list ay eg,.list aA eu]).bind fun r8=>
    (C CL [.int .i64 ((V.nth r3 0).toInt),.int .i64 ((V.nth (r3.drop 1) 0).toInt),.list ay ((V.nth (r3.drop 3) 0).toList),.list aA ((V.nth ((r3.drop 3).drop 1) 0).toList)]).bind fun r9=>
    (C qZ [.int .i64 ((V.nth r8 0).toInt),.int .i64 ((V.nth (r8.drop 1) 0).toInt),.list ay ((V.nth (r8.drop 3) 0).toList),.list aA ((V.nth ((r8.drop 3).drop 1) 0).toList)]).bind fun Gk=>
    bif (((V.nth (r8.drop 2) 0).toInt):Int) != 0 then
    some [.bool false]
    else
    bif (((V.nth (r9.drop 2) 0).toInt):Int) != 0 then
     some [.bool false]
    else
     bif (((V.nth (Gk.drop 2) 0).toInt):Int) != 0 then
     some [.bool false]
     else
     (C wR [.int .i64 ((V.nth Gk 0).toInt),.int .i64 ((V.nth (Gk.drop 1) 0).toInt),.list ay ((V.nth (Gk.drop 3) 0).toList),.list aA ((V.nth ((Gk.drop 3).drop 1) 0).toList),.int .i64 ((V.nth r9 0).toInt),.int .i64 ((V.nth (r9.drop 1) 0).toInt),.list ay ((V.nth (r9.drop 3) 0).toList),.list aA ((V.nth ((r9.drop 3).drop 1) 0).toList)]).bind fun ln=>
     bif !((V.nth ln 0).toBool) then
      some [.bool false]
     else
      (C wQ [.int .i64 dZ,.int .i64 eD,.list ay eg,.list aA eu,.int .i64 eE,.int .i64 eX,.list ay eT,.list aA eY]).bind fun ep=>
      (C wQ [.int .i64 ((V.nth r4 0).toInt),.int .i64 ((V.nth (r4.drop 1) 0).toInt),.list ay ((V.nth (r4.drop 3) 0).toList),.list aA ((V.nth ((r4.drop 3).drop 1) 0).toList),.int .i64 ((V.nth r3 0).toInt),.int .i64 ((V.nth (r3.drop 1) 0).toInt),.list ay ((V.nth (r3.drop 3) 0).toList),.list aA ((V.nth ((r3.drop 3).drop 1) 0).toList)]).bind fun tD=>
      bif (((V.nth (ep.drop 2) 0).toInt):Int) != 0 then
      bif (((V.nth (ep.drop 2) 0).toInt):Int)==0 then
       bif (((V.nth (tD.drop 2) 0).toInt):Int)==3 then
       (C uU []).bind fun oH=>
       some [.bool ((V.nth oH 0).toBool)]
       else
       some [.bool false]
      else
       some [.bool false]
      else
      bif (((V.nth (tD.drop 2) 0).toInt):Int) != 0 then
       bif (((V.nth (ep.drop 2) 0).toInt):Int)==0 then
       bif (((V.nth (tD.drop 2) 0).toInt):Int)==3 then
        (C uU []).bind fun fA=>
        some [.bool ((V.nth fA 0).toBool)]
       else
        some [.bool false]
       else
       some [.bool false]
      else
       (C qZ [.int .i64 ((V.nth ep 0).toInt),.int .i64 ((V.nth (ep.drop 1) 0).toInt),.list ay ((V.nth (ep.drop 3) 0).toList),.list aA ((V.nth ((ep.drop 3).drop 1) 0).toList)]).bind fun iL=>
       bif (((V.nth (iL.drop 2) 0).toInt):Int)==3 then
       (C uU []).bind fun cu=>
       some [.bool ((V.nth cu 0).toBool)]
       else
       bif (((V.nth (iL.drop 2) 0).toInt):Int)==0 then
        (C wR [.int .i64 ((V.nth iL 0).toInt),.int .i64 ((V.nth (iL.drop 1) 0).toInt),.list ay ((V.nth (iL.drop 3) 0).toList),.list aA ((V.nth ((iL.drop 3).drop 1) 0).toList),.int .i64 ((V.nth tD 0).toInt),.int .i64 ((V.nth (tD.drop 1) 0).toInt),.list ay ((V.nth (tD.drop 3) 0).toList),.list aA ((V.nth ((tD.drop 3).drop 1) 0).toList)]).bind fun mP=>
        bif (V.nth mP 0).toBool then
        (C uU []).bind fun dJ=>
        some [.bool ((V.nth dJ 0).toBool)]
        else
        some [.bool false]
       else
        some [.bool false]
theorem aco {dZ eD:Int} {eg eu:List V} {eE eX:Int} {eT eY:List V} {r:Option (List V)} (h:Su CC dZ eD eg eu eE eX eT eY=r):CC Nc [.int .i64 dZ,.int .i64 eD,.list ay eg,.list aA eu,.int .i64 eE,.int .i64 eX,.list ay eT,.list aA eY]=r:=
 bp (key:=15) (L:=di) (bs:=[]) (by kernel_rfl) ar (bn (by kernel_rfl) h)
theorem mg.le {X:Da} {L:Nat} {K:List Nat→Prop} (h:mg X L K):(minD X).n=X.n:=by rw[h.min]
theorem acr (d:Df) (hd:d.Ok) (e:Df) (he:e.Ok):CC Nc (nG d (nG e []))=some [.bool true]:=by
 have hB:=alV hd he 3
 by_cases h4:(d.F.length:Int)≤3∧(e.F.length:Int)≤3∧Aw d e=0
 case neg=>
  rw[eG h4] at hB
  refine aco ?_
  unfold Su
  refine bs hB (bT rfl ?_)
  exact bs KU rfl
 rw[bX h4] at hB
 obtain ⟨a,b,ha,hb,hL,rfl,rfl⟩:=alU h4.2.2
 have n1:(a.n:Int)≤3:=h4.1
 have n2:(b.n:Int)≤3:=h4.2.1
 have n3:=Kx ha
 have n4:=Kx hb
 have hm:=jF ha
 rw[ha.leaves,hb.leaves] at*
 obtain ⟨r,hr,rr,lr⟩:=(Gf ha).small (by omega)
 obtain ⟨q,hq,rq,lq⟩:=(Gf hb).small (by omega)
 have lr8:r.n≤8:=jH lr (show 2^(minD a).n≤2^3 from oQ (by omega) (by omega))
 have lq8:q.n≤8:=jH lq (show 2^(minD b).n≤2^3 from oQ (by omega) (by omega))
 obtain ⟨x,hx,rx,_⟩:=(Gf rr.ok).small (by rw[rr.le];omega)
 have hP:=anv ha
 have rP:=anG ha
 have lP:(minD ((minD a).kN (minD a).jM)).n≤3:=by
  have:=Kx (hm.kN (f:=(minD a).jM))
  rw[Da.xT] at this
  omega
 obtain ⟨s,hs,rs,_⟩:=(anE rr.ok).small (by rw[rr.le];omega)
 obtain ⟨y,hy,ry,_⟩:=(Gf rP.ok).small (by rw[rP.le];omega)
 have rM:=abt ha
 have ex:x=minD a:=by
  rw[rr.hL] at rx
  refine rx.eq rM fun w hw=> ?_
  rw[rr.iy _ hw.rev,Bf]
 have ey:y=s:=by
  rw[rP.hL] at ry
  rw[rr.hL] at rs
  refine ry.eq rs fun w hw=> ?_
  rw[rP.iy _ hw.rev]
  constructor
  ·rintro ⟨z,h1,h2⟩
   refine ⟨z.reverse,h1.rev,(rr.iy _ (WL.app.2 ⟨h1.rev,hw⟩)).2 ?_⟩
   rw[Gx,Bf]
   exact h2
  ·rintro ⟨u,h1,h2⟩
   have:=(rr.iy _ (WL.app.2 ⟨h1,hw⟩)).1 h2
   rw[Gx] at this
   exact ⟨u.reverse,h1.rev,this⟩
 subst ex ey
 obtain ⟨c,hc,rc,lc⟩:=(aci ha hb hL).small (by omega)
 have hLq:q.L=r.L:=by rw[rq.hL,rr.hL,hL]
 have hX:=aci rq.ok rr.ok hLq
 have hY:=Gf rc.ok
 refine aco ?_
 unfold Su
 refine bs hB (bF rfl ?_)
 refine bs hr ?_
 refine bs hq ?_
 refine bs hx ?_
 refine bF rfl (bF rfl (bF rfl ?_))
 refine bs (z5 ha) ?_
 refine bs rM.ok.same (bF rfl ?_)
 refine bs hP ?_
 refine bs hs ?_
 refine bs hy ?_
 refine bF rfl (bF rfl (bF rfl ?_))
 refine bs rs.ok.same (bF rfl ?_)
 refine bs hc ?_
 rcases hX with ⟨X,hX,rX,_⟩|⟨hX,_⟩
 ·refine bs hX ?_
  refine bF rfl (bF rfl ?_)
  rcases hY with ⟨Y,hY,rY,_⟩|⟨hY,_⟩
  ·have e:Y=X:=by
    rw[rc.hL] at rY
    rw[rq.hL,←hL] at rX
    refine rY.eq rX fun w hw=> ?_
    rw[rc.iy _ hw.rev]
    constructor
    ·rintro ⟨u,v,e1,h1,h2⟩
     have e2:w=v.reverse++u.reverse:=by rw[←Gx,←e1,Bf]
     obtain ⟨w1,w2⟩:=WL.app.1 (e2▸hw)
     exact ⟨v.reverse,u.reverse,e2,(rq.iy _ (hL▸w1)).2 (by rw[Bf];exact h2),(rr.iy _ w2).2 (by rw[Bf];exact h1)⟩
    ·rintro ⟨u,v,rfl,h1,h2⟩
     obtain ⟨w1,w2⟩:=WL.app.1 hw
     exact ⟨v.reverse,u.reverse,Gx,(rr.iy _ w2).1 h2,(rq.iy _ (hL▸w1)).1 h1⟩
   subst e
   refine bs hY ?_
   refine bF rfl (bT rfl ?_)
   refine bs rY.ok.same (bT rfl ?_)
   exact bs KU rfl
  ·refine bs hY ?_
   refine bT rfl ?_
   exact bs KU rfl
 ·refine bs hX ?_
  refine bF rfl (bT rfl (bT rfl (bT rfl ?_)))
  exact bs KU rfl
end Go.AM
