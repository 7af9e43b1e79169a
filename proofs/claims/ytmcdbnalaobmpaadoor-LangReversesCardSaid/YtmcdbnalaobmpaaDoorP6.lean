/-
  Functions of the program, lifted to plain data.
-/
import Derived.Test.YtmcdbnalaobmpaaDoorP5
set_option linter.unusedVariables false
set_option linter.unusedSimpArgs false
set_option maxRecDepth 100000
set_option maxHeartbeats 4000000
namespace Go.AM.SL
open Go.AM Go.Proofs Go.Sort
theorem ox (p:Ed→Bool) (d:Array Ed) (j i:Nat):scanUp p d j i=if i≤j then (if p d[i]! =true then scanUp p d j (i+1) else i) else i:=by
 conv=>lhs;rw[scanUp]
 by_cases h:i≤j
 ·rw[ag h];simp only[h,pE,qs]
 ·rw[ah h,ah (by simp[h])]
theorem xw (p:Ed→Bool) (d:Array Ed) (i j:Nat):scanDown p d i (j+1)=if i≤j+1 then (if p d[j+1]! =true then scanDown p d i j else j+1) else j+1:=by
 conv=>lhs;rw[scanDown]
 by_cases h:i≤j+1
 ·rw[ag h];simp only[h,pE,qs]
 ·rw[ah h,ah (by simp[h])]
theorem tH (d:Array Ed) (b i:Nat):scanSorted ai d b i=if i<b then (if aR d[i]! d[i-1]! <0 then i else scanSorted ai d b (i+1)) else i:=by
 conv=>lhs;rw[scanSorted]
 by_cases h:i<b
 ·rw[ag h];simp only[h,pE,qs,ka]
  by_cases h2:aR d[i]! d[i-1]! <0
  ·rw[ah (jI h2),ag h2]
  ·rw[ag h2,ah h2]
 ·rw[ah h,ah (by simp[h])]
theorem E6 (j:Nat) (d:Array Ed):shiftDown ai (j+1) d=if aR d[j+1]! d[j]! <0 then shiftDown ai j (swp d (j+1) j) else d:=by
 conv=>lhs;rw[shiftDown]
 simp only[ka]
 by_cases h2:aR d[j+1]! d[j]! <0
 ·rw[ah (jI h2),ag h2]
 ·rw[ag h2,ah h2]
theorem tI (b j:Nat) (d:Array Ed):shiftUp ai b j d=if j<b then (if aR d[j]! d[j-1]! <0 then shiftUp ai b (j+1) (swp d j (j-1)) else d) else d:=by
 conv=>lhs;rw[shiftUp]
 simp only[ka]
 by_cases h:j<b
 ·rw[ag h,ag h]
  by_cases h2:aR d[j]! d[j-1]! <0
  ·rw[ah (jI h2),ag h2]
  ·rw[ag h2,ah h2]
 ·rw[ah h,ah h]
theorem QC {a:Nat}: ∀(n i j:Nat) (d:Array Ed),j+1-i≤n→(partLoop ai a i j d).2.size=d.size∧(partLoop ai a i j d).1≤j:=by
 intro n
 induction n with
 | zero=>
  intro i j d hn
  have h1:=scanUp_ge (fun x=>ai x d[a]!) d j i
  have h2:=scanDown_le (fun x=> !ai x d[a]!) d (scanUp (fun x=>ai x d[a]!) d j i) j
  rw[partLoop_eq,ag (by omega)]
  exact ⟨rfl,h2⟩
 | succ n ih=>
  intro i j d hn
  rw[partLoop_eq]
  have h1:=scanUp_ge (fun x=>ai x d[a]!) d j i
  have h2:=scanDown_le (fun x=> !ai x d[a]!) d (scanUp (fun x=>ai x d[a]!) d j i) j
  split
  ·exact ⟨rfl,h2⟩
  ·obtain ⟨h3,h4⟩:=ih (scanUp (fun x=>ai x d[a]!) d j i+1) (scanDown (fun x=> !ai x d[a]!) d (scanUp (fun x=>ai x d[a]!) d j i) j-1) (swp d (scanUp (fun x=>ai x d[a]!) d j i) (scanDown (fun x=> !ai x d[a]!) d (scanUp (fun x=>ai x d[a]!) d j i) j)) (by omega)
   exact ⟨by rw[h3,size_swp],by omega⟩
theorem fb {β:Type} {d:Array Ed} {i:Nat} {x y:Option β} (h:i<d.size):(bif (decide (0≤(i:Int)))&&(decide ((i:Int)<((eA d).length:Int))) then x else y)=x:=by
 rw[c9,cE,aw,ag (by omega),aw,ag (by omega)]
theorem tJ {β:Type} {d:Array Ed} {i k:Nat} {v:V} {x y:Option β} (h:i<d.size):(bif (decide (0≤(i:Int)))&&(decide ((i:Int)<(((eA d).set k v).length:Int))) then x else y)=x:=by
 rw[oN,c9,cE,aw,ag (by omega),aw,ag (by omega)]
theorem fc {β:Type} {d:Array Ed} {i:Nat} {f:V→Option β} (h:i<d.size):((eA d)[(i:Int).toNat]?).bind f=f (d[i]!).enc:=by
 rw[Int.toNat_natCast,dd h];rfl
theorem tK {β:Type} {d:Array Ed} {i k:Nat} {v:V} {x:Option β} (h:i<d.size):(((eA d).set k v)[(i:Int).toNat]?).bind (fun _=>x)=x:=by
 rw[Int.toNat_natCast,bM (by rw[oN,c9];exact h)];rfl
theorem kf {β:Type} {d:Array Ed} {i:Nat} {f:V→Option β} (h:i<d.size):((eA d)[i]?).bind f=f (d[i]!).enc:=by
 rw[dd h];rfl
theorem xx {β:Type} {d:Array Ed} {i k:Nat} {v:V} {x:Option β} (h:i<d.size):(((eA d).set k v)[i]?).bind (fun _=>x)=x:=by
 rw[bM (by rw[oN,c9];exact h)];rfl
theorem QD {a j:Nat} {d:Array Ed} (ha:a<d.size) (hj:j<d.size) (hs:d.size<1152921504606846976): ∀(n i:Nat),j+1-i=n→i≤d.size→
  ∃t,Loop (EN CC a j (eA d)) (i:Int)=some (((scanUp (fun x=>ai x d[a]!) d j i:Nat):Int),t):=by
 intro n
 induction n with
 | zero=>
  intro i hn hi
  rw[ox,ah (by omega)]
  exact ⟨false,bd (by simp (disch:=omega) only[EN,EM,aw,ah])⟩
 | succ n ih=>
  intro i hn hi
  obtain ⟨t,h⟩:=ih (i+1) (by omega) (by omega)
  rw[ox,ag (by omega)]
  have e:EN CC a j (eA d) (i:Int)=if aR d[i]! d[a]! <0 then some (.inl ((i+1:Nat):Int)) else some (.inr ((i:Int),decide (aR d[i]! d[a]! <0))):=by
   simp (disch:=omega) only[EN,EM,aw,cE,dF,ag,ah,wrap64,bU,db,Int.toNat_natCast,Option.bind_some,c9,dd,Ed.b7,Ed.b8,Ed.b9,Ed.re,da,dN,dE,iM,V.bz,V.toInt_int,cond_true,cond_false]
  simp only[ll]
  by_cases h2:aR d[i]! d[a]! <0
  ·rw[ag h2] at e
   rw[ag h2]
   exact ⟨t,(cM e).trans h⟩
  ·rw[ah h2] at e
   rw[ah h2]
   exact ⟨_,bd e⟩
theorem E7 {a j:Nat} {d:Array Ed} (ha:a<d.size) (hj:j<d.size) (hs:d.size<1152921504606846976): ∀(n i:Nat),j+1-i=n→i≤d.size→
  ∃t,Loop (ER CC a j (eA d)) (i:Int)=some (((scanUp (fun x=>ai x d[a]!) d j i:Nat):Int),t):=by
 intro n
 induction n with
 | zero=>
  intro i hn hi
  rw[ox,ah (by omega)]
  exact ⟨false,bd (by simp (disch:=omega) only[ER,EO,aw,ah])⟩
 | succ n ih=>
  intro i hn hi
  obtain ⟨t,h⟩:=ih (i+1) (by omega) (by omega)
  rw[ox,ag (by omega)]
  have e:ER CC a j (eA d) (i:Int)=if aR d[i]! d[a]! <0 then some (.inl ((i+1:Nat):Int)) else some (.inr ((i:Int),decide (aR d[i]! d[a]! <0))):=by
   simp (disch:=omega) only[ER,EO,aw,cE,dF,ag,ah,wrap64,bU,db,Int.toNat_natCast,Option.bind_some,c9,dd,Ed.b7,Ed.b8,Ed.b9,Ed.re,da,dN,dE,iM,V.bz,V.toInt_int,cond_true,cond_false]
  simp only[ll]
  by_cases h2:aR d[i]! d[a]! <0
  ·rw[ag h2] at e
   rw[ag h2]
   exact ⟨t,(cM e).trans h⟩
  ·rw[ah h2] at e
   rw[ah h2]
   exact ⟨_,bd e⟩
theorem E8 {a i:Nat} {d:Array Ed} (ha:a<d.size) (hi:1≤i) (hs:d.size<1152921504606846976): ∀(j:Nat),j<d.size→
  ∃t,Loop (Aj CC a i (eA d)) (j:Int)=some (((scanDown (fun x=> !ai x d[a]!) d i j:Nat):Int),t)
 | 0,hj=>⟨false,bd (by simp (disch:=omega) only[Aj,Ai,aw,ah];rfl)⟩
 | j+1,hj=>by
  obtain ⟨t,h⟩:=E8 ha hi hs j (by omega)
  rw[xw]
  by_cases h1:i≤j+1
  ·rw[ag h1]
   have e:Aj CC a i (eA d) ((j+1:Nat):Int)=if aR d[j+1]! d[a]! <0 then some (.inr (((j+1:Nat):Int),!decide (aR d[j+1]! d[a]! <0))) else some (.inl (j:Int)):=by
    simp (disch:=omega) only[Aj,Ai,aw,cE,dF,ag,ah,wrap64,bU,db,Int.toNat_natCast,Option.bind_some,c9,dd,Ed.b7,Ed.b8,Ed.b9,Ed.re,da,dN,dE,iM,V.bz,V.toInt_int,cond_true,cond_false,nC]
   simp only[ka]
   by_cases h2:aR d[j+1]! d[a]! <0
   ·rw[ag h2] at e
    rw[ah (jI h2)]
    exact ⟨_,bd e⟩
   ·rw[ah h2] at e
    rw[ag h2]
    exact ⟨t,(cM e).trans h⟩
  ·rw[ah h1]
   exact ⟨false,bd (by simp (disch:=omega) only[Aj,Ai,aw,ah])⟩
theorem xy {a i:Nat} {d:Array Ed} (ha:a<d.size) (hi:1≤i) (hs:d.size<1152921504606846976): ∀(j:Nat),j<d.size→
  ∃t,Loop (Al CC a i (eA d)) (j:Int)=some (((scanDown (fun x=> !ai x d[a]!) d i j:Nat):Int),t)
 | 0,hj=>⟨false,bd (by simp (disch:=omega) only[Al,Ak,aw,ah];rfl)⟩
 | j+1,hj=>by
  obtain ⟨t,h⟩:=xy ha hi hs j (by omega)
  rw[xw]
  by_cases h1:i≤j+1
  ·rw[ag h1]
   have e:Al CC a i (eA d) ((j+1:Nat):Int)=if aR d[j+1]! d[a]! <0 then some (.inr (((j+1:Nat):Int),!decide (aR d[j+1]! d[a]! <0))) else some (.inl (j:Int)):=by
    simp (disch:=omega) only[Al,Ak,aw,cE,dF,ag,ah,wrap64,bU,db,Int.toNat_natCast,Option.bind_some,c9,dd,Ed.b7,Ed.b8,Ed.b9,Ed.re,da,dN,dE,iM,V.bz,V.toInt_int,cond_true,cond_false,nC]
   simp only[ka]
   by_cases h2:aR d[j+1]! d[a]! <0
   ·rw[ag h2] at e
    rw[ah (jI h2)]
    exact ⟨_,bd e⟩
   ·rw[ah h2] at e
    rw[ag h2]
    exact ⟨t,(cM e).trans h⟩
  ·rw[ah h1]
   exact ⟨false,bd (by simp (disch:=omega) only[Al,Ak,aw,ah])⟩
theorem E9 {a j:Nat} {d:Array Ed} (ha:a<d.size) (hj:j<d.size) (hs:d.size<1152921504606846976): ∀(n i:Nat),j+1-i=n→i≤d.size→
  ∃t,Loop (EV CC a j (eA d)) (i:Int)=some (((scanUp (fun x=> !ai d[a]! x) d j i:Nat):Int),t):=by
 intro n
 induction n with
 | zero=>
  intro i hn hi
  rw[ox,ah (by omega)]
  exact ⟨false,bd (by simp (disch:=omega) only[EV,EU,aw,ah])⟩
 | succ n ih=>
  intro i hn hi
  obtain ⟨t,h⟩:=ih (i+1) (by omega) (by omega)
  rw[ox,ag (by omega)]
  have e:EV CC a j (eA d) (i:Int)=if aR d[a]! d[i]! <0 then some (.inr ((i:Int),!decide (aR d[a]! d[i]! <0))) else some (.inl ((i+1:Nat):Int)):=by
   simp (disch:=omega) only[EV,EU,aw,cE,dF,ag,ah,wrap64,bU,db,Int.toNat_natCast,Option.bind_some,c9,dd,Ed.b7,Ed.b8,Ed.b9,Ed.re,da,dN,dE,iM,V.bz,V.toInt_int,cond_true,cond_false]
  simp only[ka]
  by_cases h2:aR d[a]! d[i]! <0
  ·rw[ag h2] at e
   rw[ah (jI h2)]
   exact ⟨_,bd e⟩
  ·rw[ah h2] at e
   rw[ag h2]
   exact ⟨t,(cM e).trans h⟩
theorem xz {a i:Nat} {d:Array Ed} (ha:a<d.size) (hi:1≤i) (hs:d.size<1152921504606846976): ∀(j:Nat),j<d.size→
  ∃t,Loop (Ap CC a i (eA d)) (j:Int)=some (((scanDown (fun x=>ai d[a]! x) d i j:Nat):Int),t)
 | 0,hj=>⟨false,bd (by simp (disch:=omega) only[Ap,Ao,aw,ah];rfl)⟩
 | j+1,hj=>by
  obtain ⟨t,h⟩:=xz ha hi hs j (by omega)
  rw[xw]
  by_cases h1:i≤j+1
  ·rw[ag h1]
   have e:Ap CC a i (eA d) ((j+1:Nat):Int)=if aR d[a]! d[j+1]! <0 then some (.inl (j:Int)) else some (.inr (((j+1:Nat):Int),decide (aR d[a]! d[j+1]! <0))):=by
    simp (disch:=omega) only[Ap,Ao,aw,cE,dF,ag,ah,wrap64,bU,db,Int.toNat_natCast,Option.bind_some,c9,dd,Ed.b7,Ed.b8,Ed.b9,Ed.re,da,dN,dE,iM,V.bz,V.toInt_int,cond_true,cond_false,nC]
   simp only[ll]
   by_cases h2:aR d[a]! d[j+1]! <0
   ·rw[ag h2] at e
    rw[ag h2]
    exact ⟨t,(cM e).trans h⟩
   ·rw[ah h2] at e
    rw[ah h2]
    exact ⟨_,bd e⟩
  ·rw[ah h1]
   exact ⟨false,bd (by simp (disch:=omega) only[Ap,Ao,aw,ah])⟩
theorem QE {a:Nat}: ∀(n i j:Nat) (d:Array Ed),j+1-i≤n→1≤i→i≤d.size→a<d.size→j<d.size→d.size<1152921504606846976→
  ∃x z,Loop (Am CC a) ((i:Int),(j:Int),eA d)=some (x,(((partLoop ai a i j d).1:Nat):Int),z,eA (partLoop ai a i j d).2):=by
 intro n
 induction n with
 | zero=>
  intro i j d hn h1 h2 ha hj hs
  obtain ⟨t3,e3⟩:=E7 (a:=a) ha hj hs _ i rfl h2
  have g1:=scanUp_ge (fun x=>ai x d[a]!) d j i
  have g2:=scanDown_le (fun x=> !ai x d[a]!) d (scanUp (fun x=>ai x d[a]!) d j i) j
  obtain ⟨t4,e4⟩:=xy (a:=a) (i:=scanUp (fun x=>ai x d[a]!) d j i) ha (by omega) hs j hj
  rw[partLoop_eq,ag (by omega)]
  refine ⟨((scanUp (fun x=>ai x d[a]!) d j i:Nat):Int),true,bd ?_⟩
  simp only[Am,ES,un]
  rw[e3]
  simp only[Option.bind_some,un]
  rw[e4]
  simp (disch:=omega) only[Option.bind_some,un,ic,cond_true]
 | succ n ih=>
  intro i j d hn h1 h2 ha hj hs
  obtain ⟨t3,e3⟩:=E7 (a:=a) ha hj hs _ i rfl h2
  have g1:=scanUp_ge (fun x=>ai x d[a]!) d j i
  have g2:=scanDown_le (fun x=> !ai x d[a]!) d (scanUp (fun x=>ai x d[a]!) d j i) j
  obtain ⟨t4,e4⟩:=xy (a:=a) (i:=scanUp (fun x=>ai x d[a]!) d j i) ha (by omega) hs j hj
  rw[partLoop_eq]
  have f:Am CC a ((i:Int),(j:Int),eA d)=Am CC a ((i:Int),(j:Int),eA d):=rfl
  conv at f=>rhs;simp only[Am,ES,un];rw[e3];simp only[Option.bind_some,un];rw[e4];simp only[Option.bind_some,un]
  generalize my:scanUp (fun x=>ai x d[a]!) d j i=i2 at*
  generalize cp:scanDown (fun x=> !ai x d[a]!) d i2 j=j2 at*
  by_cases h:i2>j2
  ·rw[ag h]
   refine ⟨(i2:Int),true,bd (f.trans ?_)⟩
   simp (disch:=omega) only[Option.bind_some,ic,cond_true]
  ·rw[ah h]
   obtain ⟨x,z,e⟩:=ih (i2+1) (j2-1) (swp d i2 j2) (by omega) (by omega) (by rw[size_swp];omega) (by rw[size_swp];omega) (by rw[size_swp];omega) (by rw[size_swp];omega)
   refine ⟨x,z,(cM (f.trans ?_)).trans e⟩
   simp (disch:=omega) only[aw,cE,dF,ag,ah,wrap64,bU,db,Int.toNat_natCast,Option.bind_some,c9,dd,Ed.b7,Ed.b8,Ed.b9,Ed.re,da,dN,dE,iM,V.bz,V.toInt_int,cond_true,cond_false,fl]
   rfl
theorem QF (d:Array Ed) (a b pivot:Nat):partition ai d a b pivot=
  if scanUp (fun x=>ai x (swp d a pivot)[a]!) (swp d a pivot) (b-1) (a+1)>scanDown (fun x=> !ai x (swp d a pivot)[a]!) (swp d a pivot) (scanUp (fun x=>ai x (swp d a pivot)[a]!) (swp d a pivot) (b-1) (a+1)) (b-1) then
   (scanDown (fun x=> !ai x (swp d a pivot)[a]!) (swp d a pivot) (scanUp (fun x=>ai x (swp d a pivot)[a]!) (swp d a pivot) (b-1) (a+1)) (b-1),true,swp (swp d a pivot) (scanDown (fun x=> !ai x (swp d a pivot)[a]!) (swp d a pivot) (scanUp (fun x=>ai x (swp d a pivot)[a]!) (swp d a pivot) (b-1) (a+1)) (b-1)) a)
  else
   ((partLoop ai a (scanUp (fun x=>ai x (swp d a pivot)[a]!) (swp d a pivot) (b-1) (a+1)+1) (scanDown (fun x=> !ai x (swp d a pivot)[a]!) (swp d a pivot) (scanUp (fun x=>ai x (swp d a pivot)[a]!) (swp d a pivot) (b-1) (a+1)) (b-1)-1) (swp (swp d a pivot) (scanUp (fun x=>ai x (swp d a pivot)[a]!) (swp d a pivot) (b-1) (a+1)) (scanDown (fun x=> !ai x (swp d a pivot)[a]!) (swp d a pivot) (scanUp (fun x=>ai x (swp d a pivot)[a]!) (swp d a pivot) (b-1) (a+1)) (b-1)))).1,false,
    swp (partLoop ai a (scanUp (fun x=>ai x (swp d a pivot)[a]!) (swp d a pivot) (b-1) (a+1)+1) (scanDown (fun x=> !ai x (swp d a pivot)[a]!) (swp d a pivot) (scanUp (fun x=>ai x (swp d a pivot)[a]!) (swp d a pivot) (b-1) (a+1)) (b-1)-1) (swp (swp d a pivot) (scanUp (fun x=>ai x (swp d a pivot)[a]!) (swp d a pivot) (b-1) (a+1)) (scanDown (fun x=> !ai x (swp d a pivot)[a]!) (swp d a pivot) (scanUp (fun x=>ai x (swp d a pivot)[a]!) (swp d a pivot) (b-1) (a+1)) (b-1)))).2
    (partLoop ai a (scanUp (fun x=>ai x (swp d a pivot)[a]!) (swp d a pivot) (b-1) (a+1)+1) (scanDown (fun x=> !ai x (swp d a pivot)[a]!) (swp d a pivot) (scanUp (fun x=>ai x (swp d a pivot)[a]!) (swp d a pivot) (b-1) (a+1)) (b-1)-1) (swp (swp d a pivot) (scanUp (fun x=>ai x (swp d a pivot)[a]!) (swp d a pivot) (b-1) (a+1)) (scanDown (fun x=> !ai x (swp d a pivot)[a]!) (swp d a pivot) (scanUp (fun x=>ai x (swp d a pivot)[a]!) (swp d a pivot) (b-1) (a+1)) (b-1)))).1 a):=rfl
theorem oy (d:Array Ed) (i j:Nat):eA ((d.setIfInBounds i d[j]!).setIfInBounds j d[i]!)=eA (swp d i j):=rfl
theorem QG {a b pivot:Nat} {d:Array Ed} (hp:pivot<b) (cY:a<b) (hb:b≤d.size) (hs:d.size<1152921504606846976):
  CC qb [.int .i64 (a:Int),.int .i64 (b:Int),.int .i64 (pivot:Int),.list ak (eA d)]=
   some [.int .i64 ((partition ai d a b pivot).1:Int),.bool (partition ai d a b pivot).2.1,.list ak (eA (partition ai d a b pivot).2.2)]:=by
 refine aku ?_
 unfold aak
 have z1:(swp d a pivot).size=d.size:=size_swp ..
 obtain ⟨t1,e1⟩:=QD (a:=a) (j:=b-1) (d:=swp d a pivot) (by omega) (by omega) (by omega) _ (a+1) rfl (by omega)
 have g1:=scanUp_ge (fun x=>ai x (swp d a pivot)[a]!) (swp d a pivot) (b-1) (a+1)
 have g2:=scanDown_le (fun x=> !ai x (swp d a pivot)[a]!) (swp d a pivot) (scanUp (fun x=>ai x (swp d a pivot)[a]!) (swp d a pivot) (b-1) (a+1)) (b-1)
 obtain ⟨t2,e2⟩:=E8 (a:=a) (i:=scanUp (fun x=>ai x (swp d a pivot)[a]!) (swp d a pivot) (b-1) (a+1)) (d:=swp d a pivot) (by omega) (by omega) (by omega) (b-1) (by omega)
 have e0:=QF d a b pivot
 rw[fb (i:=pivot) (by omega),fc (by omega),fb (i:=a) (by omega),fc (by omega),fb (i:=a) (by omega),fc (by omega),tJ (i:=pivot) (by omega),tK (by omega)]
 simp only[Ed.b7,Ed.b8,Ed.b9,Ed.re,Int.toNat_natCast,da,oy]
 simp (disch:=omega) only[fl,bU,wrap64]
 rw[e1]
 simp only[Option.bind_some,un]
 rw[e2]
 simp only[Option.bind_some,un]
 generalize my:scanUp (fun x=>ai x (swp d a pivot)[a]!) (swp d a pivot) (b-1) (a+1)=i2 at*
 generalize cp:scanDown (fun x=> !ai x (swp d a pivot)[a]!) (swp d a pivot) i2 (b-1)=j2 at*
 generalize swp d a pivot=d1 at*
 by_cases h:i2>j2
 ·rw[ag h] at e0
  rw[e0,aw,ag (by omega)]
  rw[fb (i:=a) (by omega)];(first|rw[fc (by omega)]|rw[kf (by omega)]);rw[fb (i:=j2) (by omega)];(first|rw[fc (by omega)]|rw[kf (by omega)]);rw[fb (i:=j2) (by omega)];(first|rw[fc (by omega)]|rw[kf (by omega)]);rw[tJ (i:=a) (by omega)];(first|rw[tK (by omega)]|rw[xx (by omega)])
  simp only[Ed.b7,Ed.b8,Ed.b9,Ed.re,Int.toNat_natCast,da,oy]
 ·rw[ah h] at e0
  rw[e0,aw,ah (by omega)]
  have z2:(swp d1 i2 j2).size=d1.size:=size_swp ..
  obtain ⟨x,z,e5⟩:=QE (a:=a) _ (i2+1) (j2-1) (swp d1 i2 j2) (aE _) (by omega) (by omega) (by omega) (by omega) (by omega)
  obtain ⟨q1,q2⟩:=QC (a:=a) _ (i2+1) (j2-1) (swp d1 i2 j2) (aE _)
  rw[fb (i:=j2) (by omega)];(first|rw[fc (by omega)]|rw[kf (by omega)]);rw[fb (i:=i2) (by omega)];(first|rw[fc (by omega)]|rw[kf (by omega)]);rw[fb (i:=i2) (by omega)];(first|rw[fc (by omega)]|rw[kf (by omega)]);rw[tJ (i:=j2) (by omega)];(first|rw[tK (by omega)]|rw[xx (by omega)])
  simp only[Ed.b7,Ed.b8,Ed.b9,Ed.re,Int.toNat_natCast,da,oy]
  simp (disch:=omega) only[fl,bU,wrap64]
  rw[e5]
  generalize partLoop ai a (i2+1) (j2-1) (swp d1 i2 j2)=r at*
  simp only[Option.bind_some,un]
  rw[fb (i:=a) (by omega)];(first|rw[fc (by omega)]|rw[kf (by omega)]);rw[fb (i:=r.1) (by omega)];(first|rw[fc (by omega)]|rw[kf (by omega)]);rw[fb (i:=r.1) (by omega)];(first|rw[fc (by omega)]|rw[kf (by omega)]);rw[tJ (i:=a) (by omega)];(first|rw[tK (by omega)]|rw[xx (by omega)])
  simp only[Ed.b7,Ed.b8,Ed.b9,Ed.re,Int.toNat_natCast,da,oy]
theorem QH {a:Nat}: ∀(n i j:Nat) (d:Array Ed),j+1-i≤n→1≤i→i≤d.size→a<d.size→j<d.size→d.size<1152921504606846976→
  ∃x z,Loop (Aq CC a) ((i:Int),(j:Int),eA d)=some ((((partEqLoop ai a i j d).1:Nat):Int),x,z,eA (partEqLoop ai a i j d).2):=by
 intro n
 induction n with
 | zero=>
  intro i j d hn h1 h2 ha hj hs
  obtain ⟨t3,e3⟩:=E9 (a:=a) ha hj hs _ i rfl h2
  have g1:=scanUp_ge (fun x=> !ai d[a]! x) d j i
  have g2:=scanDown_le (fun x=>ai d[a]! x) d (scanUp (fun x=> !ai d[a]! x) d j i) j
  obtain ⟨t4,e4⟩:=xz (a:=a) (i:=scanUp (fun x=> !ai d[a]! x) d j i) ha (by omega) hs j hj
  rw[partEqLoop_eq,ag (by omega)]
  refine ⟨((scanDown (fun x=>ai d[a]! x) d (scanUp (fun x=> !ai d[a]! x) d j i) j:Nat):Int),true,bd ?_⟩
  simp only[Aq,EW,un]
  rw[e3]
  simp only[Option.bind_some,un]
  rw[e4]
  simp (disch:=omega) only[Option.bind_some,un,ic,cond_true]
 | succ n ih=>
  intro i j d hn h1 h2 ha hj hs
  obtain ⟨t3,e3⟩:=E9 (a:=a) ha hj hs _ i rfl h2
  have g1:=scanUp_ge (fun x=> !ai d[a]! x) d j i
  have g2:=scanDown_le (fun x=>ai d[a]! x) d (scanUp (fun x=> !ai d[a]! x) d j i) j
  obtain ⟨t4,e4⟩:=xz (a:=a) (i:=scanUp (fun x=> !ai d[a]! x) d j i) ha (by omega) hs j hj
  rw[partEqLoop_eq]
  have f:Aq CC a ((i:Int),(j:Int),eA d)=Aq CC a ((i:Int),(j:Int),eA d):=rfl
  conv at f=>rhs;simp only[Aq,EW,un];rw[e3];simp only[Option.bind_some,un];rw[e4];simp only[Option.bind_some,un]
  generalize my:scanUp (fun x=> !ai d[a]! x) d j i=i2 at*
  generalize cp:scanDown (fun x=>ai d[a]! x) d i2 j=j2 at*
  by_cases h:i2>j2
  ·rw[ag h]
   refine ⟨(j2:Int),true,bd (f.trans ?_)⟩
   simp (disch:=omega) only[Option.bind_some,ic,cond_true]
  ·rw[ah h]
   obtain ⟨x,z,e⟩:=ih (i2+1) (j2-1) (swp d i2 j2) (by omega) (by omega) (by rw[size_swp];omega) (by rw[size_swp];omega) (by rw[size_swp];omega) (by rw[size_swp];omega)
   refine ⟨x,z,(cM (f.trans ?_)).trans e⟩
   simp (disch:=omega) only[aw,cE,dF,ag,ah,wrap64,bU,db,Int.toNat_natCast,Option.bind_some,c9,dd,Ed.b7,Ed.b8,Ed.b9,Ed.re,da,dN,dE,iM,V.bz,V.toInt_int,cond_true,cond_false,fl]
   rfl
theorem QI {a b pivot:Nat} {d:Array Ed} (hp:pivot<b) (cY:a<b) (hb:b≤d.size) (hs:d.size<1152921504606846976):
  CC zx [.int .i64 (a:Int),.int .i64 (b:Int),.int .i64 (pivot:Int),.list ak (eA d)]=
   some [.int .i64 ((partitionEqual ai d a b pivot).1:Int),.list ak (eA (partitionEqual ai d a b pivot).2)]:=by
 refine akA ?_
 unfold aam
 have z1:(swp d a pivot).size=d.size:=size_swp ..
 obtain ⟨x,z,e⟩:=QH (a:=a) _ (a+1) (b-1) (swp d a pivot) (aE _) (by omega) (by omega) (by omega) (by omega) (by omega)
 simp (disch:=omega) only[aw,cE,ag,c9,dd,Int.toNat_natCast,Option.bind_some,Ed.b7,Ed.b8,Ed.b9,Ed.re,da,dN,dE,fl,bU,wrap64,oy]
 rw[e]
 rfl
theorem QJ {a b j:Nat} {d:Array Ed} (hb:b≤d.size) (hs:d.size<1152921504606846976): ∀(n i:Nat),b-i=n→1≤i→i≤b→
  ∃t,Loop (EY CC a b j (eA d)) (i:Int)=some (((scanSorted ai d b i:Nat):Int),t):=by
 intro n
 induction n with
 | zero=>
  intro i hn h1 hi
  rw[tH,ah (by omega)]
  exact ⟨false,bd (by simp (disch:=omega) only[EY,EX,aw,ah])⟩
 | succ n ih=>
  intro i hn h1 hi
  obtain ⟨t,h⟩:=ih (i+1) (by omega) (by omega) (by omega)
  rw[tH,ag (by omega)]
  have e:EY CC a b j (eA d) (i:Int)=if aR d[i]! d[i-1]! <0 then some (.inr ((i:Int),!decide (aR d[i]! d[i-1]! <0))) else some (.inl ((i+1:Nat):Int)):=by
   simp (disch:=omega) only[EY,EX,fl,aw,cE,dF,ag,ah,wrap64,bU,db,Int.toNat_natCast,Option.bind_some,c9,dd,Ed.b7,Ed.b8,Ed.b9,Ed.re,da,dN,dE,iM,V.bz,V.toInt_int,cond_true,cond_false]
  by_cases h2:aR d[i]! d[i-1]! <0
  ·rw[ag h2] at e⊢
   exact ⟨_,bd e⟩
  ·rw[ah h2] at e⊢
   exact ⟨t,(cM e).trans h⟩
theorem Fa: ∀(j:Nat) (d:Array Ed),(shiftDown ai j d).size=d.size
 | 0,_=>rfl
 | j+1,d=>by
  rw[E6]
  split
  ·rw[Fa j,size_swp]
  ·rfl
theorem QK {b:Nat}: ∀(n j:Nat) (d:Array Ed),b-j=n→(shiftUp ai b j d).size=d.size:=by
 intro n
 induction n with
 | zero=>intro j d h;rw[tI,ah (by omega)]
 | succ n ih=>
  intro j d h
  rw[tI,ag (by omega)]
  split
  ·rw[ih _ _ (by omega),size_swp]
  ·rfl
theorem Fb {a b i k:Nat}: ∀(j:Nat) (d:Array Ed),j<d.size→d.size<1152921504606846976→
  ∃t,Loop (E0 CC a b i k) ((j:Int),eA d)=some (t,eA (shiftDown ai j d))
 | 0,d,hj,hs=>⟨(0:Nat),bd (by
   simp (disch:=omega) only[E0,EZ,un,aw,ah]
   rfl)⟩
 | j+1,d,hj,hs=>by
  obtain ⟨t,ih⟩:=Fb (a:=a) (b:=b) (i:=i) (k:=k) j (swp d (j+1) j) (by rw[size_swp];omega) (by rw[size_swp];omega)
  rw[E6]
  have e:E0 CC a b i k (((j+1:Nat):Int),eA d)=if aR d[j+1]! d[j]! <0 then some (.inl ((j:Int),eA (swp d (j+1) j))) else some (.inr (((j+1:Nat):Int),eA d)):=by
   simp (disch:=omega) only[E0,EZ,un,aw,cE,dF,ag,ah,wrap64,bU,db,Int.toNat_natCast,Option.bind_some,c9,dd,Ed.b7,Ed.b8,Ed.b9,Ed.re,da,dN,dE,iM,V.bz,V.toInt_int,cond_true,cond_false,nC]
   rfl
  by_cases h2:aR d[j+1]! d[j]! <0
  ·rw[ag h2] at e⊢
   exact ⟨t,(cM e).trans ih⟩
  ·rw[ah h2] at e⊢
   exact ⟨_,bd e⟩
theorem QL {a b i k:Nat}: ∀(n j:Nat) (d:Array Ed),b-j=n→1≤j→j≤b→b≤d.size→d.size<1152921504606846976→
  ∃t,Loop (E2 CC a b i k) ((j:Int),eA d)=some (t,eA (shiftUp ai b j d)):=by
 intro n
 induction n with
 | zero=>
  intro j d hn h1 hj hb hs
  rw[tI,ah (by omega)]
  exact ⟨(j:Int),bd (by
   simp (disch:=omega) only[E2,E1,un,aw,ah])⟩
 | succ n ih=>
  intro j d hn h1 hj hb hs
  obtain ⟨t,h⟩:=ih (j+1) (swp d j (j-1)) (by omega) (by omega) (by omega) (by rw[size_swp];omega) (by rw[size_swp];omega)
  rw[tI,ag (by omega)]
  have e:E2 CC a b i k ((j:Int),eA d)=if aR d[j]! d[j-1]! <0 then some (.inl (((j+1:Nat):Int),eA (swp d j (j-1)))) else some (.inr ((j:Int),eA d)):=by
   simp (disch:=omega) only[E2,E1,un,fl,aw,cE,dF,ag,ah,wrap64,bU,db,Int.toNat_natCast,Option.bind_some,c9,dd,Ed.b7,Ed.b8,Ed.b9,Ed.re,da,dN,dE,iM,V.bz,V.toInt_int,cond_true,cond_false]
   rfl
  by_cases h2:aR d[j]! d[j-1]! <0
  ·rw[ag h2] at e⊢
   exact ⟨t,(cM e).trans h⟩
  ·rw[ah h2] at e⊢
   exact ⟨_,bd e⟩
theorem QM {d:Array Ed} {b:Nat}: ∀(n i:Nat),b-i=n→i≤b→i≤scanSorted ai d b i∧scanSorted ai d b i≤b:=by
 intro n
 induction n with
 | zero=>intro i hn hi;rw[tH,ah (by omega)];omega
 | succ n ih=>
  intro i hn hi
  rw[tH,ag (by omega)]
  obtain ⟨h1,h2⟩:=ih (i+1) (by omega) (by omega)
  split<;>omega
theorem QN {a b:Nat}: ∀(s i:Nat) (d:Array Ed),s≤5→a<i→i≤b→b≤d.size→d.size<1152921504606846976→
  (Loop (vh CC a b) ((i:Int),((5-s:Nat):Int),eA d)=some (.inl ((partialIns ai a b s i d).2,eA (partialIns ai a b s i d).1)))∨
  (∃x y z,(partialIns ai a b s i d).2=false∧Loop (vh CC a b) ((i:Int),((5-s:Nat):Int),eA d)=some (.inr (x,y,z,eA (partialIns ai a b s i d).1))):=by
 intro s
 induction s with
 | zero=>
  intro i d QO hi xA hb hs
  refine .inr ⟨(i:Int),((5:Nat):Int),false,rfl,bd ?_⟩
  simp (disch:=omega) only[vh,E3,un,mc,cond_false]
  rfl
 | succ s ih=>
  intro i d QO hi xA hb hs
  obtain ⟨t1,e1⟩:=QJ (a:=a) (j:=5-(s+1)) hb hs _ i rfl (by omega) xA
  obtain ⟨q1,q2⟩:=QM (d:=d) _ i rfl xA
  rw[partialIns_succ]
  have f:vh CC a b ((i:Int),((5-(s+1):Nat):Int),eA d)=vh CC a b ((i:Int),((5-(s+1):Nat):Int),eA d):=rfl
  conv at f=>rhs;simp only[vh,E3,un];rw[aw,ag (by omega),e1];simp only[Option.bind_some,un]
  generalize scanSorted ai d b i=k at*
  by_cases h1:k=b
  ·rw[ag h1]
   left
   refine bd (f.trans ?_)
   rw[lV,ag (by omega)]
  ·rw[ah h1]
   by_cases h2:b-a<50
   ·rw[ag h2]
    left
    refine bd (f.trans ?_)
    rw[lV,ah (by omega),wrap64 (by omega) (by omega),aw,ag (by omega)]
   ·rw[ah h2]
    have z1:(swp d k (k-1)).size=d.size:=size_swp ..
    have z2:(fixDown ai a k (swp d k (k-1))).size=d.size:=by
     unfold fixDown
     split
     ·rw[Fa,z1]
     ·exact z1
    have z3:(fixUp ai b k (fixDown ai a k (swp d k (k-1)))).size=d.size:=by
     unfold fixUp
     split
     ·rw[QK _ _ _ rfl,z2]
     ·exact z2
    obtain ⟨t2,e2⟩:=Fb (a:=a) (b:=b) (i:=k) (k:=5-(s+1)) (k-1) (swp d k (k-1)) (by omega) (by omega)
    obtain ⟨t4,e4⟩:=QL (a:=a) (b:=b) (i:=k) (k:=5-(s+1)) _ (k+1) (fixDown ai a k (swp d k (k-1))) rfl (by omega) (by omega) (by omega) (by omega)
    have e5:vh CC a b ((i:Int),((5-(s+1):Nat):Int),eA d)=some (.inl ((k:Int),((5-s:Nat):Int),eA (fixUp ai b k (fixDown ai a k (swp d k (k-1)))))):=by
     refine f.trans ?_
     rw[lV,ah (by omega),wrap64 (by omega) (by omega),aw,ah (by omega)]
     simp (disch:=omega) only[aw,cE,ag,c9,dd,Int.toNat_natCast,Option.bind_some,Ed.b7,Ed.b8,Ed.b9,Ed.re,da,dN,dE,fl,bU,gv,wrap64,oy,Kl]
     rw[show 5-(s+1)+1=5-s by omega]
     unfold fixDown at e4⊢
     unfold fixUp
     have c1:(((k-a:Nat):Int)≥2)=(k-a≥2):=propext (by omega)
     have c2:(((b-k:Nat):Int)≥2)=(b-k≥2):=propext (by omega)
     simp only[c1,c2]
     by_cases g1:k-a≥2
     ·by_cases g2:b-k≥2
      ·simp only[g1,g2,gy,e2,Option.bind_some,un] at e4⊢
       rw[e4]
       rfl
      ·simp only[g1,g2,gy,iP,e2,Option.bind_some,un]
     ·by_cases g2:b-k≥2
      ·simp only[g1,g2,gy,iP] at e4⊢
       rw[e4]
       rfl
      ·exact absurd (show b-k≥2 by omega) g2
    rw[cM e5]
    exact ih k _ (by omega) (by omega) (by omega) (by omega) (by omega)
theorem Fc {a b:Nat} {d:Array Ed} (cY:a<b) (hb:b≤d.size) (hs:d.size<1152921504606846976):
  CC Nm [.int .i64 (a:Int),.int .i64 (b:Int),.list ak (eA d)]=
   some [.bool (partialInsertionSort ai d a b).2,.list ak (eA (partialInsertionSort ai d a b).1)]:=by
 refine akL ?_
 unfold aao
 simp (disch:=omega) only[bU,wrap64]
 rcases QN (a:=a) (b:=b) 5 (a+1) d (aE _) (by omega) (by omega) hb hs with h|⟨x,y,z,h0,h⟩
 ·rw[show ((5-5:Nat):Int)=0 from rfl] at h
  rw[h]
  rfl
 ·rw[show ((5-5:Nat):Int)=0 from rfl] at h
  rw[h]
  unfold partialInsertionSort
  rw[h0]
  rfl
end Go.AM.SL
set_option maxRecDepth 100000
namespace Go.AM
open Go.Proofs
noncomputable abbrev vi:Code:=cA Tryd.prog (au.aU 173)
noncomputable def Fe (C:ae) (data:List V) (i j k':Int) (t36:Bool) (dB:Int) {β:Type} (kr:(Int × Int × Int × Int)→Option β):Option β:=
 bif t36 then
  (C C2 [.list ak data,.int .i64 i,.int .i64 dB]).bind fun r1=>
  (C C2 [.list ak data,.int .i64 j,.int .i64 ((V.nth (r1.drop 1) 0).toInt)]).bind fun r2=>
  (C C2 [.list ak data,.int .i64 k',.int .i64 ((V.nth (r2.drop 1) 0).toInt)]).bind fun r3=>
  kr ((V.nth r1 0).toInt,(V.nth r2 0).toInt,(V.nth r3 0).toInt,(V.nth (r3.drop 1) 0).toInt)
 else
  kr (i,j,k',dB)
noncomputable def Ff (C:ae) (data:List V) (l i j k':Int) (t34:Bool) (dB:Int) {β:Type} (kr:(Int × Int)→Option β):Option β:=
 bif t34 then
  Fe C data i j k' (decide ((l:Int)≥50)) dB (un fun (cL:Int)=>un fun (QP:Int)=>un fun (QQ:Int) (QR:Int)=>
   (C IS [.list ak data,.int .i64 cL,.int .i64 QP,.int .i64 QQ,.int .i64 QR]).bind fun r8=>
   kr ((V.nth r8 0).toInt,(V.nth (r8.drop 1) 0).toInt))
 else
  kr (j,dB)
noncomputable def aap (C:ae):cl:=fun β n ds k=>
 bif Nat.beq n 591 then jb Pd [[1,0,0,0,0]] (@Fe C) ds k else
 bif Nat.beq n 559 then jb Pe [[0,0]] (@Ff C) ds k else
 none
abbrev aaq (C:ae) (b:ch):Prop:=cj Tryd.prog au C (aap C) 173 (cH Tryd.prog (au.aU 173)) (au.sin 173).aZ.length b
theorem akM (C:ae):aaq C (.cond 36 (aq [1,1,1,1,1,1,0,1,0,0,1,0] vi) (aq [1,1,1,1,1,1,0,1,0,0,1,1] vi)):=
 jy Pd [[1,0,0,0,0]] (@Fe C) (by kernel_rfl) (aK (bs:=[]) (by kernel_rfl) ar) (aK (bs:=[]) (by kernel_rfl) ar) (fun ds=>by kernel_rfl) (fun i β k=>by kernel_rfl) (fun β ds k=>by kernel_rfl)
theorem akN (C:ae):aaq C (.cond 34 (aq [1,1,1,1,1,1,0,1,0] vi) (aq [1,1,1,1,1,1,0,1,1] vi)):=
 jy Pe [[0,0]] (@Ff C) (by kernel_rfl) (aK (bs:=[.cond 36 (aq [1,1,1,1,1,1,0,1,0,0,1,0] vi) (aq [1,1,1,1,1,1,0,1,0,0,1,1] vi)]) (by kernel_rfl) (aY (akM C) ar)) (aK (bs:=[]) (by kernel_rfl) ar) (fun ds=>by kernel_rfl) (fun i β k=>by kernel_rfl) (fun β ds k=>by kernel_rfl)
noncomputable def QS (C:ae) (data:List V) (a b':Int):Option (List V):=
 Ff C data (IntKind.wrap .i64 (b'-a)) (IntKind.wrap .i64 (a+(IntKind.wrap .i64 (1*(IntKind.wrap .i64 (Int.tdiv (IntKind.wrap .i64 (b'-a)) 4)))))) (IntKind.wrap .i64 (a+(IntKind.wrap .i64 (2*(IntKind.wrap .i64 (Int.tdiv (IntKind.wrap .i64 (b'-a)) 4)))))) (IntKind.wrap .i64 (a+(IntKind.wrap .i64 (3*(IntKind.wrap .i64 (Int.tdiv (IntKind.wrap .i64 (b'-a)) 4)))))) (decide (((IntKind.wrap .i64 (b'-a)):Int)≥8)) 0 (un fun (xB:Int) (Fg:Int)=>
  bif (Fg:Int)==0 then
   some [.int .i64 xB,.int .i64 1]
  else
   bif (Fg:Int)==12 then
   some [.int .i64 xB,.int .i64 2]
   else
   some [.int .i64 xB,.int .i64 0])
theorem aar {data:List V} {a b':Int} {r:Option (List V)} (h:QS CC data a b'=r):CC IQ [.list ak data,.int .i64 a,.int .i64 b']=r:=
 bp (key:=173) (L:=aap CC) (bs:=[.cond 34 (aq [1,1,1,1,1,1,0,1,0] vi) (aq [1,1,1,1,1,1,0,1,1] vi)]) (by kernel_rfl) (aY (akN CC) ar) (bn (by kernel_rfl) h)
noncomputable def aas (C:ae) (data:List V) (a b' c dB:Int):Option (List V):=
 (C C3 [.list ak data,.int .i64 a,.int .i64 b',.int .i64 dB]).bind fun r1=>
 (C C3 [.list ak data,.int .i64 ((V.nth (r1.drop 1) 0).toInt),.int .i64 c,.int .i64 ((V.nth (r1.drop 2) 0).toInt)]).bind fun r2=>
 (C C3 [.list ak data,.int .i64 ((V.nth r1 0).toInt),.int .i64 ((V.nth r2 0).toInt),.int .i64 ((V.nth (r2.drop 2) 0).toInt)]).bind fun r3=>
 some [.int .i64 ((V.nth (r3.drop 1) 0).toInt),.int .i64 ((V.nth (r3.drop 2) 0).toInt)]
theorem akO {data:List V} {a b' c dB:Int} {r:Option (List V)} (h:aas CC data a b' c dB=r):CC IS [.list ak data,.int .i64 a,.int .i64 b',.int .i64 c,.int .i64 dB]=r:=
 bp (key:=175) (L:=di) (bs:=[]) (by kernel_rfl) ar (bn (by kernel_rfl) h)
noncomputable def QT (C:ae) (data:List V) (a b' dB:Int):Option (List V):=
 (idx data b').bind fun x1=>
 (idx data a).bind fun x2=>
 (C bD [.int .i64 ((x1.cell 0).toInt),.int .i64 ((x1.cell 1).toInt),.int .i64 ((x1.cell 2).toInt),.int .i64 ((x2.cell 0).toInt),.int .i64 ((x2.cell 1).toInt),.int .i64 ((x2.cell 2).toInt)]).bind fun r3=>
 bif decide ((((V.nth r3 0).toInt):Int)<0) then
  some [.int .i64 b',.int .i64 a,.int .i64 (IntKind.wrap .i64 (dB+1))]
 else
  some [.int .i64 a,.int .i64 b',.int .i64 dB]
theorem aat {data:List V} {a b' dB:Int} {r:Option (List V)} (h:QT CC data a b' dB=r):CC C3 [.list ak data,.int .i64 a,.int .i64 b',.int .i64 dB]=r:=
 bp (key:=176) (L:=di) (bs:=[]) (by kernel_rfl) ar (bn (by kernel_rfl) h)
noncomputable def aau (C:ae) (data:List V) (a dB:Int):Option (List V):=
 (C IS [.list ak data,.int .i64 (IntKind.wrap .i64 (a-1)),.int .i64 a,.int .i64 (IntKind.wrap .i64 (a+1)),.int .i64 dB]).bind fun r1=>
 some [.int .i64 ((V.nth r1 0).toInt),.int .i64 ((V.nth (r1.drop 1) 0).toInt)]
theorem akP {data:List V} {a dB:Int} {r:Option (List V)} (h:aau CC data a dB=r):CC C2 [.list ak data,.int .i64 a,.int .i64 dB]=r:=
 bp (key:=174) (L:=di) (bs:=[]) (by kernel_rfl) ar (bn (by kernel_rfl) h)
noncomputable abbrev Ar:Code:=cA Tryd.prog (au.aU 172)
noncomputable def Km (C:ae) (a length oz eR other:Int) (t45:Bool) (ab:List V) (qk:Int) {β:Type} (kr:(Int)→Option β):Option β:=
 bif t45 then
  kr (IntKind.wrap .i64 (other-length))
 else
  kr other
noncomputable def Fh (C:ae) (a length oz eR:Int) (ab:List V) (qk:Int) {β:Type} (kn:(Int × (List V) × Int)→Option β) (kr:(Int × Bool × (List V) × Int)→Option β):Option β:=
 bif decide ((eR:Int)≤(IntKind.wrap .i64 ((IntKind.wrap .i64 (a+(IntKind.wrap .i64 (2*(IntKind.wrap .i64 (Int.tdiv length 4))))))+1))) then
  (C zu [.int .u64 qk]).bind fun r2=>
  Km C a length oz eR (IntKind.wrap .i64 (IntKind.wrap .u64 ((BitVec.ofInt (IntKind.bits .u64) ((V.nth r2 0).toInt)&&&BitVec.ofInt (IntKind.bits .u64) (IntKind.wrap .u64 (oz-1))).toNat))) (decide (((IntKind.wrap .i64 (IntKind.wrap .u64 ((BitVec.ofInt (IntKind.bits .u64) ((V.nth r2 0).toInt)&&&BitVec.ofInt (IntKind.bits .u64) (IntKind.wrap .u64 (oz-1))).toNat))):Int)≥length)) ab ((V.nth (r2.drop 1) 0).toInt) (fun (mN:Int)=>
   bif (decide (0≤(IntKind.wrap .i64 (a+mN))))&&(decide ((IntKind.wrap .i64 (a+mN))<(ab.length:Int))) then
   (ab[(IntKind.wrap .i64 (a+mN):Int).toNat]?).bind fun x4=>
   bif (decide (0≤eR))&&(decide (eR<(ab.length:Int))) then
    (ab[(eR:Int).toNat]?).bind fun x5=>
    bif (decide (0≤eR))&&(decide (eR<(ab.length:Int))) then
    (ab[(eR:Int).toNat]?).bind fun x6=>
    bif (decide (0≤(IntKind.wrap .i64 (a+mN))))&&(decide ((IntKind.wrap .i64 (a+mN))<((ab.set ((eR:Int).toNat) (.agg [.int .i64 ((x4.cell 0).toInt),.int .i64 ((x4.cell 1).toInt),.int .i64 ((x4.cell 2).toInt)])).length:Int))) then
     ((ab.set ((eR:Int).toNat) (.agg [.int .i64 ((x4.cell 0).toInt),.int .i64 ((x4.cell 1).toInt),.int .i64 ((x4.cell 2).toInt)]))[(IntKind.wrap .i64 (a+mN):Int).toNat]?).bind fun x7=>
     kn (IntKind.wrap .i64 (eR+1),(ab.set ((eR:Int).toNat) (.agg [.int .i64 ((x4.cell 0).toInt),.int .i64 ((x4.cell 1).toInt),.int .i64 ((x4.cell 2).toInt)])).set ((IntKind.wrap .i64 (a+mN):Int).toNat) (.agg [.int .i64 ((x5.cell 0).toInt),.int .i64 ((x5.cell 1).toInt),.int .i64 ((x5.cell 2).toInt)]),(V.nth (r2.drop 1) 0).toInt)
    else none
    else none
   else none
   else none)
 else
  kr (eR,decide ((eR:Int)≤(IntKind.wrap .i64 ((IntKind.wrap .i64 (a+(IntKind.wrap .i64 (2*(IntKind.wrap .i64 (Int.tdiv length 4))))))+1))),ab,qk)
noncomputable def Kn (C:ae) (a length oz:Int):(Int × (List V) × Int)→Option ((Int × (List V) × Int) ⊕ (Int × Bool × (List V) × Int)):=un fun eR=>un fun ab qk=>Fh C a length oz eR ab qk (fun y=>some (.inl y)) (fun r=>some (.inr r))
noncomputable def aav (C:ae):cl:=fun β n ds k=>
 bif Nat.beq n 735 then jb Pb [[1,2,3,4,0,7,8]] (@Km C) ds k else
 bif Nat.beq n 81 then bt Pc [false,false,false,true,true,true] [[1,2,3,0,0,0,0]] (@Fh C) ds k else
 none
abbrev aaw (C:ae) (b:ch):Prop:=cj Tryd.prog au C (aav C) 172 (cH Tryd.prog (au.aU 172)) (au.sin 172).aZ.length b
theorem akQ (C:ae):aaw C (.cond 45 (aq [1,1,0,1,1,1,0,0,1,0,0,1,0,1,0] Ar) (aq [1,1,0,1,1,1,0,0,1,0,0,1,0,1,1] Ar)):=
 jy Pb [[1,2,3,4,0,7,8]] (@Km C) (by kernel_rfl) (aK (bs:=[]) (by kernel_rfl) ar) (aK (bs:=[]) (by kernel_rfl) ar) (fun ds=>by kernel_rfl) (fun i β k=>by kernel_rfl) (fun β ds k=>by kernel_rfl)
theorem akR (C:ae):aaw C (.loop (aq [1,1,0,1,1,1,0,0] Ar)):=
 bA Pc [false,false,false,true,true,true] [[1,2,3,0,0,0,0]] (@Fh C) (by kernel_rfl) (aK (bs:=[.cond 45 (aq [1,1,0,1,1,1,0,0,1,0,0,1,0,1,0] Ar) (aq [1,1,0,1,1,1,0,0,1,0,0,1,0,1,1] Ar)]) (by kernel_rfl) (aY (akQ C) ar)) (fun ds=>by kernel_rfl) (fun i x=>by kernel_rfl) (fun i x β k=>by kernel_rfl) (fun β ds k=>by kernel_rfl)
noncomputable def aax (C:ae) (a b':Int) (ab:List V):Option (List V):=
 bif decide (((IntKind.wrap .i64 (b'-a)):Int)≥8) then
  (C zt [.int .i64 (IntKind.wrap .i64 (b'-a))]).bind fun r1=>
  (Loop (Kn C a (IntKind.wrap .i64 (b'-a)) ((V.nth r1 0).toInt)) (IntKind.wrap .i64 ((IntKind.wrap .i64 (a+(IntKind.wrap .i64 (2*(IntKind.wrap .i64 (Int.tdiv (IntKind.wrap .i64 (b'-a)) 4))))))-1),ab,IntKind.wrap .u64 (IntKind.wrap .i64 (b'-a)))).bind (un fun (akS:Int)=>un fun (pq:Bool)=>un fun (iA:List V) (akT:Int)=>
   some [.list ak iA])
 else
  some [.list ak ab]
theorem akU {a b':Int} {ab:List V} {r:Option (List V)} (h:aax CC a b' ab=r):CC Nk [.int .i64 a,.int .i64 b',.list ak ab]=r:=
 bp (key:=172) (L:=aav CC) (bs:=[.loop (aq [1,1,0,1,1,1,0,0] Ar)]) (by kernel_rfl) (aY (akR CC) ar) (bn (by kernel_rfl) h)
noncomputable def QU (C:ae) (kg:Int):Option (List V):=
 some [.int .u64 (IntKind.wrap .u64 ((BitVec.ofInt (IntKind.bits .u64) (IntKind.wrap .u64 ((BitVec.ofInt (IntKind.bits .u64) (IntKind.wrap .u64 ((BitVec.ofInt (IntKind.bits .u64) kg ^^^ BitVec.ofInt (IntKind.bits .u64) (IntKind.wrap .u64 (kg*2^(min (13:Int).toNat (IntKind.bits .u64))))).toNat)) ^^^ BitVec.ofInt (IntKind.bits .u64) (Int.fdiv (IntKind.wrap .u64 ((BitVec.ofInt (IntKind.bits .u64) kg ^^^ BitVec.ofInt (IntKind.bits .u64) (IntKind.wrap .u64 (kg*2^(min (13:Int).toNat (IntKind.bits .u64))))).toNat)) (2^(min (7:Int).toNat (IntKind.bits .u64))))).toNat)) ^^^ BitVec.ofInt (IntKind.bits .u64) (IntKind.wrap .u64 ((IntKind.wrap .u64 ((BitVec.ofInt (IntKind.bits .u64) (IntKind.wrap .u64 ((BitVec.ofInt (IntKind.bits .u64) kg ^^^ BitVec.ofInt (IntKind.bits .u64) (IntKind.wrap .u64 (kg*2^(min (13:Int).toNat (IntKind.bits .u64))))).toNat)) ^^^ BitVec.ofInt (IntKind.bits .u64) (Int.fdiv (IntKind.wrap .u64 ((BitVec.ofInt (IntKind.bits .u64) kg ^^^ BitVec.ofInt (IntKind.bits .u64) (IntKind.wrap .u64 (kg*2^(min (13:Int).toNat (IntKind.bits .u64))))).toNat)) (2^(min (7:Int).toNat (IntKind.bits .u64))))).toNat))*2^(min (17:Int).toNat (IntKind.bits .u64))))).toNat)),.int .u64 (IntKind.wrap .u64 ((BitVec.ofInt (IntKind.bits .u64) (IntKind.wrap .u64 ((BitVec.ofInt (IntKind.bits .u64) (IntKind.wrap .u64 ((BitVec.ofInt (IntKind.bits .u64) kg ^^^ BitVec.ofInt (IntKind.bits .u64) (IntKind.wrap .u64 (kg*2^(min (13:Int).toNat (IntKind.bits .u64))))).toNat)) ^^^ BitVec.ofInt (IntKind.bits .u64) (Int.fdiv (IntKind.wrap .u64 ((BitVec.ofInt (IntKind.bits .u64) kg ^^^ BitVec.ofInt (IntKind.bits .u64) (IntKind.wrap .u64 (kg*2^(min (13:Int).toNat (IntKind.bits .u64))))).toNat)) (2^(min (7:Int).toNat (IntKind.bits .u64))))).toNat)) ^^^ BitVec.ofInt (IntKind.bits .u64) (IntKind.wrap .u64 ((IntKind.wrap .u64 ((BitVec.ofInt (IntKind.bits .u64) (IntKind.wrap .u64 ((BitVec.ofInt (IntKind.bits .u64) kg ^^^ BitVec.ofInt (IntKind.bits .u64) (IntKind.wrap .u64 (kg*2^(min (13:Int).toNat (IntKind.bits .u64))))).toNat)) ^^^ BitVec.ofInt (IntKind.bits .u64) (Int.fdiv (IntKind.wrap .u64 ((BitVec.ofInt (IntKind.bits .u64) kg ^^^ BitVec.ofInt (IntKind.bits .u64) (IntKind.wrap .u64 (kg*2^(min (13:Int).toNat (IntKind.bits .u64))))).toNat)) (2^(min (7:Int).toNat (IntKind.bits .u64))))).toNat))*2^(min (17:Int).toNat (IntKind.bits .u64))))).toNat))]
theorem aay {kg:Int} {r:Option (List V)} (h:QU CC kg=r):CC zu [.int .u64 kg]=r:=
 bp (key:=143) (L:=di) (bs:=[]) (by kernel_rfl) ar (bn (by kernel_rfl) h)
noncomputable def QV (C:ae) (length:Int):Option (List V):=
 (C wY [.int .u64 (IntKind.wrap .u64 length)]).bind fun r1=>
 bif decide (0≤((V.nth r1 0).toInt)) then
  some [.int .u64 (IntKind.wrap .u64 (1*2^(min ((V.nth r1 0).toInt).toNat (IntKind.bits .u64))))]
 else none
theorem aaz {length:Int} {r:Option (List V)} (h:QV CC length=r):CC zt [.int .i64 length]=r:=
 bp (key:=142) (L:=di) (bs:=[]) (by kernel_rfl) ar (bn (by kernel_rfl) h)
noncomputable def QW (C:ae) (x:Int):Option (List V):=
 (C CW [.int .u64 x]).bind fun r1=>
 some [.int .i64 ((V.nth r1 0).toInt)]
theorem aaA {x:Int} {r:Option (List V)} (h:QW CC x=r):CC wY [.int .u64 x]=r:=
 bp (key:=111) (L:=di) (bs:=[]) (by kernel_rfl) ar (bn (by kernel_rfl) h)
noncomputable abbrev vj:Code:=cA Tryd.prog (au.aU 134)
noncomputable def ql (C:ae) (x n:Int) (t4:Bool) {β:Type} (kr:(Int × Int)→Option β):Option β:=
 bif t4 then
  kr (Int.fdiv x (2^(min (32:Int).toNat (IntKind.bits .u64))),32)
 else
  kr (x,n)
noncomputable def qm (C:ae) (x n:Int) (t8:Bool) {β:Type} (kr:(Int × Int)→Option β):Option β:=
 bif t8 then
  kr (Int.fdiv x (2^(min (16:Int).toNat (IntKind.bits .u64))),IntKind.wrap .i64 (n+16))
 else
  kr (x,n)
noncomputable def aaB (C:ae):cl:=fun β n ds k=>
 bif Nat.beq n 79 then jb OX [[0,0]] (@ql C) ds k else
 bif Nat.beq n 143 then jb OY [[0,0]] (@qm C) ds k else
 none
abbrev aaC (C:ae) (b:ch):Prop:=cj Tryd.prog au C (aaB C) 134 (cH Tryd.prog (au.aU 134)) (au.sin 134).aZ.length b
theorem akV (C:ae):aaC C (.cond 4 (aq [1,0,1,0] vj) (aq [1,0,1,1] vj)):=
 jy OX [[0,0]] (@ql C) (by kernel_rfl) (aK (bs:=[]) (by kernel_rfl) ar) (aK (bs:=[]) (by kernel_rfl) ar) (fun ds=>by kernel_rfl) (fun i β k=>by kernel_rfl) (fun β ds k=>by kernel_rfl)
theorem akW (C:ae):aaC C (.cond 8 (aq [1,1,0,1,0] vj) (aq [1,1,0,1,1] vj)):=
 jy OY [[0,0]] (@qm C) (by kernel_rfl) (aK (bs:=[]) (by kernel_rfl) ar) (aK (bs:=[]) (by kernel_rfl) ar) (fun ds=>by kernel_rfl) (fun i β k=>by kernel_rfl) (fun β ds k=>by kernel_rfl)
noncomputable def akX (C:ae) (x:Int):Option (List V):=
 ql C x 0 (decide ((x:Int)≥4294967296)) (un fun (nD:Int) (dM:Int)=>
  qm C nD dM (decide ((nD:Int)≥65536)) (un fun (Fi:Int) (eN:Int)=>
   bif decide ((Fi:Int)≥256) then
    (bif decide (0≤(IntKind.wrap .u8 (Int.fdiv Fi (2^(min (8:Int).toNat (IntKind.bits .u64)))))) then (([0,1,2,2,3,3,3,3,4,4,4,4,4,4,4,4,5,5,5,5,5,5,5,5,5,5,5,5,5,5,5,5,6,6,6,6,6,6,6,6,6,6,6,6,6,6,6,6,6,6,6,6,6,6,6,6,6,6,6,6,6,6,6,6,7,7,7,7,7,7,7,7,7,7,7,7,7,7,7,7,7,7,7,7,7,7,7,7,7,7,7,7,7,7,7,7,7,7,7,7,7,7,7,7,7,7,7,7,7,7,7,7,7,7,7,7,7,7,7,7,7,7,7,7,7,7,7,7,8,8,8,8,8,8,8,8,8,8,8,8,8,8,8,8,8,8,8,8,8,8,8,8,8,8,8,8,8,8,8,8,8,8,8,8,8,8,8,8,8,8,8,8,8,8,8,8,8,8,8,8,8,8,8,8,8,8,8,8,8,8,8,8,8,8,8,8,8,8,8,8,8,8,8,8,8,8,8,8,8,8,8,8,8,8,8,8,8,8,8,8,8,8,8,8,8,8,8,8,8,8,8,8,8,8,8,8,8,8,8,8,8,8,8,8,8,8,8,8,8,8,8,8,8,8,8,8]:List UInt8)[(IntKind.wrap .u8 (Int.fdiv Fi (2^(min (8:Int).toNat (IntKind.bits .u64)))):Int).toNat]?).map fun b=>V.int .u8 b.toNat else none).bind fun x5=>
    some [.int .i64 (IntKind.wrap .i64 ((IntKind.wrap .i64 (eN+8))+(IntKind.wrap .i64 x5.toInt)))]
   else
    (bif decide (0≤(IntKind.wrap .u8 Fi)) then (([0,1,2,2,3,3,3,3,4,4,4,4,4,4,4,4,5,5,5,5,5,5,5,5,5,5,5,5,5,5,5,5,6,6,6,6,6,6,6,6,6,6,6,6,6,6,6,6,6,6,6,6,6,6,6,6,6,6,6,6,6,6,6,6,7,7,7,7,7,7,7,7,7,7,7,7,7,7,7,7,7,7,7,7,7,7,7,7,7,7,7,7,7,7,7,7,7,7,7,7,7,7,7,7,7,7,7,7,7,7,7,7,7,7,7,7,7,7,7,7,7,7,7,7,7,7,7,7,8,8,8,8,8,8,8,8,8,8,8,8,8,8,8,8,8,8,8,8,8,8,8,8,8,8,8,8,8,8,8,8,8,8,8,8,8,8,8,8,8,8,8,8,8,8,8,8,8,8,8,8,8,8,8,8,8,8,8,8,8,8,8,8,8,8,8,8,8,8,8,8,8,8,8,8,8,8,8,8,8,8,8,8,8,8,8,8,8,8,8,8,8,8,8,8,8,8,8,8,8,8,8,8,8,8,8,8,8,8,8,8,8,8,8,8,8,8,8,8,8,8,8,8,8,8,8,8]:List UInt8)[(IntKind.wrap .u8 Fi:Int).toNat]?).map fun b=>V.int .u8 b.toNat else none).bind fun x6=>
    some [.int .i64 (IntKind.wrap .i64 (eN+(IntKind.wrap .i64 x6.toInt)))]))
theorem Ko {x:Int} {r:Option (List V)} (h:akX CC x=r):CC CW [.int .u64 x]=r:=
 bp (key:=134) (L:=aaB CC) (bs:=[.cond 4 (aq [1,0,1,0] vj) (aq [1,0,1,1] vj),.cond 8 (aq [1,1,0,1,0] vj) (aq [1,1,0,1,1] vj)]) (by kernel_rfl) (aY (akV CC) (aY (akW CC) ar)) (bn (by kernel_rfl) h)
noncomputable abbrev nE:Code:=cA Tryd.prog (au.aU 169)
noncomputable def As (C:ae) (a b' er:Int) (cv cG:Bool) (length:Int) (t39:Bool) (ab:List V) {β:Type} (kr:(Int × (List V))→Option β):Option β:=
 bif t39 then
  (C Nk [.int .i64 a,.int .i64 b',.list ak ab]).bind fun r3=>
  kr (IntKind.wrap .i64 (er-1),(V.nth r3 0).toList)
 else
  kr (er,ab)
noncomputable def Au (C:ae) (a b' er:Int) (cv cG:Bool) (length pivot hint:Int) (t56:Bool) (ab:List V) {β:Type} (kr:(Int × Int × (List V))→Option β):Option β:=
 bif t56 then
  (C Nl [.int .i64 a,.int .i64 b',.list ak ab]).bind fun r7=>
  kr (IntKind.wrap .i64 ((IntKind.wrap .i64 (b'-1))-(IntKind.wrap .i64 (pivot-a))),1,(V.nth r7 0).toList)
 else
  kr (pivot,hint,ab)
noncomputable def oA (C:ae) (a b' er:Int) (cv cG:Bool) (length pivot:Int) (t75:Bool) (ab:List V) {β:Type} (kr:((Bool × (List V)) ⊕ (List V))→Option β):Option β:=
 bif t75 then
  (C Nm [.int .i64 a,.int .i64 b',.list ak ab]).bind fun ln=>
  bif (V.nth ln 0).toBool then
  kr (.inl ((V.nth ln 0).toBool,(V.nth (ln.drop 1) 0).toList))
  else
  kr (.inr ((V.nth (ln.drop 1) 0).toList))
 else
  kr (.inr ab)
noncomputable def rG (C:ae) (a b' er:Int) (cv cG:Bool) (ab:List V) {β:Type} (kn:(Int × Int × Int × Bool × Bool × (List V))→Option β) (kr:(List V)→Option β):Option β:=
 bif decide (((IntKind.wrap .i64 (b'-a)):Int)≤12) then
  (C IN [.int .i64 a,.int .i64 b',.list ak ab]).bind fun r1=>
  kr ((V.nth r1 0).toList)
 else
  bif (er:Int)==0 then
  (C IP [.int .i64 a,.int .i64 b',.list ak ab]).bind fun r2=>
  kr ((V.nth r2 0).toList)
  else
  As C a b' er cv cG (IntKind.wrap .i64 (b'-a)) (!cv) ab (un fun (bm:Int) (qn:List V)=>
   (C IQ [.list ak qn,.int .i64 a,.int .i64 b']).bind fun r6=>
   Au C a b' bm cv cG (IntKind.wrap .i64 (b'-a)) ((V.nth r6 0).toInt) ((V.nth (r6.drop 1) 0).toInt) ((((V.nth (r6.drop 1) 0).toInt):Int)==2) qn (un fun (bS:Int)=>un fun (xC:Int) (iA:List V)=>
    bif cv then
     bif cG then
     oA C a b' bm cv cG (IntKind.wrap .i64 (b'-a)) bS ((xC:Int)==1) iA (dm (un fun (xl:Bool) (xq:List V)=>
      kr xq) (fun (mO:List V)=>
      bif decide ((a:Int)>0) then
       bif (decide (0≤(IntKind.wrap .i64 (a-1))))&&(decide ((IntKind.wrap .i64 (a-1))<(mO.length:Int))) then
       (mO[(IntKind.wrap .i64 (a-1):Int).toNat]?).bind fun cX=>
       bif (decide (0≤bS))&&(decide (bS<(mO.length:Int))) then
        (mO[(bS:Int).toNat]?).bind fun dp=>
        (C bD [.int .i64 ((cX.cell 0).toInt),.int .i64 ((cX.cell 1).toInt),.int .i64 ((cX.cell 2).toInt),.int .i64 ((dp.cell 0).toInt),.int .i64 ((dp.cell 1).toInt),.int .i64 ((dp.cell 2).toInt)]).bind fun cu=>
        bif !(decide ((((V.nth cu 0).toInt):Int)<0)) then
        (C zx [.int .i64 a,.int .i64 b',.int .i64 bS,.list ak mO]).bind fun mP=>
        kn ((V.nth mP 0).toInt,b',bm,cv,cG,(V.nth (mP.drop 1) 0).toList)
        else
        (C qb [.int .i64 a,.int .i64 b',.int .i64 bS,.list ak mO]).bind fun dJ=>
        bif decide (((IntKind.wrap .i64 (((V.nth dJ 0).toInt)-a)):Int)<(IntKind.wrap .i64 (b'-((V.nth dJ 0).toInt)))) then
         (C jc [.int .i64 a,.int .i64 ((V.nth dJ 0).toInt),.int .i64 bm,.list ak ((V.nth (dJ.drop 2) 0).toList)]).bind fun eS=>
         kn (IntKind.wrap .i64 (((V.nth dJ 0).toInt)+1),b',bm,decide (((IntKind.wrap .i64 (((V.nth dJ 0).toInt)-a)):Int)≥(IntKind.wrap .i64 (Int.tdiv (IntKind.wrap .i64 (b'-a)) 8))),(V.nth (dJ.drop 1) 0).toBool,(V.nth eS 0).toList)
        else
         (C jc [.int .i64 (IntKind.wrap .i64 (((V.nth dJ 0).toInt)+1)),.int .i64 b',.int .i64 bm,.list ak ((V.nth (dJ.drop 2) 0).toList)]).bind fun oB=>
         kn (a,(V.nth dJ 0).toInt,bm,decide (((IntKind.wrap .i64 (b'-((V.nth dJ 0).toInt))):Int)≥(IntKind.wrap .i64 (Int.tdiv (IntKind.wrap .i64 (b'-a)) 8))),(V.nth (dJ.drop 1) 0).toBool,(V.nth oB 0).toList)
       else none
       else none
      else
       (C qb [.int .i64 a,.int .i64 b',.int .i64 bS,.list ak mO]).bind fun fa=>
       bif decide (((IntKind.wrap .i64 (((V.nth fa 0).toInt)-a)):Int)<(IntKind.wrap .i64 (b'-((V.nth fa 0).toInt)))) then
       (C jc [.int .i64 a,.int .i64 ((V.nth fa 0).toInt),.int .i64 bm,.list ak ((V.nth (fa.drop 2) 0).toList)]).bind fun QX=>
       kn (IntKind.wrap .i64 (((V.nth fa 0).toInt)+1),b',bm,decide (((IntKind.wrap .i64 (((V.nth fa 0).toInt)-a)):Int)≥(IntKind.wrap .i64 (Int.tdiv (IntKind.wrap .i64 (b'-a)) 8))),(V.nth (fa.drop 1) 0).toBool,(V.nth QX 0).toList)
       else
       (C jc [.int .i64 (IntKind.wrap .i64 (((V.nth fa 0).toInt)+1)),.int .i64 b',.int .i64 bm,.list ak ((V.nth (fa.drop 2) 0).toList)]).bind fun QY=>
       kn (a,(V.nth fa 0).toInt,bm,decide (((IntKind.wrap .i64 (b'-((V.nth fa 0).toInt))):Int)≥(IntKind.wrap .i64 (Int.tdiv (IntKind.wrap .i64 (b'-a)) 8))),(V.nth (fa.drop 1) 0).toBool,(V.nth QY 0).toList)))
     else
     oA C a b' bm cv cG (IntKind.wrap .i64 (b'-a)) bS false iA (dm (un fun (Y9:Bool) (QZ:List V)=>
      kr QZ) (fun (j9:List V)=>
      bif decide ((a:Int)>0) then
       bif (decide (0≤(IntKind.wrap .i64 (a-1))))&&(decide ((IntKind.wrap .i64 (a-1))<(j9.length:Int))) then
       (j9[(IntKind.wrap .i64 (a-1):Int).toNat]?).bind fun mK=>
       bif (decide (0≤bS))&&(decide (bS<(j9.length:Int))) then
        (j9[(bS:Int).toNat]?).bind fun mL=>
        (C bD [.int .i64 ((mK.cell 0).toInt),.int .i64 ((mK.cell 1).toInt),.int .i64 ((mK.cell 2).toInt),.int .i64 ((mL.cell 0).toInt),.int .i64 ((mL.cell 1).toInt),.int .i64 ((mL.cell 2).toInt)]).bind fun tG=>
        bif !(decide ((((V.nth tG 0).toInt):Int)<0)) then
        (C zx [.int .i64 a,.int .i64 b',.int .i64 bS,.list ak j9]).bind fun Fj=>
        kn ((V.nth Fj 0).toInt,b',bm,cv,cG,(V.nth (Fj.drop 1) 0).toList)
        else
        (C qb [.int .i64 a,.int .i64 b',.int .i64 bS,.list ak j9]).bind fun gN=>
        bif decide (((IntKind.wrap .i64 (((V.nth gN 0).toInt)-a)):Int)<(IntKind.wrap .i64 (b'-((V.nth gN 0).toInt)))) then
         (C jc [.int .i64 a,.int .i64 ((V.nth gN 0).toInt),.int .i64 bm,.list ak ((V.nth (gN.drop 2) 0).toList)]).bind fun Q0=>
         kn (IntKind.wrap .i64 (((V.nth gN 0).toInt)+1),b',bm,decide (((IntKind.wrap .i64 (((V.nth gN 0).toInt)-a)):Int)≥(IntKind.wrap .i64 (Int.tdiv (IntKind.wrap .i64 (b'-a)) 8))),(V.nth (gN.drop 1) 0).toBool,(V.nth Q0 0).toList)
        else
         (C jc [.int .i64 (IntKind.wrap .i64 (((V.nth gN 0).toInt)+1)),.int .i64 b',.int .i64 bm,.list ak ((V.nth (gN.drop 2) 0).toList)]).bind fun Q1=>
         kn (a,(V.nth gN 0).toInt,bm,decide (((IntKind.wrap .i64 (b'-((V.nth gN 0).toInt))):Int)≥(IntKind.wrap .i64 (Int.tdiv (IntKind.wrap .i64 (b'-a)) 8))),(V.nth (gN.drop 1) 0).toBool,(V.nth Q1 0).toList)
       else none
       else none
      else
       (C qb [.int .i64 a,.int .i64 b',.int .i64 bS,.list ak j9]).bind fun gO=>
       bif decide (((IntKind.wrap .i64 (((V.nth gO 0).toInt)-a)):Int)<(IntKind.wrap .i64 (b'-((V.nth gO 0).toInt)))) then
       (C jc [.int .i64 a,.int .i64 ((V.nth gO 0).toInt),.int .i64 bm,.list ak ((V.nth (gO.drop 2) 0).toList)]).bind fun Q2=>
       kn (IntKind.wrap .i64 (((V.nth gO 0).toInt)+1),b',bm,decide (((IntKind.wrap .i64 (((V.nth gO 0).toInt)-a)):Int)≥(IntKind.wrap .i64 (Int.tdiv (IntKind.wrap .i64 (b'-a)) 8))),(V.nth (gO.drop 1) 0).toBool,(V.nth Q2 0).toList)
       else
       (C jc [.int .i64 (IntKind.wrap .i64 (((V.nth gO 0).toInt)+1)),.int .i64 b',.int .i64 bm,.list ak ((V.nth (gO.drop 2) 0).toList)]).bind fun Q3=>
       kn (a,(V.nth gO 0).toInt,bm,decide (((IntKind.wrap .i64 (b'-((V.nth gO 0).toInt))):Int)≥(IntKind.wrap .i64 (Int.tdiv (IntKind.wrap .i64 (b'-a)) 8))),(V.nth (gO.drop 1) 0).toBool,(V.nth Q3 0).toList)))
    else
     oA C a b' bm cv cG (IntKind.wrap .i64 (b'-a)) bS false iA (dm (un fun (akY:Bool) (Q4:List V)=>
      kr Q4) (fun (eQ:List V)=>
      bif decide ((a:Int)>0) then
      bif (decide (0≤(IntKind.wrap .i64 (a-1))))&&(decide ((IntKind.wrap .i64 (a-1))<(eQ.length:Int))) then
       (eQ[(IntKind.wrap .i64 (a-1):Int).toNat]?).bind fun gk=>
       bif (decide (0≤bS))&&(decide (bS<(eQ.length:Int))) then
       (eQ[(bS:Int).toNat]?).bind fun mM=>
       (C bD [.int .i64 ((gk.cell 0).toInt),.int .i64 ((gk.cell 1).toInt),.int .i64 ((gk.cell 2).toInt),.int .i64 ((mM.cell 0).toInt),.int .i64 ((mM.cell 1).toInt),.int .i64 ((mM.cell 2).toInt)]).bind fun Q5=>
       bif !(decide ((((V.nth Q5 0).toInt):Int)<0)) then
        (C zx [.int .i64 a,.int .i64 b',.int .i64 bS,.list ak eQ]).bind fun Fk=>
        kn ((V.nth Fk 0).toInt,b',bm,cv,cG,(V.nth (Fk.drop 1) 0).toList)
       else
        (C qb [.int .i64 a,.int .i64 b',.int .i64 bS,.list ak eQ]).bind fun gP=>
        bif decide (((IntKind.wrap .i64 (((V.nth gP 0).toInt)-a)):Int)<(IntKind.wrap .i64 (b'-((V.nth gP 0).toInt)))) then
        (C jc [.int .i64 a,.int .i64 ((V.nth gP 0).toInt),.int .i64 bm,.list ak ((V.nth (gP.drop 2) 0).toList)]).bind fun Q6=>
        kn (IntKind.wrap .i64 (((V.nth gP 0).toInt)+1),b',bm,decide (((IntKind.wrap .i64 (((V.nth gP 0).toInt)-a)):Int)≥(IntKind.wrap .i64 (Int.tdiv (IntKind.wrap .i64 (b'-a)) 8))),(V.nth (gP.drop 1) 0).toBool,(V.nth Q6 0).toList)
        else
        (C jc [.int .i64 (IntKind.wrap .i64 (((V.nth gP 0).toInt)+1)),.int .i64 b',.int .i64 bm,.list ak ((V.nth (gP.drop 2) 0).toList)]).bind fun Q7=>
        kn (a,(V.nth gP 0).toInt,bm,decide (((IntKind.wrap .i64 (b'-((V.nth gP 0).toInt))):Int)≥(IntKind.wrap .i64 (Int.tdiv (IntKind.wrap .i64 (b'-a)) 8))),(V.nth (gP.drop 1) 0).toBool,(V.nth Q7 0).toList)
       else none
      else none
      else
      (C qb [.int .i64 a,.int .i64 b',.int .i64 bS,.list ak eQ]).bind fun gQ=>
      bif decide (((IntKind.wrap .i64 (((V.nth gQ 0).toInt)-a)):Int)<(IntKind.wrap .i64 (b'-((V.nth gQ 0).toInt)))) then
       (C jc [.int .i64 a,.int .i64 ((V.nth gQ 0).toInt),.int .i64 bm,.list ak ((V.nth (gQ.drop 2) 0).toList)]).bind fun Q8=>
       kn (IntKind.wrap .i64 (((V.nth gQ 0).toInt)+1),b',bm,decide (((IntKind.wrap .i64 (((V.nth gQ 0).toInt)-a)):Int)≥(IntKind.wrap .i64 (Int.tdiv (IntKind.wrap .i64 (b'-a)) 8))),(V.nth (gQ.drop 1) 0).toBool,(V.nth Q8 0).toList)
      else
       (C jc [.int .i64 (IntKind.wrap .i64 (((V.nth gQ 0).toInt)+1)),.int .i64 b',.int .i64 bm,.list ak ((V.nth (gQ.drop 2) 0).toList)]).bind fun Q9=>
       kn (a,(V.nth gQ 0).toInt,bm,decide (((IntKind.wrap .i64 (b'-((V.nth gQ 0).toInt))):Int)≥(IntKind.wrap .i64 (Int.tdiv (IntKind.wrap .i64 (b'-a)) 8))),(V.nth (gQ.drop 1) 0).toBool,(V.nth Q9 0).toList)))))
noncomputable def aaD (C:ae):(Int × Int × Int × Bool × Bool × (List V))→Option ((Int × Int × Int × Bool × Bool × (List V)) ⊕ (List V)):=un fun a=>un fun b'=>un fun er=>un fun cv=>un fun cG ab=>rG C a b' er cv cG ab (fun y=>some (.inl y)) (fun r=>some (.inr r))
noncomputable def aaE (C:ae):cl:=fun β n ds k=>
 bif Nat.beq n 639 then jb O2 [[1,2,0,4,5,6,0]] (@As C) ds k else
 bif Nat.beq n 911 then jb O3 [[1,2,3,4,5,6,0,0,0]] (@Au C) ds k else
 bif Nat.beq n 1215 then jb O4 [[1,2,3,4,5,6,7,0,0],[1,2,3,4,5,6,7,0]] (@oA C) ds k else
 bif Nat.beq n 33 then bt O5 [true,true,true,true,true,true] [[0]] (@rG C) ds k else
 none
abbrev Kp (C:ae) (b:ch):Prop:=cj Tryd.prog au C (aaE C) 169 (cH Tryd.prog (au.aU 169)) (au.sin 169).aZ.length b
theorem akZ (C:ae):Kp C (.cond 39 (aq [1,1,0,0,0,1,1,1,0,1,0] nE) (aq [1,1,0,0,0,1,1,1,0,1,1] nE)):=
 jy O2 [[1,2,0,4,5,6,0]] (@As C) (by kernel_rfl) (aK (bs:=[]) (by kernel_rfl) ar) (aK (bs:=[]) (by kernel_rfl) ar) (fun ds=>by kernel_rfl) (fun i β k=>by kernel_rfl) (fun β ds k=>by kernel_rfl)
theorem ak0 (C:ae):Kp C (.cond 56 (aq [1,1,0,0,0,1,1,1,1,1,0,1,0] nE) (aq [1,1,0,0,0,1,1,1,1,1,0,1,1] nE)):=
 jy O3 [[1,2,3,4,5,6,0,0,0]] (@Au C) (by kernel_rfl) (aK (bs:=[]) (by kernel_rfl) ar) (aK (bs:=[]) (by kernel_rfl) ar) (fun ds=>by kernel_rfl) (fun i β k=>by kernel_rfl) (fun β ds k=>by kernel_rfl)
theorem ak1 (C:ae):Kp C (.cond 75 (aq [1,1,0,0,0,1,1,1,1,1,1,0,1,0] nE) (aq [1,1,0,0,0,1,1,1,1,1,1,0,1,1] nE)):=
 jy O4 [[1,2,3,4,5,6,7,0,0],[1,2,3,4,5,6,7,0]] (@oA C) (by kernel_rfl) (aK (bs:=[]) (by kernel_rfl) ar) (aK (bs:=[]) (by kernel_rfl) ar) (fun ds=>by kernel_rfl) (fun i β k=>by kernel_rfl) (fun β ds k=>by kernel_rfl)
theorem ak2 (C:ae):Kp C (.loop (aq [1,1,0,0] nE)):=
 bA O5 [true,true,true,true,true,true] [[0]] (@rG C) (by kernel_rfl) (aK (bs:=[.cond 39 (aq [1,1,0,0,0,1,1,1,0,1,0] nE) (aq [1,1,0,0,0,1,1,1,0,1,1] nE),.cond 56 (aq [1,1,0,0,0,1,1,1,1,1,0,1,0] nE) (aq [1,1,0,0,0,1,1,1,1,1,0,1,1] nE),.cond 75 (aq [1,1,0,0,0,1,1,1,1,1,1,0,1,0] nE) (aq [1,1,0,0,0,1,1,1,1,1,1,0,1,1] nE)]) (by kernel_rfl) (aY (akZ C) (aY (ak0 C) (aY (ak1 C) ar)))) (fun ds=>by kernel_rfl) (fun i x=>by kernel_rfl) (fun i x β k=>by kernel_rfl) (fun β ds k=>by kernel_rfl)
noncomputable def aaF (C:ae) (a b' er:Int) (ab:List V):Option (List V):=
 (Loop (aaD C) (a,b',er,true,true,ab)).bind (fun (Ra:List V)=>
  some [.list ak Ra])
theorem ak3 {a b' er:Int} {ab:List V} {r:Option (List V)} (h:aaF CC a b' er ab=r):CC jc [.int .i64 a,.int .i64 b',.int .i64 er,.list ak ab]=r:=
 bp (key:=169) (L:=aaE CC) (bs:=[.loop (aq [1,1,0,0] nE)]) (by kernel_rfl) (aY (ak2 CC) ar) (bn (by kernel_rfl) h)
noncomputable def aaG (C:ae) (xs:List V):Option (List V):=
 (C wY [.int .u64 (IntKind.wrap .u64 (xs.length:Int))]).bind fun r1=>
 (C jc [.int .i64 0,.int .i64 (xs.length:Int),.int .i64 ((V.nth r1 0).toInt),.list ak xs]).bind fun r2=>
 some [.list ak ((V.nth r2 0).toList)]
theorem ak4 {xs:List V} {r:Option (List V)} (h:aaG CC xs=r):CC zm [.list ak xs]=r:=
 bp (key:=87) (L:=di) (bs:=[]) (by kernel_rfl) ar (bn (by kernel_rfl) h)
end Go.AM
set_option maxRecDepth 100000
set_option maxHeartbeats 4000000
namespace Go.AM.SL
open Go.AM Go.Proofs Go.Sort
theorem Fl (a b:Ed):(ai a b=true)=(a.lt b):=by rw[ll,propext (zH a b)]
theorem tL (a b:Ed):(ai a b=false)= ¬(a.lt b):=by rw[←Fl];simp
theorem oC:SWO ai where
 irrefl x:=by rw[tL];unfold Ed.lt;omega
 trans x y z:=by simp only[Fl];unfold Ed.lt;omega
 ntrans x y z:=by simp only[tL];unfold Ed.lt;omega
def tM:List UInt8:=([0,1,2,2,3,3,3,3,4,4,4,4,4,4,4,4,5,5,5,5,5,5,5,5,5,5,5,5,5,5,5,5,6,6,6,6,6,6,6,6,6,6,6,6,6,6,6,6,6,6,6,6,6,6,6,6,6,6,6,6,6,6,6,6,7,7,7,7,7,7,7,7,7,7,7,7,7,7,7,7,7,7,7,7,7,7,7,7,7,7,7,7,7,7,7,7,7,7,7,7,7,7,7,7,7,7,7,7,7,7,7,7,7,7,7,7,7,7,7,7,7,7,7,7,7,7,7,7,8,8,8,8,8,8,8,8,8,8,8,8,8,8,8,8,8,8,8,8,8,8,8,8,8,8,8,8,8,8,8,8,8,8,8,8,8,8,8,8,8,8,8,8,8,8,8,8,8,8,8,8,8,8,8,8,8,8,8,8,8,8,8,8,8,8,8,8,8,8,8,8,8,8,8,8,8,8,8,8,8,8,8,8,8,8,8,8,8,8,8,8,8,8,8,8,8,8,8,8,8,8,8,8,8,8,8,8,8,8,8,8,8,8,8,8,8,8,8,8,8,8,8,8,8,8,8,8]:List UInt8)
theorem Rb:(List.range 256).all (fun y=>match tM[y]? with|some b=>decide (b.toNat≤8)&&(Nat.beq y 0||(decide (1≤b.toNat)&&decide (2^(b.toNat-1)≤y)))|none=>false)=true:=by decide+kernel
theorem Fm {y:Nat} (h:y<256): ∃b,tM[y]? =some b∧b.toNat≤8∧(0<y→1≤b.toNat∧2^(b.toNat-1)≤y):=by
 have:=gl.1 Rb y (iR.2 h)
 cases hb:tM[y]? with
 | none=>rw[hb] at this;cases this
 | some b=>
  rw[hb] at this
  simp only[aL,vy,dx] at this
  refine ⟨b,rfl,this.1,fun hy=> ?_⟩
  rcases this.2 with h2|h2
  ·have:=Gl h2;omega
  ·exact h2
theorem xD {y t k:Nat} (h:2^(t-1)≤y/2^k) (ht:1≤t):2^(t+k-1)≤y:=by
 have e:t+k-1=(t-1)+k:=by omega
 rw[e,Nat.pow_add]
 exact jH (dP _ h) (Gu _ _)
noncomputable def oD (y n:Int):Option (List V):=
(bif decide ((y:Int)≥256) then
    (bif decide (0≤(IntKind.wrap .u8 (Int.fdiv y (2^(min (8:Int).toNat (IntKind.bits .u64)))))) then (([0,1,2,2,3,3,3,3,4,4,4,4,4,4,4,4,5,5,5,5,5,5,5,5,5,5,5,5,5,5,5,5,6,6,6,6,6,6,6,6,6,6,6,6,6,6,6,6,6,6,6,6,6,6,6,6,6,6,6,6,6,6,6,6,7,7,7,7,7,7,7,7,7,7,7,7,7,7,7,7,7,7,7,7,7,7,7,7,7,7,7,7,7,7,7,7,7,7,7,7,7,7,7,7,7,7,7,7,7,7,7,7,7,7,7,7,7,7,7,7,7,7,7,7,7,7,7,7,8,8,8,8,8,8,8,8,8,8,8,8,8,8,8,8,8,8,8,8,8,8,8,8,8,8,8,8,8,8,8,8,8,8,8,8,8,8,8,8,8,8,8,8,8,8,8,8,8,8,8,8,8,8,8,8,8,8,8,8,8,8,8,8,8,8,8,8,8,8,8,8,8,8,8,8,8,8,8,8,8,8,8,8,8,8,8,8,8,8,8,8,8,8,8,8,8,8,8,8,8,8,8,8,8,8,8,8,8,8,8,8,8,8,8,8,8,8,8,8,8,8,8,8,8,8,8,8]:List UInt8)[(IntKind.wrap .u8 (Int.fdiv y (2^(min (8:Int).toNat (IntKind.bits .u64)))):Int).toNat]?).map fun b=>V.int .u8 b.toNat else none).bind fun x5=>
    some [V.int .i64 (IntKind.wrap .i64 ((IntKind.wrap .i64 (n+8))+(IntKind.wrap .i64 x5.toInt)))]
   else
    (bif decide (0≤(IntKind.wrap .u8 y)) then (([0,1,2,2,3,3,3,3,4,4,4,4,4,4,4,4,5,5,5,5,5,5,5,5,5,5,5,5,5,5,5,5,6,6,6,6,6,6,6,6,6,6,6,6,6,6,6,6,6,6,6,6,6,6,6,6,6,6,6,6,6,6,6,6,7,7,7,7,7,7,7,7,7,7,7,7,7,7,7,7,7,7,7,7,7,7,7,7,7,7,7,7,7,7,7,7,7,7,7,7,7,7,7,7,7,7,7,7,7,7,7,7,7,7,7,7,7,7,7,7,7,7,7,7,7,7,7,7,8,8,8,8,8,8,8,8,8,8,8,8,8,8,8,8,8,8,8,8,8,8,8,8,8,8,8,8,8,8,8,8,8,8,8,8,8,8,8,8,8,8,8,8,8,8,8,8,8,8,8,8,8,8,8,8,8,8,8,8,8,8,8,8,8,8,8,8,8,8,8,8,8,8,8,8,8,8,8,8,8,8,8,8,8,8,8,8,8,8,8,8,8,8,8,8,8,8,8,8,8,8,8,8,8,8,8,8,8,8,8,8,8,8,8,8,8,8,8,8,8,8,8,8,8,8,8,8]:List UInt8)[(IntKind.wrap .u8 y:Int).toNat]?).map fun b=>V.int .u8 b.toNat else none).bind fun x6=>
    some [V.int .i64 (IntKind.wrap .i64 (n+(IntKind.wrap .i64 x6.toInt)))])
theorem Rc {x:Nat} (h:x<2^64): ∃L:Nat,CC CW [.int .u64 (x:Int)]=some [.int .i64 (L:Int)]∧L≤64∧(0<x→1≤L∧2^(L-1)≤x):=by
 have last: ∀y n:Nat,y<65536→n≤48→∃t:Nat,
   oD (y:Int) (n:Int)=some [V.int .i64 ((n+t:Nat):Int)]∧t≤16∧(0<y→1≤t∧2^(t-1)≤y):=by
  intro y n hy hn
  unfold oD
  rw[show ([0,1,2,2,3,3,3,3,4,4,4,4,4,4,4,4,5,5,5,5,5,5,5,5,5,5,5,5,5,5,5,5,6,6,6,6,6,6,6,6,6,6,6,6,6,6,6,6,6,6,6,6,6,6,6,6,6,6,6,6,6,6,6,6,7,7,7,7,7,7,7,7,7,7,7,7,7,7,7,7,7,7,7,7,7,7,7,7,7,7,7,7,7,7,7,7,7,7,7,7,7,7,7,7,7,7,7,7,7,7,7,7,7,7,7,7,7,7,7,7,7,7,7,7,7,7,7,7,8,8,8,8,8,8,8,8,8,8,8,8,8,8,8,8,8,8,8,8,8,8,8,8,8,8,8,8,8,8,8,8,8,8,8,8,8,8,8,8,8,8,8,8,8,8,8,8,8,8,8,8,8,8,8,8,8,8,8,8,8,8,8,8,8,8,8,8,8,8,8,8,8,8,8,8,8,8,8,8,8,8,8,8,8,8,8,8,8,8,8,8,8,8,8,8,8,8,8,8,8,8,8,8,8,8,8,8,8,8,8,8,8,8,8,8,8,8,8,8,8,8,8,8,8,8,8,8]:List UInt8)=tM from rfl]
  by_cases h1:y≥256
  ·have e:Int.fdiv (y:Int) (2^(min (8:Int).toNat (IntKind.bits .u64)))=((y/2^8:Nat):Int):=xb (m:=8) (by omega)
   obtain ⟨b,hb,b1,b2⟩:=Fm (y:=y/2^8) (by omega)
   refine ⟨b.toNat+8,?_,by omega,fun _=> ?_⟩
   ·rw[e,aw,ag (by omega),CE (by omega) (by omega),aw,ag (by omega),Int.toNat_natCast,hb]
    simp only[Option.map_some,Option.bind_some,V.toInt_int]
    simp (disch:=omega) only[wrap64]
    congr 3
    omega
   ·obtain ⟨b3,b4⟩:=b2 (by omega)
    exact ⟨by omega,xD b4 b3⟩
  ·obtain ⟨b,hb,b1,b2⟩:=Fm (y:=y) (by omega)
   refine ⟨b.toNat,?_,by omega,b2⟩
   rw[aw,ah (by omega),CE (by omega) (by omega),aw,ag (by omega),Int.toNat_natCast,hb]
   simp (disch:=omega) only[Option.map_some,Option.bind_some,V.toInt_int,wrap64]
   congr 3
 have mid: ∀y n:Nat,y<4294967296→n≤32→∃t:Nat,∀F:Int→Int→Option (List V),
   (∀y n:Nat,y<65536→n≤48→∃t:Nat,F (y:Int) (n:Int)=some [V.int .i64 ((n+t:Nat):Int)]∧t≤16∧(0<y→1≤t∧2^(t-1)≤y))→
   ∃t:Nat,qm CC (y:Int) (n:Int) (decide (((y:Int):Int)≥65536)) (un F)=some [V.int .i64 ((n+t:Nat):Int)]∧t≤32∧(0<y→1≤t∧2^(t-1)≤y):=by
  intro y n hy hn
  refine ⟨0,fun F hF=> ?_⟩
  unfold qm
  by_cases h1:y≥65536
  ·have e:Int.fdiv (y:Int) (2^(min (16:Int).toNat (IntKind.bits .u64)))=((y/2^16:Nat):Int):=xb (m:=16) (by omega)
   rw[aw,ag (by omega),e,wrap64 (by omega) (by omega)]
   obtain ⟨t,h2,h3,h4⟩:=hF (y/2^16) (n+16) (by omega) (by omega)
   refine ⟨t+16,?_,by omega,fun _=> ?_⟩
   ·rw[show ((n:Int)+16)=((n+16:Nat):Int) by omega]
    simp only[un]
    rw[h2]
    congr 3
    omega
   ·obtain ⟨b3,b4⟩:=h4 (by omega)
    exact ⟨by omega,xD b4 b3⟩
  ·rw[aw,ah (by omega)]
   obtain ⟨t,h2,h3,h4⟩:=hF y n (by omega) (by omega)
   exact ⟨t,h2,by omega,h4⟩
 by_cases h1:x≥4294967296
 ·have e:Int.fdiv (x:Int) (2^(min (32:Int).toNat (IntKind.bits .u64)))=((x/2^32:Nat):Int):=xb (m:=32) (by omega)
  obtain ⟨_,hm⟩:=mid (x/2^32) 32 (by omega) (by omega)
  obtain ⟨t,h2,h3,h4⟩:=hm oD last
  refine ⟨32+t,Ko ?_,by omega,fun _=> ?_⟩
  ·show ql CC (x:Int) 0 (decide (((x:Int):Int)≥4294967296)) (un fun (nD:Int) (dM:Int)=>qm CC nD dM (decide ((nD:Int)≥65536)) (un oD))=_
   unfold ql
   rw[aw,ag (by omega),e]
   exact h2
  ·obtain ⟨b3,b4⟩:=h4 (by omega)
   rw[yb 32 t]
   exact ⟨by omega,xD b4 b3⟩
 ·obtain ⟨_,hm⟩:=mid x 0 (by omega) (by omega)
  obtain ⟨t,h2,h3,h4⟩:=hm oD last
  refine ⟨t,Ko ?_,by omega,h4⟩
  show ql CC (x:Int) 0 (decide (((x:Int):Int)≥4294967296)) (un fun (nD:Int) (dM:Int)=>qm CC nD dM (decide ((nD:Int)≥65536)) (un oD))=_
  unfold ql
  rw[aw,ah (by omega)]
  rw[fe] at h2
  exact h2
theorem Fo {x:Nat} (h:x<2^64): ∃L:Nat,CC wY [.int .u64 (x:Int)]=some [.int .i64 (L:Int)]∧L≤64∧(0<x→1≤L∧2^(L-1)≤x):=by
 obtain ⟨L,h1,h2⟩:=Rc h
 refine ⟨L,aaA ?_,h2⟩
 unfold QW
 rw[h1]
 rfl
theorem Re {x:Nat} (h0:0<x) (h:x<1152921504606846976): ∃M:Nat,CC zt [.int .i64 (x:Int)]=some [.int .u64 (M:Int)]∧1≤M∧M≤2*x:=by
 obtain ⟨L,h1,h2,h3⟩:=Fo (x:=x) (by omega)
 obtain ⟨h4,h5⟩:=h3 h0
 have e:2^L=2*2^(L-1):=by
  obtain ⟨k,rfl⟩: ∃k,L=k+1:=⟨L-1,by omega⟩
  rw[Nat.pow_succ];simp only[rQ];omega
 have hL:L<64:=by
  by_cases hx:L<64
  ·exact hx
  ·have:2^63≤2^(L-1):=oQ (by omega) (by omega)
   omega
 refine ⟨2^L,aaz ?_,rT (by simp),by omega⟩
 unfold QV
 rw[qe (A:=x) (by omega),h1]
 simp only[Option.bind_some,V.bz,V.toInt_int]
 rw[aw,ag (by omega),Int.toNat_natCast,w9 hL]
theorem Rf (r:Int): ∃R:Nat,CC zu [.int .u64 r]=some [.int .u64 (R:Int),.int .u64 (R:Int)]∧R<2^64:=by
 have h: ∀n:Int,∃R:Nat,IntKind.wrap .u64 n=(R:Int)∧R<2^64:=fun n=>⟨(IntKind.wrap .u64 n).toNat,by rw[wrap_u64];omega,by rw[wrap_u64];omega⟩
 obtain ⟨R,h1,h2⟩:=h _
 exact ⟨R,aay (by unfold QU;rw[h1]),h2⟩
theorem tN {d:Array Ed} {i:Nat} (h:i<d.size):idx (eA d) (i:Int)=some (d[i]!).enc:=by rw[CF,dd h]
theorem xE {d:Array Ed} {a b:Nat} {s:Int} (ha:a<d.size) (hb:b<d.size): ∃(x y:Nat) (s':Int),CC C3 [.list ak (eA d),.int .i64 (a:Int),.int .i64 (b:Int),.int .i64 s]=some [.int .i64 (x:Int),.int .i64 (y:Int),.int .i64 s']∧(x=a∧y=b∨x=b∧y=a):=by
 by_cases h:aR d[b]! d[a]! <0
 ·refine ⟨b,a,_,aat (by unfold QT;rw[tN hb,tN ha];simp only[Option.bind_some,Ed.b7,Ed.b8,Ed.b9,iM,V.bz,V.toInt_int];rw[aw,ag h]),.inr ⟨rfl,rfl⟩⟩
 ·refine ⟨a,b,_,aat (by unfold QT;rw[tN hb,tN ha];simp only[Option.bind_some,Ed.b7,Ed.b8,Ed.b9,iM,V.bz,V.toInt_int];rw[aw,ah h]),.inl ⟨rfl,rfl⟩⟩
theorem xF {d:Array Ed} {a b c:Nat} {s:Int} (ha:a<d.size) (hb:b<d.size) (hc:c<d.size): ∃(m:Nat) (s':Int),CC IS [.list ak (eA d),.int .i64 (a:Int),.int .i64 (b:Int),.int .i64 (c:Int),.int .i64 s]=some [.int .i64 (m:Int),.int .i64 s']∧(m=a∨m=b∨m=c):=by
 obtain ⟨x1,y1,s1,e1,o1⟩:=xE (s:=s) ha hb
 obtain ⟨x2,y2,s2,e2,o2⟩:=xE (d:=d) (a:=y1) (b:=c) (s:=s1) (by omega) hc
 obtain ⟨x3,y3,s3,e3,o3⟩:=xE (d:=d) (a:=x1) (b:=x2) (s:=s2) (by omega) (by omega)
 refine ⟨y3,s3,akO ?_,by omega⟩
 unfold aas
 rw[e1]
 simp only[Option.bind_some,V.bz,V.kH,V.toInt_int,ji,ig]
 rw[e2]
 simp only[Option.bind_some,V.bz,V.kH,V.toInt_int,ji,ig]
 rw[e3]
 rfl
theorem xG {d:Array Ed} {a:Nat} {s:Int} (h1:1≤a) (ha:a+1<d.size) (hs:d.size<1152921504606846976): ∃(m:Nat) (s':Int),CC C2 [.list ak (eA d),.int .i64 (a:Int),.int .i64 s]=some [.int .i64 (m:Int),.int .i64 s']∧a≤m+1∧m≤a+1:=by
 obtain ⟨m,s',e,o⟩:=xF (d:=d) (a:=a-1) (b:=a) (c:=a+1) (s:=s) (by omega) (by omega) (by omega)
 refine ⟨m,s',akP ?_,by omega,by omega⟩
 unfold aau
 simp (disch:=omega) only[fl,bU,wrap64]
 rw[e]
 rfl
theorem xH (n:Nat):Int.tdiv (n:Int) 4=((n/4:Nat):Int):=by
 have:=divC n 4
 exact this
theorem mulC (k n:Nat):((k:Nat):Int)*(n:Int)=((k*n:Nat):Int):=(Int.natCast_mul k n).symm
theorem Rg {d:Array Ed} {a b:Nat} (cY:a+12<b) (hb:b≤d.size) (hs:d.size<1152921504606846976): ∃(p:Nat) (h:Int),CC IQ [.list ak (eA d),.int .i64 (a:Int),.int .i64 (b:Int)]=some [.int .i64 (p:Int),.int .i64 h]∧a≤p∧p<b:=by
 have fin: ∀(p:Nat) (s:Int),∃h:Int,(bif (s:Int)==0 then some [V.int .i64 (p:Int),V.int .i64 1] else bif (s:Int)==12 then some [V.int .i64 (p:Int),V.int .i64 2] else some [V.int .i64 (p:Int),V.int .i64 0])=some [V.int .i64 (p:Int),V.int .i64 h]:=by
  intro p s
  rw[lV]
  split
  ·exact ⟨1,rfl⟩
  ·rw[lV]
   split
   ·exact ⟨2,rfl⟩
   ·exact ⟨0,rfl⟩
 have e1:IntKind.wrap .i64 ((b:Int)-(a:Int))=((b-a:Nat):Int):=by rw[gv (by omega),wrap64 (by omega) (by omega)]
 have e2:IntKind.wrap .i64 (Int.tdiv ((b-a:Nat):Int) 4)=(((b-a)/4:Nat):Int):=by rw[xH,wrap64 (by omega) (by omega)]
 have e3: ∀k:Nat,k≤3→IntKind.wrap .i64 ((a:Int)+IntKind.wrap .i64 ((k:Int)*(((b-a)/4:Nat):Int)))=((a+k*((b-a)/4):Nat):Int):=by
  intro k hk
  have sN:k*((b-a)/4)≤3*((b-a)/4):=dP _ hk
  simp (disch:=omega) only[mulC,wrap64,db]
 have xI:=e3 1 (by omega)
 have lp:=e3 2 (by omega)
 have xJ:=e3 3 (by omega)
 rw[show ((1:Nat):Int)=1 from rfl] at xI
 rw[show ((2:Nat):Int)=2 from rfl] at lp
 rw[show ((3:Nat):Int)=3 from rfl] at xJ
 by_cases h50:b-a≥50
 ·obtain ⟨m1,s1,q1,r1⟩:=xG (d:=d) (a:=a+1*((b-a)/4)) (s:=0) (by omega) (by omega) hs
  obtain ⟨m2,s2,q2,r2⟩:=xG (d:=d) (a:=a+2*((b-a)/4)) (s:=s1) (by omega) (by omega) hs
  obtain ⟨m3,s3,q3,r3⟩:=xG (d:=d) (a:=a+3*((b-a)/4)) (s:=s2) (by omega) (by omega) hs
  obtain ⟨m,s,q,r⟩:=xF (d:=d) (a:=m1) (b:=m2) (c:=m3) (s:=s3) (by omega) (by omega) (by omega)
  obtain ⟨h,hf⟩:=fin m s
  refine ⟨m,h,aar ?_,by omega,by omega⟩
  unfold QS Ff Fe
  rw[e1,e2,xI,lp,xJ,ic (by omega),cond_true,ic (by omega),cond_true,q1]
  simp only[Option.bind_some,V.bz,V.kH,V.toInt_int,ji,ig]
  rw[q2]
  simp only[Option.bind_some,V.bz,V.kH,V.toInt_int,ji,ig]
  rw[q3]
  simp only[Option.bind_some,V.bz,V.kH,V.toInt_int,ji,ig,un]
  rw[q]
  exact hf
 ·obtain ⟨m,s,q,r⟩:=xF (d:=d) (a:=a+1*((b-a)/4)) (b:=a+2*((b-a)/4)) (c:=a+3*((b-a)/4)) (s:=0) (by omega) (by omega) (by omega)
  obtain ⟨h,hf⟩:=fin m s
  refine ⟨m,h,aar ?_,by omega,by omega⟩
  unfold QS Ff Fe
  rw[e1,e2,xI,lp,xJ,ic (by omega),cond_true,mc (by omega),cond_false]
  simp only[un]
  rw[q]
  exact hf
theorem Rh {a b M:Nat} (Ri:1≤M) (hM:M≤2*(b-a)) (h8:8≤b-a) (hB:b<1152921504606846976): ∀(n i:Nat) (d:Array Ed) (r:Int),a+2*((b-a)/4)+2-i=n→a≤i→b≤d.size→d.size<1152921504606846976→
  ∃x y z R,Loop (Kn CC a (b-a:Nat) M) ((i:Int),eA d,r)=some (x,y,eA R,z)∧PermIn a b d R:=by
 have e2:IntKind.wrap .i64 (Int.tdiv ((b-a:Nat):Int) 4)=(((b-a)/4:Nat):Int):=by rw[xH,wrap64 (by omega) (by omega)]
 have lp:IntKind.wrap .i64 ((a:Int)+IntKind.wrap .i64 (2*(((b-a)/4:Nat):Int)))=((a+2*((b-a)/4):Nat):Int):=by
  have:=mulC 2 ((b-a)/4)
  rw[show ((2:Nat):Int)=2 from rfl] at this
  rw[this]
  simp (disch:=omega) only[wrap64,db]
 intro n
 induction n with
 | zero=>
  intro i d r hn hi hb hs
  refine ⟨(i:Int),false,r,d,bd ?_,permIn_refl _ _ _⟩
  simp only[Kn,Fh,un]
  rw[e2,lp,bU,wrap64 (by omega) (by omega),mc (by omega),cond_false]
 | succ n ih=>
  intro i d r hn hi hb hs
  obtain ⟨R1,q1,q2⟩:=Rf r
  obtain ⟨o,ho,nT⟩: ∃o:Nat,(o=if R1&&&(M-1)≥b-a then (R1&&&(M-1))-(b-a) else R1&&&(M-1))∧o<b-a:=by
   refine ⟨_,rfl,?_⟩
   have:R1&&&(M-1)≤M-1:=Nat.and_le_right
   split<;>omega
  have hand:R1&&&(M-1)≤M-1:=Nat.and_le_right
  have hP:=swp_permIn (α:=Ed) d a b i (a+o) hi (by omega) (by omega) (by omega) hb
  obtain ⟨x,y,z,R,e,hR⟩:=ih (i+1) (swp d i (a+o)) (R1:Int) (by omega) (by omega) (by rw[size_swp];exact hb) (by rw[size_swp];exact hs)
  refine ⟨x,y,z,R,(cM ?_).trans e,permIn_trans _ _ _ a b hP hR⟩
  simp only[Kn,Fh,un]
  rw[e2,lp,bU,wrap64 (x:=((a+2*((b-a)/4)+1:Nat):Int)) (by omega) (by omega),ic (by omega),cond_true,q1]
  simp only[Option.bind_some,V.bz,V.kH,V.toInt_int,ji,ig]
  have e5:IntKind.wrap .u64 ((M:Int)-1)=((M-1:Nat):Int):=by rw[fl Ri,qe (by omega)]
  rw[e5,u64_and q2 (by omega),wrap64 (x:=((R1&&&(M-1):Nat):Int)) (by omega) (by omega)]
  have fin: ∀k:Int,k=(o:Int)→(bif (decide (0≤(IntKind.wrap .i64 ((a:Int)+k))))&&(decide ((IntKind.wrap .i64 ((a:Int)+k))<((eA d).length:Int))) then
   ((eA d)[(IntKind.wrap .i64 ((a:Int)+k):Int).toNat]?).bind fun x4=>
   bif (decide (0≤(i:Int)))&&(decide ((i:Int)<((eA d).length:Int))) then
    ((eA d)[((i:Int):Int).toNat]?).bind fun x5=>
    bif (decide (0≤(i:Int)))&&(decide ((i:Int)<((eA d).length:Int))) then
    ((eA d)[((i:Int):Int).toNat]?).bind fun x6=>
    bif (decide (0≤(IntKind.wrap .i64 ((a:Int)+k))))&&(decide ((IntKind.wrap .i64 ((a:Int)+k))<(((eA d).set (((i:Int):Int).toNat) (.agg [.int .i64 ((x4.cell 0).toInt),.int .i64 ((x4.cell 1).toInt),.int .i64 ((x4.cell 2).toInt)])).length:Int))) then
     (((eA d).set (((i:Int):Int).toNat) (.agg [.int .i64 ((x4.cell 0).toInt),.int .i64 ((x4.cell 1).toInt),.int .i64 ((x4.cell 2).toInt)]))[(IntKind.wrap .i64 ((a:Int)+k):Int).toNat]?).bind fun x7=>
     some (.inl (IntKind.wrap .i64 ((i:Int)+1),((eA d).set (((i:Int):Int).toNat) (.agg [.int .i64 ((x4.cell 0).toInt),.int .i64 ((x4.cell 1).toInt),.int .i64 ((x4.cell 2).toInt)])).set ((IntKind.wrap .i64 ((a:Int)+k):Int).toNat) (.agg [.int .i64 ((x5.cell 0).toInt),.int .i64 ((x5.cell 1).toInt),.int .i64 ((x5.cell 2).toInt)]),(R1:Int)))
    else none
    else none
   else none
   else none:Option ((Int × List V × Int) ⊕ (Int × Bool × List V × Int)))=some (.inl (((i+1:Nat):Int),eA (swp d i (a+o)),(R1:Int))):=by
   intro k hk
   subst hk
   simp (disch:=omega) only[aw,cE,dF,ag,ah,wrap64,bU,db,Int.toNat_natCast,Option.bind_some,c9,dd,Ed.b7,Ed.b8,Ed.b9,Ed.re,da,dN,dE,iM,V.bz,V.toInt_int,cond_true,cond_false]
   rfl
  unfold Km
  by_cases h:R1&&&(M-1)≥b-a
  ·rw[ag h] at ho
   rw[ic (by omega),cond_true]
   exact fin _ (by rw[gv (by omega),wrap64 (by omega) (by omega)];omega)
  ·rw[ah h] at ho
   rw[mc (by omega),cond_false]
   exact fin _ (by omega)
theorem Rj {a b:Nat} {d:Array Ed} (cY:a+12<b) (hb:b≤d.size) (hs:d.size<1152921504606846976): ∃R,CC Nk [.int .i64 (a:Int),.int .i64 (b:Int),.list ak (eA d)]=some [.list ak (eA R)]∧PermIn a b d R:=by
 obtain ⟨M,q1,q2,q3⟩:=Re (x:=b-a) (by omega) (by omega)
 have e1:IntKind.wrap .i64 ((b:Int)-(a:Int))=((b-a:Nat):Int):=by rw[gv (by omega),wrap64 (by omega) (by omega)]
 have e2:IntKind.wrap .i64 (Int.tdiv ((b-a:Nat):Int) 4)=(((b-a)/4:Nat):Int):=by rw[xH,wrap64 (by omega) (by omega)]
 have lp:IntKind.wrap .i64 ((a:Int)+IntKind.wrap .i64 (2*(((b-a)/4:Nat):Int)))=((a+2*((b-a)/4):Nat):Int):=by
  have:=mulC 2 ((b-a)/4)
  rw[show ((2:Nat):Int)=2 from rfl] at this
  rw[this]
  simp (disch:=omega) only[wrap64,db]
 obtain ⟨x,y,z,R,e,hR⟩:=Rh (a:=a) (b:=b) (M:=M) q2 q3 (by omega) (by omega) _ (a+2*((b-a)/4)-1) d (IntKind.wrap .u64 ((b-a:Nat):Int)) rfl (by omega) hb hs
 refine ⟨R,akU ?_,hR⟩
 unfold aax
 rw[e1,aw,ag (by omega),q1]
 simp only[Option.bind_some,V.bz,V.toInt_int]
 rw[e2,lp,fl (by omega),wrap64 (x:=((a+2*((b-a)/4)-1:Nat):Int)) (by omega) (by omega),e]
 rfl
noncomputable def lu (C:ae) (a b':Int) (cv cG:Bool) (bm bS:Int) (gj:List V) {β:Type} (kn:(Int × Int × Int × Bool × Bool × (List V))→Option β):Option β:=
      bif decide ((a:Int)>0) then
       bif (decide (0≤(IntKind.wrap .i64 (a-1))))&&(decide ((IntKind.wrap .i64 (a-1))<(gj.length:Int))) then
       (gj[(IntKind.wrap .i64 (a-1):Int).toNat]?).bind fun eP=>
       bif (decide (0≤bS))&&(decide (bS<(gj.length:Int))) then
        (gj[(bS:Int).toNat]?).bind fun iB=>
        (C bD [.int .i64 ((eP.cell 0).toInt),.int .i64 ((eP.cell 1).toInt),.int .i64 ((eP.cell 2).toInt),.int .i64 ((iB.cell 0).toInt),.int .i64 ((iB.cell 1).toInt),.int .i64 ((iB.cell 2).toInt)]).bind fun fA=>
        bif !(decide ((((V.nth fA 0).toInt):Int)<0)) then
        (C zx [.int .i64 a,.int .i64 b',.int .i64 bS,.list ak gj]).bind fun iL=>
        kn ((V.nth iL 0).toInt,b',bm,cv,cG,(V.nth (iL.drop 1) 0).toList)
        else
        (C qb [.int .i64 a,.int .i64 b',.int .i64 bS,.list ak gj]).bind fun cu=>
        bif decide (((IntKind.wrap .i64 (((V.nth cu 0).toInt)-a)):Int)<(IntKind.wrap .i64 (b'-((V.nth cu 0).toInt)))) then
         (C jc [.int .i64 a,.int .i64 ((V.nth cu 0).toInt),.int .i64 bm,.list ak ((V.nth (cu.drop 2) 0).toList)]).bind fun mP=>
         kn (IntKind.wrap .i64 (((V.nth cu 0).toInt)+1),b',bm,decide (((IntKind.wrap .i64 (((V.nth cu 0).toInt)-a)):Int)≥(IntKind.wrap .i64 (Int.tdiv (IntKind.wrap .i64 (b'-a)) 8))),(V.nth (cu.drop 1) 0).toBool,(V.nth mP 0).toList)
        else
         (C jc [.int .i64 (IntKind.wrap .i64 (((V.nth cu 0).toInt)+1)),.int .i64 b',.int .i64 bm,.list ak ((V.nth (cu.drop 2) 0).toList)]).bind fun dJ=>
         kn (a,(V.nth cu 0).toInt,bm,decide (((IntKind.wrap .i64 (b'-((V.nth cu 0).toInt))):Int)≥(IntKind.wrap .i64 (Int.tdiv (IntKind.wrap .i64 (b'-a)) 8))),(V.nth (cu.drop 1) 0).toBool,(V.nth dJ 0).toList)
       else none
       else none
      else
       (C qb [.int .i64 a,.int .i64 b',.int .i64 bS,.list ak gj]).bind fun eS=>
       bif decide (((IntKind.wrap .i64 (((V.nth eS 0).toInt)-a)):Int)<(IntKind.wrap .i64 (b'-((V.nth eS 0).toInt)))) then
       (C jc [.int .i64 a,.int .i64 ((V.nth eS 0).toInt),.int .i64 bm,.list ak ((V.nth (eS.drop 2) 0).toList)]).bind fun oB=>
       kn (IntKind.wrap .i64 (((V.nth eS 0).toInt)+1),b',bm,decide (((IntKind.wrap .i64 (((V.nth eS 0).toInt)-a)):Int)≥(IntKind.wrap .i64 (Int.tdiv (IntKind.wrap .i64 (b'-a)) 8))),(V.nth (eS.drop 1) 0).toBool,(V.nth oB 0).toList)
       else
       (C jc [.int .i64 (IntKind.wrap .i64 (((V.nth eS 0).toInt)+1)),.int .i64 b',.int .i64 bm,.list ak ((V.nth (eS.drop 2) 0).toList)]).bind fun fa=>
       kn (a,(V.nth eS 0).toInt,bm,decide (((IntKind.wrap .i64 (b'-((V.nth eS 0).toInt))):Int)≥(IntKind.wrap .i64 (Int.tdiv (IntKind.wrap .i64 (b'-a)) 8))),(V.nth (eS.drop 1) 0).toBool,(V.nth fa 0).toList)
theorem tO (C:ae) (a b' er:Int) (cv cG:Bool) (ab:List V) {β:Type} (kn:(Int × Int × Int × Bool × Bool × (List V))→Option β) (kr:(List V)→Option β):
  rG C a b' er cv cG ab kn kr=
 bif decide (((IntKind.wrap .i64 (b'-a)):Int)≤12) then
  (C IN [.int .i64 a,.int .i64 b',.list ak ab]).bind fun r1=>
  kr ((V.nth r1 0).toList)
 else
  bif (er:Int)==0 then
  (C IP [.int .i64 a,.int .i64 b',.list ak ab]).bind fun r2=>
  kr ((V.nth r2 0).toList)
  else
  As C a b' er cv cG (IntKind.wrap .i64 (b'-a)) (!cv) ab (un fun (bm:Int) (qn:List V)=>
   (C IQ [.list ak qn,.int .i64 a,.int .i64 b']).bind fun r6=>
   Au C a b' bm cv cG (IntKind.wrap .i64 (b'-a)) ((V.nth r6 0).toInt) ((V.nth (r6.drop 1) 0).toInt) ((((V.nth (r6.drop 1) 0).toInt):Int)==2) qn (un fun (bS:Int)=>un fun (xC:Int) (iA:List V)=>
    bif cv then
     bif cG then
     oA C a b' bm cv cG (IntKind.wrap .i64 (b'-a)) bS ((xC:Int)==1) iA (dm (un fun (J3:Bool) (xK:List V)=>
      kr xK) (fun (gj:List V)=>lu C a b' cv cG bm bS gj kn))
     else
     oA C a b' bm cv cG (IntKind.wrap .i64 (b'-a)) bS false iA (dm (un fun (ak5:Bool) (Rk:List V)=>
      kr Rk) (fun (Rl:List V)=>lu C a b' cv cG bm bS Rl kn))
    else
     oA C a b' bm cv cG (IntKind.wrap .i64 (b'-a)) bS false iA (dm (un fun (ak6:Bool) (Rm:List V)=>
      kr Rm) (fun (Rn:List V)=>lu C a b' cv cG bm bS Rn kn)))):=rfl
section
variable {a b:Nat} {lim:Int} {wb wp:Bool}
theorem Ro {d:Array Ed} (cY:a+12<b) (hb:b≤d.size) (hs:d.size<1152921504606846976) (len:Int) (t:Bool): ∃(l1:Int) (d1:Array Ed),PermIn a b d d1∧∀(β:Type) (kr:(Int × List V)→Option β),As CC a b lim wb wp len t (eA d) kr=kr (l1,eA d1):=by
 cases t with
 | true=>
  obtain ⟨R,e,hR⟩:=Rj cY hb hs
  refine ⟨IntKind.wrap .i64 (lim-1),R,hR,fun β kr=> ?_⟩
  unfold As
  rw[cond_true,e]
  rfl
 | false=>exact ⟨lim,d,permIn_refl _ _ _,fun β kr=>rfl⟩
theorem Rp {d:Array Ed} (cY:a+12<b) (hb:b≤d.size) (hs:d.size<1152921504606846976) (len h:Int) (t:Bool) {p:Nat} (h1:a≤p) (h2:p<b): ∃(p2:Nat) (h2:Int) (d1:Array Ed),a≤p2∧p2<b∧PermIn a b d d1∧∀(β:Type) (kr:(Int × Int × List V)→Option β),Au CC a b lim wb wp len p h t (eA d) kr=kr ((p2:Int),h2,eA d1):=by
 cases t with
 | true=>
  refine ⟨b-1-(p-a),1,reverseRange d a b,by omega,by omega,reverseRange_holds d a b (by omega) hb,fun β kr=> ?_⟩
  unfold Au
  rw[cond_true,Qt (by omega) hb hs]
  simp (disch:=omega) only[Option.bind_some,V.bz,V.la,fl,gv,wrap64]
 | false=>exact ⟨p,h,d,h1,h2,permIn_refl _ _ _,fun β kr=>rfl⟩
theorem Rq {d:Array Ed} (cY:a+12<b) (hb:b≤d.size) (hs:d.size<1152921504606846976) (hB:Below ai a b d) (len p:Int) (t:Bool): ∃d1:Array Ed,PermIn a b d d1∧
  ((∀(β:Type) (kr:((Bool × List V) ⊕ List V)→Option β),oA CC a b lim wb wp len p t (eA d) kr=kr (.inr (eA d1)))∨
  (SortedIn ai a b d1∧∀(β:Type) (kr:((Bool × List V) ⊕ List V)→Option β),oA CC a b lim wb wp len p t (eA d) kr=kr (.inl (true,eA d1)))):=by
 cases t with
 | true=>
  have hp:=partialInsertionSort_holds (lt:=ai) oC d a b (by omega) hb hB
  refine ⟨_,hp.1,?_⟩
  cases h:(partialInsertionSort ai d a b).2 with
  | true=>
   refine .inr ⟨hp.2 h,fun β kr=> ?_⟩
   unfold oA
   rw[cond_true,Fc (by omega) hb hs,h]
   rfl
  | false=>
   refine .inl fun β kr=> ?_
   unfold oA
   rw[cond_true,Fc (by omega) hb hs,h]
   rfl
 | false=>exact ⟨d,permIn_refl _ _ _,.inl fun β kr=>rfl⟩
end
def tP (a b:Nat) (d:Array Ed):Prop:= ∀(lim:Int) (wb wp:Bool),∃R,Loop (aaD CC) ((a:Int),(b:Int),lim,wb,wp,eA d)=some (eA R)∧PermIn a b d R∧SortedIn ai a b R
theorem tP.call {a b:Nat} {d:Array Ed} (h:tP a b d) (lim:Int): ∃R,CC jc [.int .i64 (a:Int),.int .i64 (b:Int),.int .i64 lim,.list ak (eA d)]=some [.list ak (eA R)]∧PermIn a b d R∧SortedIn ai a b R:=by
 obtain ⟨R,e,h1,h2⟩:=h lim true true
 refine ⟨R,ak3 ?_,h1,h2⟩
 unfold aaF
 rw[e]
 rfl
theorem Rr {a b p:Nat} {d:Array Ed} (cY:a+12<b) (hb:b≤d.size) (hs:d.size<1152921504606846976) (hB:Below ai a b d) (h1:a≤p) (h2:p<b)
  (ih: ∀(a2 b2:Nat) (d2:Array Ed),b2-a2<b-a→a2≤b2→b2≤d2.size→d2.size<1152921504606846976→Below ai a2 b2 d2→tP a2 b2 d2) (wb wp:Bool) (lim:Int):
  ∃(a2 b2:Nat) (mQ mR:Bool) (d2:Array Ed),b2-a2<b-a∧a2≤b2∧b2≤d2.size∧d2.size<1152921504606846976∧Below ai a2 b2 d2∧
   (∀R,PermIn a2 b2 d2 R→SortedIn ai a2 b2 R→PermIn a b d R∧SortedIn ai a b R)∧
   ∀(β:Type) (kn:(Int × Int × Int × Bool × Bool × (List V))→Option β),lu CC a b wb wp lim p (eA d) kn=kn ((a2:Int),(b2:Int),lim,mQ,mR,eA d2):=by
 have part: ∃(a2 b2:Nat) (mQ mR:Bool) (d2:Array Ed),b2-a2<b-a∧a2≤b2∧b2≤d2.size∧d2.size<1152921504606846976∧Below ai a2 b2 d2∧
   (∀R,PermIn a2 b2 d2 R→SortedIn ai a2 b2 R→PermIn a b d R∧SortedIn ai a b R)∧
   ∀(β:Type) (kn:(Int × Int × Int × Bool × Bool × (List V))→Option β),
    ((CC qb [.int .i64 (a:Int),.int .i64 (b:Int),.int .i64 (p:Int),.list ak (eA d)]).bind fun cu=>
        bif decide (((IntKind.wrap .i64 (((V.nth cu 0).toInt)-(a:Int))):Int)<(IntKind.wrap .i64 ((b:Int)-((V.nth cu 0).toInt)))) then
         (CC jc [.int .i64 (a:Int),.int .i64 ((V.nth cu 0).toInt),.int .i64 lim,.list ak ((V.nth (cu.drop 2) 0).toList)]).bind fun mP=>
         kn (IntKind.wrap .i64 (((V.nth cu 0).toInt)+1),(b:Int),lim,decide (((IntKind.wrap .i64 (((V.nth cu 0).toInt)-(a:Int))):Int)≥(IntKind.wrap .i64 (Int.tdiv (IntKind.wrap .i64 ((b:Int)-(a:Int))) 8))),(V.nth (cu.drop 1) 0).toBool,(V.nth mP 0).toList)
        else
         (CC jc [.int .i64 (IntKind.wrap .i64 (((V.nth cu 0).toInt)+1)),.int .i64 (b:Int),.int .i64 lim,.list ak ((V.nth (cu.drop 2) 0).toList)]).bind fun dJ=>
         kn ((a:Int),(V.nth cu 0).toInt,lim,decide (((IntKind.wrap .i64 ((b:Int)-((V.nth cu 0).toInt))):Int)≥(IntKind.wrap .i64 (Int.tdiv (IntKind.wrap .i64 ((b:Int)-(a:Int))) 8))),(V.nth (cu.drop 1) 0).toBool,(V.nth dJ 0).toList))=kn ((a2:Int),(b2:Int),lim,mQ,mR,eA d2):=by
  obtain ⟨mid,ap,d4,hx⟩: ∃mid ap d4,partition ai d a b p=(mid,ap,d4):=⟨_,_,_,rfl⟩
  obtain ⟨g1,g2,iD,Rs,Rt,Ru,Rv⟩:=round_part oC (partition_holds ai) h1 h2 hb hB hx
  have hc:=QG (a:=a) (b:=b) (pivot:=p) (d:=d) h2 (by omega) hb hs
  rw[hx] at hc
  by_cases hl:mid-a<b-mid
  ·obtain ⟨L,e,l1,l2⟩:=(ih a mid d4 (by omega) g1 (by rw[iD];omega) (by rw[iD];exact hs) Rs).call lim
   obtain ⟨xL,kL⟩:=Ru _ l1 l2
   refine ⟨mid+1,b,decide (((IntKind.wrap .i64 ((mid:Int)-(a:Int))):Int)≥(IntKind.wrap .i64 (Int.tdiv (IntKind.wrap .i64 ((b:Int)-(a:Int))) 8))),ap,L,by omega,by omega,by rw[l1.1,iD];exact hb,by rw[l1.1,iD];exact hs,xL,kL,fun β kn=> ?_⟩
   ·rw[hc]
    simp only[Option.bind_some,V.bz,V.kH,V.toInt_int,V.oe,V.la,ji,ig]
    rw[aw,ag (by rw[gv g1,gv (by omega),wrap64 (by omega) (by omega),wrap64 (by omega) (by omega)];omega),e]
    simp only[Option.bind_some,V.bz,V.la]
    rw[bU,wrap64 (x:=((mid+1:Nat):Int)) (by omega) (by omega)]
  ·obtain ⟨L,e,l1,l2⟩:=(ih (mid+1) b d4 (by omega) (by omega) (by rw[iD];exact hb) (by rw[iD];exact hs) Rt).call lim
   obtain ⟨xL,kL⟩:=Rv _ l1 l2
   refine ⟨a,mid,decide (((IntKind.wrap .i64 ((b:Int)-(mid:Int))):Int)≥(IntKind.wrap .i64 (Int.tdiv (IntKind.wrap .i64 ((b:Int)-(a:Int))) 8))),ap,L,by omega,by omega,by rw[l1.1,iD];omega,by rw[l1.1,iD];exact hs,xL,kL,fun β kn=> ?_⟩
   ·rw[hc]
    simp only[Option.bind_some,V.bz,V.kH,V.toInt_int,V.oe,V.la,ji,ig]
    rw[aw,ah (by rw[gv g1,gv (by omega),wrap64 (by omega) (by omega),wrap64 (by omega) (by omega)];omega),bU,wrap64 (x:=((mid+1:Nat):Int)) (by omega) (by omega),e]
    simp only[Option.bind_some,V.bz,V.la]
 by_cases ha:0<a
 ·by_cases hc:aR d[a-1]! d[p]! <0
  ·obtain ⟨a2,b2,mQ,mR,d2,q1,q2,q3,q4,q5,q6,q7⟩:=part
   refine ⟨a2,b2,mQ,mR,d2,q1,q2,q3,q4,q5,q6,fun β kn=> ?_⟩
   rw[←q7 β kn]
   unfold lu
   rw[aw,ag (by omega),fl ha,wrap64 (by omega) (by omega),fb (i:=a-1) (by omega),fc (by omega),fb (i:=p) (by omega),fc (by omega)]
   simp only[Ed.b7,Ed.b8,Ed.b9,iM,Option.bind_some,V.bz,V.toInt_int]
   rw[dF,aw,ag hc]
  ·obtain ⟨mid,d4,hx⟩: ∃mid d4,partitionEqual ai d a b p=(mid,d4):=⟨_,_,rfl⟩
   obtain ⟨g1,sk,iD,Rw,kL⟩:=round_eq oC (partitionEqual_holds ai) ha h1 h2 hb hB (by rw[tL,←propext (zH _ _)];exact hc) hx
   have he:=QI (a:=a) (b:=b) (pivot:=p) (d:=d) h2 (by omega) hb hs
   rw[hx] at he
   refine ⟨mid,b,wb,wp,d4,by omega,sk,by rw[iD];exact hb,by rw[iD];exact hs,Rw,kL,fun β kn=> ?_⟩
   unfold lu
   rw[aw,ag (by omega),fl ha,wrap64 (by omega) (by omega),fb (i:=a-1) (by omega),fc (by omega),fb (i:=p) (by omega),fc (by omega)]
   simp only[Ed.b7,Ed.b8,Ed.b9,iM,Option.bind_some,V.bz,V.toInt_int]
   rw[dF,aw,ah hc,he]
   rfl
 ·obtain ⟨a2,b2,mQ,mR,d2,q1,q2,q3,q4,q5,q6,q7⟩:=part
  refine ⟨a2,b2,mQ,mR,d2,q1,q2,q3,q4,q5,q6,fun β kn=> ?_⟩
  rw[←q7 β kn]
  unfold lu
  rw[aw,ah (by omega)]
theorem Rx: ∀(n a b:Nat) (d:Array Ed),b-a≤n→a≤b→b≤d.size→d.size<1152921504606846976→Below ai a b d→tP a b d:=by
 intro n
 induction n with
 | zero=>
  intro a b d hn cY hb hs hB lim wb wp
  have hi:=insertionSort_holds (lt:=ai) oC d a b cY hb
  refine ⟨_,bd ?_,hi⟩
  show rG CC a b lim wb wp (eA d) (fun y=>some (Sum.inl y)) (fun r=>some (Sum.inr r))=_
  rw[tO,aw,ag (by rw[gv cY,wrap64 (by omega) (by omega)];omega),EI hb hs (by omega)]
  rfl
 | succ n ih=>
  intro a b d hn cY hb hs hB lim wb wp
  by_cases h12:b-a≤12
  ·have hi:=insertionSort_holds (lt:=ai) oC d a b cY hb
   refine ⟨_,bd ?_,hi⟩
   show rG CC a b lim wb wp (eA d) (fun y=>some (Sum.inl y)) (fun r=>some (Sum.inr r))=_
   rw[tO,aw,ag (by rw[gv cY,wrap64 (by omega) (by omega)];omega),EI hb hs (by omega)]
   rfl
  ·have qo:a+12<b:=by omega
   have p7: ¬(((IntKind.wrap .i64 ((b:Int)-(a:Int))):Int)≤12):=by rw[gv cY,wrap64 (by omega) (by omega)];omega
   by_cases h0:lim=0
   ·have hi:=heapSort_holds (lt:=ai) oC d a b cY hb
    refine ⟨_,bd ?_,hi⟩
    show rG CC a b lim wb wp (eA d) (fun y=>some (Sum.inl y)) (fun r=>some (Sum.inr r))=_
    rw[tO,aw,ah p7,lV,ag h0,Qr (by omega) hb hs]
    rfl
   ·obtain ⟨l1,d1,s1,k1⟩:=Ro (lim:=lim) (wb:=wb) (wp:=wp) qo hb hs (IntKind.wrap .i64 ((b:Int)-(a:Int))) (!wb)
    have b1:b≤d1.size:=by rw[s1.1];exact hb
    have z1:d1.size<1152921504606846976:=by rw[s1.1];exact hs
    obtain ⟨p,h,c1,p1,p2⟩:=Rg qo b1 z1
    obtain ⟨q,h2,d2,q1,q2,s2,k2⟩:=Rp (lim:=l1) (wb:=wb) (wp:=wp) qo b1 z1 (IntKind.wrap .i64 ((b:Int)-(a:Int))) h (h==2) p1 p2
    have b2:b≤d2.size:=by rw[s2.1];exact b1
    have z2:d2.size<1152921504606846976:=by rw[s2.1];exact z1
    have B2:Below ai a b d2:=(hB.perm hb s1).perm b1 s2
    obtain ⟨t,ht⟩: ∃t:Bool,t=(bif wb then (bif wp then (h2==1) else false) else false):=⟨_,rfl⟩
    obtain ⟨d3,s3,k3⟩:=Rq (lim:=l1) (wb:=wb) (wp:=wp) qo b2 z2 B2 (IntKind.wrap .i64 ((b:Int)-(a:Int))) (q:Int) t
    have b3:b≤d3.size:=by rw[s3.1];exact b2
    have z3:d3.size<1152921504606846976:=by rw[s3.1];exact z2
    have B3:Below ai a b d3:=B2.perm b2 s3
    have P3:PermIn a b d d3:=permIn_trans _ _ _ a b (permIn_trans _ _ _ a b s1 s2) s3
    have step: ∀(β:Type) (kn:(Int × Int × Int × Bool × Bool × (List V))→Option β) (kr:(List V)→Option β),rG CC a b lim wb wp (eA d) kn kr=
      oA CC a b l1 wb wp (IntKind.wrap .i64 ((b:Int)-(a:Int))) (q:Int) t (eA d2) (dm (un fun (J3:Bool) (xK:List V)=>kr xK) (fun (gj:List V)=>lu CC a b wb wp l1 q gj kn)):=by
     intro β kn kr
     rw[tO,aw,ah p7,lV,ah h0,k1]
     simp only[un]
     rw[c1]
     simp only[Option.bind_some,V.bz,V.kH,V.toInt_int,ji,ig]
     rw[k2]
     simp only[un]
     rw[ht]
     cases wb
     ·rfl
     ·cases wp
      ·rfl
      ·rfl
    rcases k3 with k3|⟨Ry,k3⟩
    ·obtain ⟨a4,b4,Rz,RA,d4,r1,r2,r3,r4,r5,r6,r7⟩:=Rr qo b3 z3 B3 q1 q2 (fun a2 b2 d2 aX h1 h2 h3 h4=>ih a2 b2 d2 (by omega) h1 h2 h3 h4) wb wp l1
     obtain ⟨R,e,e1,e2⟩:=ih a4 b4 d4 (by omega) r2 r3 r4 r5 l1 Rz RA
     obtain ⟨f1,f2⟩:=r6 R e1 e2
     refine ⟨R,(cM ?_).trans e,permIn_trans _ _ _ a b P3 f1,f2⟩
     show rG CC a b lim wb wp (eA d) (fun y=>some (Sum.inl y)) (fun r=>some (Sum.inr r))=_
     rw[step,k3]
     exact r7 _ (fun y=>some (Sum.inl y))
    ·refine ⟨d3,bd ?_,P3,Ry⟩
     show rG CC a b lim wb wp (eA d) (fun y=>some (Sum.inl y)) (fun r=>some (Sum.inr r))=_
     rw[step,k3]
     rfl
theorem ak7 (l:List Ed) (hs:l.length<1152921504606846976): ∃R:List Ed,CC zm [.list ak (l.map Ed.enc)]=some [.list ak (R.map Ed.enc)]∧R.Perm l∧R.Pairwise (fun x y=> ¬y.lt x):=by
 obtain ⟨L,e1,_⟩:=Fo (x:=l.length) (by omega)
 obtain ⟨R,e2,h1,h2⟩:=(Rx _ 0 l.toArray.size l.toArray (aE _) (jG _) (aE _) (by simpa using hs) (.inl rfl)).call (L:Int)
 have a9:R.size=l.length:=by rw[h1.1];simp
 refine ⟨R.toList,ak4 ?_,?_,?_⟩
 ·unfold aaG
  rw[cy,qe (A:=l.length) (by omega),e1]
  simp only[Option.bind_some,V.bz,V.toInt_int]
  have e3:eA l.toArray=l.map Ed.enc:=by simp[pw]
  rw[e3,show ((l.toArray.size:Nat):Int)=(l.length:Int) by simp,show ((0:Nat):Int)=0 from rfl] at e2
  rw[e2]
  rfl
 ·have h3:=h1.2.2
  rw[show l.toArray.size=R.size from h1.1.symm,Gw,h1.1,Gw] at h3
  exact h3
 ·rw[vw]
  intro i j hi hj sH
  have h3:=h2 i j (jG _) sH (by simpa[←a9] using hj)
  rw[tL] at h3
  have eM:i<R.size:=by simpa using hi
  have hG:j<R.size:=by simpa using hj
  rw[Be R i eM,Be R j hG] at h3
  simpa using h3
end Go.AM.SL
set_option maxRecDepth 100000
namespace Go.AM
open Go.Proofs
noncomputable def aaH (C:ae) (en ft dM fM:Int) (eN:List V):Option (List V):=
 (C CO [.int .i64 en,.int .i64 ft,.int .u64 dM,.int .u64 fM,.list ak eN]).bind fun r1=>
 bif (((V.nth (r1.drop 2) 0).toInt):Int) != 0 then
  some [.int .i64 0,.int .i64 0,.int .i64 ((V.nth (r1.drop 2) 0).toInt),.list ay ([]:List V),.list aA ([]:List V)]
 else
  (C q0 [.int .i64 ((V.nth r1 0).toInt),.int .i64 ((V.nth (r1.drop 1) 0).toInt),.list ay ((V.nth (r1.drop 3) 0).toList),.list aA ((V.nth ((r1.drop 3).drop 1) 0).toList)]).bind fun r2=>
  some [.int .i64 ((V.nth r2 0).toInt),.int .i64 ((V.nth (r2.drop 1) 0).toInt),.int .i64 0,.list ay ((V.nth (r2.drop 2) 0).toList),.list aA ((V.nth ((r2.drop 2).drop 1) 0).toList)]
theorem ak8 {en ft dM fM:Int} {eN:List V} {r:Option (List V)} (h:aaH CC en ft dM fM eN=r):CC zk [.int .i64 en,.int .i64 ft,.int .u64 dM,.int .u64 fM,.list ak eN]=r:=
 bp (key:=79) (L:=di) (bs:=[]) (by kernel_rfl) ar (bn (by kernel_rfl) h)
noncomputable def RB (C:ae) (br bj bu bq:Int) (bI:List V):Option (List V):=
 (C zm [.list ak bI]).bind fun r1=>
 (C ID [.list ak ((V.nth r1 0).toList)]).bind fun r2=>
 bif (V.nth r2 0).toBool then
  (C zk [.int .i64 br,.int .i64 bj,.int .u64 bu,.int .u64 bq,.list ak ((V.nth (r2.drop 1) 0).toList)]).bind fun r3=>
  some [.int .i64 ((V.nth r3 0).toInt),.int .i64 ((V.nth (r3.drop 1) 0).toInt),.int .i64 ((V.nth (r3.drop 2) 0).toInt),.int .i64 br,.int .i64 bj,.int .u64 bu,.int .u64 bq,.list ak ((V.nth (r2.drop 1) 0).toList),.list ay ((V.nth (r3.drop 3) 0).toList),.list aA ((V.nth ((r3.drop 3).drop 1) 0).toList)]
 else
  (C zk [.int .i64 br,.int .i64 bj,.int .u64 bu,.int .u64 bq,.list ak ((V.nth (r2.drop 1) 0).toList)]).bind fun r4=>
  some [.int .i64 ((V.nth r4 0).toInt),.int .i64 ((V.nth (r4.drop 1) 0).toInt),.int .i64 ((V.nth (r4.drop 2) 0).toInt),.int .i64 br,.int .i64 bj,.int .u64 bu,.int .u64 bq,.list ak ((V.nth (r2.drop 1) 0).toList),.list ay ((V.nth (r4.drop 3) 0).toList),.list aA ((V.nth ((r4.drop 3).drop 1) 0).toList)]
theorem aaI {br bj bu bq:Int} {bI:List V} {r:Option (List V)} (h:RB CC br bj bu bq bI=r):CC sX [.int .i64 br,.int .i64 bj,.int .u64 bu,.int .u64 bq,.list ak bI]=r:=
 bp (key:=65) (L:=di) (bs:=[]) (by kernel_rfl) ar (bn (by kernel_rfl) h)
section
variable {n:Nf} {L S:Nat} (h:Nat6 n L S)
include h
end
instance (n:Nf) (L S:Nat):Decidable (jD n L S):=by unfold jD;infer_instance
noncomputable def gR (n:Nf) (L S:Nat):Da:=if jD n L S then zD else minD (j8 n L S)
def pA (n:Nf) (L S:Nat):Int:=if jD n L S then 3 else 0
section
variable {n:Nf} {L S:Nat} (h:Nat6 n L S)
include h
theorem RC:CC zk (mD n [])=some (j7 (gR n L S) (pA n L S)):=by
 refine ak8 ?_
 unfold aaH gR pA
 by_cases ho:jD n L S
 ·obtain ⟨X,hX⟩:=ajp h ho
  rw[ag ho,ag ho]
  refine bs hX (bT rfl ?_)
  rfl
 ·obtain ⟨X,hX⟩:=ajo h ho
  rw[ah ho,ah ho]
  refine bs hX (bF rfl ?_)
  refine bs (z5 (z8 h ho)) ?_
  rfl
end
def dg (L S st fin:Nat) (l:List Ed):Nf:=⟨L,S,st,fin,qi l⟩
structure rH (L S st fin:Nat) (l:List Ed):Prop where
 l1:1≤L
 l6:L≤6
 pk:S≤64
 st:st<2^S
 fin:fin<2^S
 E: ∀e∈l,e.In L S
 len:l.length≤1000000
theorem oE {L S st fin:Nat} {l:List Ed} (h:rH L S st fin l):Nat6 (dg L S st fin l) L S where
 hL:=rfl
 hS:=rfl
 ok:=by
  have yv:=h.l1
  have hl6:=h.l6
  have hs:=h.pk
  have cd:=h.st
  have kL:=h.fin
  have hp:2^S≤2^64:=oQ (by omega) hs
  have gd: ∀e∈qi l,e.In L S:=fun e he=>h.E e (vf.1 he)
  have hlen:=ajR (L:=L) (S:=S) (by omega) (by omega) (EA l) gd
  refine ⟨by simp only[dg];omega,by simp only[dg];omega,by simp only[dg];omega,by simp only[dg];omega,by simp only[dg];omega,by simp only[dg];omega,by simp only[dg];unfold maxLen;omega,fun e he=> ?_⟩
  have:=gd e he
  unfold Ed.In at this
  unfold Ed.Ok
  omega
 code:=by
  have yv:=h.l1
  have hl6:=h.l6
  have hs:=h.pk
  unfold Nf.code
  rw[ah (by simp only[dg];omega),ah (by simp only[dg,Int.toNat_natCast];have:=h.st;have:=h.fin;omega),ag]
  intro i hi
  have gd: ∀e∈qi l,e.In L S:=fun e he=>h.E e (vf.1 he)
  unfold Nf.rj
  simp only[dg] at*
  refine ⟨by rw[gu hi];exact gd _ (gb hi),fun h0=> ?_⟩
  rw[gu hi,gu (show i-1<_ by omega)]
  exact vw.1 (EA l) (i-1) i (by omega) hi (by omega)
def RD (m:Da) (e:Int) (n:Nf):List V:=[.int .i64 (m.L:Int),.int .i64 (m.st:Int),.int .i64 e,.int .i64 n.L,.int .i64 n.S,.int .u64 (n.st:Int),.int .u64 (n.fin:Int),.list ak (n.E.map Ed.enc),.list ay m.cZ,.list aA m.cO]
section
variable {L S st fin:Nat} {l:List Ed} (h:rH L S st fin l)
include h
theorem aaJ:CC sX [.int .i64 (L:Int),.int .i64 (S:Int),.int .u64 (st:Int),.int .u64 (fin:Int),.list ak (l.map Ed.enc)]=some (RD (gR (dg L S st fin l) L S) (pA (dg L S st fin l) L S) (dg L S st fin l)):=by
 have hl:=h.len
 obtain ⟨R,e1,p1,s1⟩:=SL.ak7 l (by omega)
 obtain ⟨b,e2⟩:=Z5 (l:=R) (by rw[p1.length_eq];exact hl)
 obtain ⟨c1,c2⟩:=aj0 s1
 have hc:jE R=qi l:=Kc c1 (EA l) fun x=>by rw[c2,vf,p1.mem_iff]
 rw[hc] at e2
 have e3:=RC (oE h)
 refine aaI ?_
 unfold RB
 refine bs e1 ?_
 refine bs e2 ?_
 cases b
 ·refine bF rfl ?_
  refine bs e3 ?_
  rfl
 ·refine bT rfl ?_
  refine bs e3 ?_
  rfl
end
noncomputable def aaK (C:ae) (dZ eD:Int) (eg eu:List V) (eE eX:Int) (eT eY:List V):Option (List V):=
 (C CJ [.int .i64 dZ,.int .i64 eD,.list ay eg,.list aA eu]).bind fun r1=>
 bif (((V.nth r1 0).toInt):Int) != 0 then
  some [.int .i64 ((V.nth r1 0).toInt)]
 else
  (C CJ [.int .i64 eE,.int .i64 eX,.list ay eT,.list aA eY]).bind fun r2=>
  bif (((V.nth r2 0).toInt):Int) != 0 then
  some [.int .i64 ((V.nth r2 0).toInt)]
  else
  bif (dZ:Int) != eE then
   some [.int .i64 1]
  else
   some [.int .i64 0]
theorem ak9 {dZ eD:Int} {eg eu:List V} {eE eX:Int} {eT eY:List V} {r:Option (List V)} (h:aaK CC dZ eD eg eu eE eX eT eY=r):CC Io [.int .i64 dZ,.int .i64 eD,.list ay eg,.list aA eu,.int .i64 eE,.int .i64 eX,.list ay eT,.list aA eY]=r:=
 bp (key:=24) (L:=di) (bs:=[]) (by kernel_rfl) ar (bn (by kernel_rfl) h)
noncomputable abbrev Av:Code:=cA Tryd.prog (au.aU 41)
noncomputable def Fp (C:ae) (t40 tQ tR:Int) (rI pB:List V) (tS tT:Int) (rJ qp:List V) (t41:Int) {β:Type} (kn:Int→Option β) (kr:((Bool) ⊕ (Int × Bool))→Option β):Option β:=
 bif decide ((t41:Int)<t40) then
  (idx rI t41).bind fun x1=>
  (idx rJ t41).bind fun x2=>
  bif !(x1.toBool==x2.toBool) then
  kr (.inl false)
  else
  kn (IntKind.wrap .i64 (t41+1))
 else
  kr (.inr (t41,decide ((t41:Int)<t40)))
noncomputable def RE (C:ae) (t40 tQ tR:Int) (rI pB:List V) (tS tT:Int) (rJ qp:List V):(Int)→Option ((Int) ⊕ ((Bool) ⊕ (Int × Bool))):=fun t41=>Fp C t40 tQ tR rI pB tS tT rJ qp t41 (fun y=>some (.inl y)) (fun r=>some (.inr r))
noncomputable def Fq (C:ae) (q t58 t59 t80 tQ tR:Int) (rI pB:List V) (tS tT:Int) (rJ qp:List V) (t81:Int) {β:Type} (kn:Int→Option β) (kr:((Bool) ⊕ (Int × Bool))→Option β):Option β:=
 bif decide ((t81:Int)<t80) then
  (idx pB q).bind fun x9=>
  (idx x9.toList t81).bind fun fu=>
  (idx qp q).bind fun eo=>
  (idx eo.toList t81).bind fun rm=>
  bif (fu.toInt:Int) != rm.toInt then
  kr (.inl false)
  else
  kn (IntKind.wrap .i64 (t81+1))
 else
  kr (.inr (t81,decide ((t81:Int)<t80)))
noncomputable def RF (C:ae) (q t58 t59 t80 tQ tR:Int) (rI pB:List V) (tS tT:Int) (rJ qp:List V):(Int)→Option ((Int) ⊕ ((Bool) ⊕ (Int × Bool))):=fun t81=>Fq C q t58 t59 t80 tQ tR rI pB tS tT rJ qp t81 (fun y=>some (.inl y)) (fun r=>some (.inr r))
noncomputable def Fs (C:ae) (t58 tQ tR:Int) (rI pB:List V) (tS tT:Int) (rJ qp:List V) (t59:Int) {β:Type} (kn:Int→Option β) (kr:((Bool) ⊕ (Int × Bool))→Option β):Option β:=
 bif decide ((t59:Int)<t58) then
  (idx pB t59).bind fun x6=>
  (idx qp t59).bind fun x7=>
  bif ((x6.toList.length:Int):Int) != (x7.toList.length:Int) then
  kr (.inl false)
  else
  (idx pB t59).bind fun x8=>
  (Loop (RF C t59 t58 t59 (x8.toList.length:Int) tQ tR rI pB tS tT rJ qp) 0).bind (dm (fun (u6:Bool)=>
   kr (.inl u6)) (un fun (xf:Int) (aof:Bool)=>
   kn (IntKind.wrap .i64 (t59+1))))
 else
  kr (.inr (t59,decide ((t59:Int)<t58)))
noncomputable def RG (C:ae) (t58 tQ tR:Int) (rI pB:List V) (tS tT:Int) (rJ qp:List V):(Int)→Option ((Int) ⊕ ((Bool) ⊕ (Int × Bool))):=fun t59=>Fs C t58 tQ tR rI pB tS tT rJ qp t59 (fun y=>some (.inl y)) (fun r=>some (.inr r))
noncomputable def aaL (C:ae):cl:=fun β n ds k=>
 bif Nat.beq n 65 then bt NF [false,true,false,false,false,false,false,false,false,false] [[0],[1,0,0,3,4,5,6,7,8,9,10]] (@Fp C) ds k else
 bif Nat.beq n 241 then bt NG [false,false,false,false,true,false,false,false,false,false,false,false,false] [[0],[1,2,3,4,0,0,6,7,8,9,10,11,12,13]] (@Fq C) ds k else
 bif Nat.beq n 161 then bt NH [false,true,false,false,false,false,false,false,false,false] [[0],[1,0,0,3,4,5,6,7,8,9,10]] (@Fs C) ds k else
 none
abbrev RH (C:ae) (b:ch):Prop:=cj Tryd.prog au C (aaL C) 41 (cH Tryd.prog (au.aU 41)) (au.sin 41).aZ.length b
theorem ala (C:ae):RH C (.loop (aq [1,1,0,1,0,0] Av)):=
 bA NF [false,true,false,false,false,false,false,false,false,false] [[0],[1,0,0,3,4,5,6,7,8,9,10]] (@Fp C) (by kernel_rfl) (aK (bs:=[]) (by kernel_rfl) ar) (fun ds=>by kernel_rfl) (fun i x=>by kernel_rfl) (fun i x β k=>by kernel_rfl) (fun β ds k=>by kernel_rfl)
theorem alb (C:ae):RH C (.loop (aq [1,1,1,0,1,0,0,1,1,0,0,1,1,1,0,0] Av)):=
 bA NG [false,false,false,false,true,false,false,false,false,false,false,false,false] [[0],[1,2,3,4,0,0,6,7,8,9,10,11,12,13]] (@Fq C) (by kernel_rfl) (aK (bs:=[]) (by kernel_rfl) ar) (fun ds=>by kernel_rfl) (fun i x=>by kernel_rfl) (fun i x β k=>by kernel_rfl) (fun β ds k=>by kernel_rfl)
theorem alc (C:ae):RH C (.loop (aq [1,1,1,0,1,0,0] Av)):=
 bA NH [false,true,false,false,false,false,false,false,false,false] [[0],[1,0,0,3,4,5,6,7,8,9,10]] (@Fs C) (by kernel_rfl) (aK (bs:=[.loop (aq [1,1,1,0,1,0,0,1,1,0,0,1,1,1,0,0] Av)]) (by kernel_rfl) (aY (alb C) ar)) (fun ds=>by kernel_rfl) (fun i x=>by kernel_rfl) (fun i x β k=>by kernel_rfl) (fun β ds k=>by kernel_rfl)
noncomputable def aaM (C:ae) (dZ eD:Int) (eg eu:List V) (eE eX:Int) (eT eY:List V):Option (List V):=
 bif (dZ:Int) != eE then
  some [.bool false]
 else
  bif (eD:Int) != eX then
  some [.bool false]
  else
  bif ((eg.length:Int):Int) != (eT.length:Int) then
   some [.bool false]
  else
   bif ((eu.length:Int):Int) != (eY.length:Int) then
   some [.bool false]
   else
   (Loop (RE C (eg.length:Int) dZ eD eg eu eE eX eT eY) 0).bind (dm (fun (lb:Bool)=>
    some [.bool lb]) (un fun (lY:Int) (nn:Bool)=>
    (Loop (RG C (eu.length:Int) dZ eD eg eu eE eX eT eY) 0).bind (dm (fun (JG:Bool)=>
     some [.bool JG]) (un fun (aog:Int) (ZR:Bool)=>
     some [.bool true]))))
theorem ald {dZ eD:Int} {eg eu:List V} {eE eX:Int} {eT eY:List V} {r:Option (List V)} (h:aaM CC dZ eD eg eu eE eX eT eY=r):CC wR [.int .i64 dZ,.int .i64 eD,.list ay eg,.list aA eu,.int .i64 eE,.int .i64 eX,.list ay eT,.list aA eY]=r:=
 bp (key:=41) (L:=aaL CC) (bs:=[.loop (aq [1,1,0,1,0,0] Av),.loop (aq [1,1,1,0,1,0,0] Av)]) (by kernel_rfl) (aY (ala CC) (aY (alc CC) ar)) (bn (by kernel_rfl) h)
section
variable {a b:Da} (ha:a.Ok) (hb:b.Ok) (hL:a.L=b.L) {op:Nat}
include ha hb hL
end
theorem ale (m:Da) (hn:m.n≤1000000) (hl:m.L≤1000):CC wR (lf m (dU m))=some [.bool true]:=by
 refine ald ?_
 unfold aaM
 refine bF (by simp) (bF (by simp) (bF (by simp) (bF (by simp) ?_)))
 rw[Da.lZ]
 refine bs (iz m.n (fun i=>(i:Int)) (.inr ((m.n:Int),false)) (fun i hi=> ?_) ?_) ?_
 ·simp only[RE,Fp]
  refine bT (eW hi) ?_
  refine bs (Da.zP hi) ?_
  refine bs (Da.zP hi) ?_
  refine bF (by simp) ?_
  rw[dI (by omega)]
 ·simp only[RE,Fp]
  refine bF (b6 (aE _)) ?_
  rw[b6 (aE _)]
 ·simp only[dm,un]
  rw[Da.PO]
  refine bs (iz m.n (fun i=>(i:Int)) (.inr ((m.n:Int),false)) (fun i hi=> ?_) ?_) ?_
  ·simp only[RG,Fs]
   refine bT (eW hi) ?_
   refine bs (Da.rz hi) ?_
   refine bs (Da.rz hi) ?_
   refine bF (by simp) ?_
   refine bs (Da.rz hi) ?_
   rw[tq,gg]
   refine bs (iz m.L (fun x=>(x:Int)) (.inr ((m.L:Int),false)) (fun x hx=> ?_) ?_) ?_
   ·simp only[RF,Fq]
    refine bT (eW hx) ?_
    refine bs (Da.rz hi) ?_
    rw[tq]
    refine bs (rA hx) ?_
    refine bs (Da.rz hi) ?_
    rw[tq]
    refine bs (rA hx) ?_
    refine bF (by simp) ?_
    rw[dI (by omega)]
   ·simp only[RF,Fq]
    refine bF (b6 (aE _)) ?_
    rw[b6 (aE _)]
   ·simp only[dm,un]
    rw[dI (by omega)]
  ·simp only[RG,Fs]
   refine bF (b6 (aE _)) ?_
   rw[b6 (aE _)]
  ·rfl
theorem Da.Ok.same {m:Da} (h:m.Ok):CC wR (lf m (dU m))=some [.bool true]:=ale m (by have:=h.e8;omega) (by have:=h.l6;omega)
def Aw (d e:Df):Int:=if d.val≠0 then d.val else if e.val≠0 then e.val else if d.L≠e.L then 1 else 0
theorem alf {d e:Df} (hd:d.Ok) (he:e.Ok):CC Io (nG d (nG e []))=some [.int .i64 (Aw d e)]:=by
 refine ak9 ?_
 unfold aaK Aw
 refine bs (Yo hd) ?_
 by_cases h1:d.val=0
 ·rw[ah (by simp[h1])]
  refine bF (by simp[h1]) ?_
  refine bs (Yo he) ?_
  by_cases h2:e.val=0
  ·rw[ah (by simp[h2])]
   refine bF (by simp[h2]) ?_
   by_cases h3:d.L=e.L
   ·rw[ah (by simp[h3])]
    exact bF (by simp[h3]) rfl
   ·rw[ag h3]
    exact bT (by simpa using h3) rfl
  ·rw[ag h2]
   exact bT (by simpa using h2) rfl
 ·rw[ag h1]
  exact bT (by simpa using h1) rfl
noncomputable abbrev Ax:Code:=cA Tryd.prog (au.aU 75)
noncomputable def xM (C:ae) (p:Int) (t19:List V) (t20 t21:Int) (t26:List V) (t27 bf bx:Int) (bK bH:List V) (changed:Bool) (t28:Int) (results:List V) {β:Type} (kn:(Bool × Int × (List V))→Option β) (kr:(Bool × Int × Bool × (List V))→Option β):Option β:=
 bif decide ((t28:Int)<t27) then
  (idx t26 t28).bind fun x2=>
  bif (decide (0≤x2.toInt))&&(decide (x2.toInt<(results.length:Int))) then
  (results[(x2.toInt:Int).toNat]?).bind fun x3=>
  bif x3.toBool then
   bif (decide (0≤p))&&(decide (p<(results.length:Int))) then
   (results[(p:Int).toNat]?).bind fun x4=>
   bif !x4.toBool then
    bif (decide (0≤p))&&(decide (p<(results.length:Int))) then
    (results[(p:Int).toNat]?).bind fun x5=>
    kn (true,IntKind.wrap .i64 (t28+1),results.set ((p:Int).toNat) (.bool true))
    else none
   else
    kn (changed,IntKind.wrap .i64 (t28+1),results)
   else none
  else
   kn (changed,IntKind.wrap .i64 (t28+1),results)
  else none
 else
  kr (changed,t28,decide ((t28:Int)<t27),results)
noncomputable def Ay (C:ae) (p:Int) (t19:List V) (t20 t21:Int) (t26:List V) (t27 bf bx:Int) (bK bH:List V):(Bool × Int × (List V))→Option ((Bool × Int × (List V)) ⊕ (Bool × Int × Bool × (List V))):=un fun changed=>un fun t28 results=>xM C p t19 t20 t21 t26 t27 bf bx bK bH changed t28 results (fun y=>some (.inl y)) (fun r=>some (.inr r))
noncomputable def Ft (C:ae) (t19:List V) (t20 bf bx:Int) (bK bH:List V) (changed:Bool) (t21:Int) (results:List V) {β:Type} (kn:(Bool × Int × (List V))→Option β) (kr:(Bool × Int × Bool × (List V))→Option β):Option β:=
 bif decide ((t21:Int)<t20) then
  (idx t19 t21).bind fun x1=>
  (Loop (Ay C t21 t19 t20 t21 x1.toList (x1.toList.length:Int) bf bx bK bH) (changed,0,results)).bind (un fun (alg:Bool)=>un fun (pj:Int)=>un fun (zG:Bool) (alh:List V)=>
   kn (alg,IntKind.wrap .i64 (t21+1),alh))
 else
  kr (changed,t21,decide ((t21:Int)<t20),results)
noncomputable def Kq (C:ae) (t19:List V) (t20 bf bx:Int) (bK bH:List V):(Bool × Int × (List V))→Option ((Bool × Int × (List V)) ⊕ (Bool × Int × Bool × (List V))):=un fun changed=>un fun t21 results=>Ft C t19 t20 bf bx bK bH changed t21 results (fun y=>some (.inl y)) (fun r=>some (.inr r))
noncomputable def Fu (C:ae) (bf bx:Int) (bK bH:List V) (changed:Bool) (results:List V) {β:Type} (kn:(Bool × (List V))→Option β) (kr:(Bool × (List V))→Option β):Option β:=
 bif changed then
  (Loop (Kq C bH (bH.length:Int) bf bx bK bH) (false,0,results)).bind (un fun (ali:Bool)=>un fun (J8:Int)=>un fun (xl:Bool) (alj:List V)=>
   kn (ali,alj))
 else
  kr (changed,results)
noncomputable def Kr (C:ae) (bf bx:Int) (bK bH:List V):(Bool × (List V))→Option ((Bool × (List V)) ⊕ (Bool × (List V))):=un fun changed results=>Fu C bf bx bK bH changed results (fun y=>some (.inl y)) (fun r=>some (.inr r))
noncomputable def aaN (C:ae):cl:=fun β n ds k=>
 bif Nat.beq n 161 then bt NR [true,false,false,false,false,false,false,true,false,false,false,false,true] [[0,2,3,4,5,6,7,0,0,9,10,11,12,0]] (@xM C) ds k else
 bif Nat.beq n 113 then bt NS [true,false,false,true,false,false,false,false,true] [[0,2,3,0,0,5,6,7,8,0]] (@Ft C) ds k else
 bif Nat.beq n 65 then bt NT [true,false,false,false,false,true] [[0,2,3,4,5,0]] (@Fu C) ds k else
 none
abbrev RI (C:ae) (b:ch):Prop:=cj Tryd.prog au C (aaN C) 75 (cH Tryd.prog (au.aU 75)) (au.sin 75).aZ.length b
theorem alk (C:ae):RI C (.loop (aq [1,1,1,0,1,0,0,1,0,1,1,0,0,1,1,0,0,1,1,0,0] Ax)):=
 bA NR [true,false,false,false,false,false,false,true,false,false,false,false,true] [[0,2,3,4,5,6,7,0,0,9,10,11,12,0]] (@xM C) (by kernel_rfl) (aK (bs:=[]) (by kernel_rfl) ar) (fun ds=>by kernel_rfl) (fun i x=>by kernel_rfl) (fun i x β k=>by kernel_rfl) (fun β ds k=>by kernel_rfl)
theorem alm (C:ae):RI C (.loop (aq [1,1,1,0,1,0,0,1,0,1,1,0,0] Ax)):=
 bA NS [true,false,false,true,false,false,false,false,true] [[0,2,3,0,0,5,6,7,8,0]] (@Ft C) (by kernel_rfl) (aK (bs:=[.loop (aq [1,1,1,0,1,0,0,1,0,1,1,0,0,1,1,0,0,1,1,0,0] Ax)]) (by kernel_rfl) (aY (alk C) ar)) (fun ds=>by kernel_rfl) (fun i x=>by kernel_rfl) (fun i x β k=>by kernel_rfl) (fun β ds k=>by kernel_rfl)
theorem aln (C:ae):RI C (.loop (aq [1,1,1,0,1,0,0] Ax)):=
 bA NT [true,false,false,false,false,true] [[0,2,3,4,5,0]] (@Fu C) (by kernel_rfl) (aK (bs:=[.loop (aq [1,1,1,0,1,0,0,1,0,1,1,0,0] Ax)]) (by kernel_rfl) (aY (alm C) ar)) (fun ds=>by kernel_rfl) (fun i x=>by kernel_rfl) (fun i x β k=>by kernel_rfl) (fun β ds k=>by kernel_rfl)
noncomputable def aaO (C:ae) (ba bh:Int) (aM bc:List V):Option (List V):=
 bif (decide (0≤(aM.length:Int)))&&((decide ((aM.length:Int)≤(aM.length:Int)))&&(Nat.ble ((((aM.length:Int):Int).toNat)*1) cz)) then
  (Loop (Kr C ba bh aM bc) (true,aM.take (List.replicate (((aM.length:Int):Int).toNat) (V.bool false)).length++(List.replicate (((aM.length:Int):Int).toNat) (V.bool false)).drop aM.length)).bind (un fun (xf:Bool) (alo:List V)=>
   some [.list ay alo])
 else none
theorem alp {ba bh:Int} {aM bc:List V} {r:Option (List V)} (h:aaO CC ba bh aM bc=r):CC Iz [.int .i64 ba,.int .i64 bh,.list ay aM,.list aA bc]=r:=
 bp (key:=75) (L:=aaN CC) (bs:=[.loop (aq [1,1,1,0,1,0,0] Ax)]) (by kernel_rfl) (aY (aln CC) ar) (bn (by kernel_rfl) h)
def cT (r:Nat→Bool):Nat→Nat
 | 0=>0
 | n+1=>cT r n+(if r n=true then 1 else 0)
theorem aaP (r:Nat→Bool): ∀n,cT r n≤n
 | 0=>aE _
 | n+1=>by have:=aaP r n;rw[cT];split<;>omega
theorem RJ {r s:Nat→Bool}: ∀{n},(∀q,q<n→r q=true→s q=true)→cT r n≤cT s n
 | 0,_=>aE _
 | n+1,h=>by
  have:=RJ (n:=n) fun q hq=>h q (by omega)
  have h2:=h n (by omega)
  rw[cT,cT]
  split
  ·rename_i h3;rw[ag (h2 h3)];omega
  ·omega
theorem aaQ {r s:Nat→Bool}: ∀{n},(∀q,q<n→r q=true→s q=true)→(∃q,q<n∧r q=false∧s q=true)→cT r n<cT s n
 | 0,_,h=>by obtain ⟨q,h1,_⟩:=h;omega
 | n+1,h,he=>by
  have hm:=RJ (n:=n) fun q hq=>h q (by omega)
  obtain ⟨q,h1,h2,h3⟩:=he
  rw[cT,cT]
  rcases eV q n with c|c
  ·have:=aaQ (n:=n) (fun q hq=>h q (by omega)) ⟨q,c,h2,h3⟩
   have h4:=h n (by omega)
   split
   ·rename_i h5;rw[ag (h4 h5)];omega
   ·omega
  ·obtain rfl:q=n:=by omega
   rw[h2,h3]
   simp only[Bool.false_eq_true,iP,gy]
   omega
namespace Da
def Fv (a:Da) (k q:Nat):Prop:= ∃w,WL a.L w∧w.length≤k∧a.acc q w=true
def Live (a:Da) (q:Nat):Prop:= ∃w,WL a.L w∧a.acc q w=true
open Classical in
noncomputable def jM (a:Da) (q:Nat):Bool:=decide (a.Live q)
open Classical in
theorem aaR {a:Da} {q:Nat}:a.jM q=true↔a.Live q:=by unfold jM;exact decide_eq_true_iff
theorem Fv.live {a:Da} {k q:Nat} (h:a.Fv k q):a.Live q:=by obtain ⟨w,h1,_,h3⟩:=h;exact ⟨w,h1,h3⟩
theorem Fv.mono {a:Da} {k m q:Nat} (h:a.Fv k q) (hk:k≤m):a.Fv m q:=by obtain ⟨w,h1,h2,h3⟩:=h;exact ⟨w,h1,by omega,h3⟩
theorem alq {a:Da} {q x:Nat} (hx:x<a.L) (h:a.Live (a.nx q x)):a.Live q:=by
 obtain ⟨w,h1,h2⟩:=h
 exact ⟨x::w,h1.cons hx,h2⟩
theorem alr {a:Da} {q:Nat} (h:a.fin q=true):a.Live q:=⟨[],WL.nil,h⟩
theorem als {a:Da} (ha:a.Ok) {r:Nat→Bool} (hf: ∀q,q<a.n→a.fin q=true→r q=true) (hc: ∀q x,q<a.n→x<a.L→r (a.nx q x)=true→r q=true) {q:Nat} (hq:q<a.n) (h:a.Live q):r q=true:=by
 obtain ⟨w,h1,h2⟩:=h
 induction w generalizing q with
 | nil=>exact hf q hq h2
 | cons x w ih=>exact hc q x hq h1.head (ih (ha.fy hq h1.head) h1.tail h2)
end Da
def bV (n:Nat) (r:Nat→Bool):List V:=tab n fun q=>V.bool (r q)
def upd (r:Nat→Bool) (p:Nat) (b:Bool) (q:Nat):Bool:=if q=p then b else r q
theorem RK {r:Nat→Bool} {p:Nat} {b:Bool}:upd r p b p=b:=ag rfl
theorem RL {r:Nat→Bool} {p q:Nat} {b:Bool} (h:q≠p):upd r p b q=r q:=ah h
theorem alu {n:Nat} {r:Nat→Bool} {p:Nat} {b:Bool}:(bV n r).set p (.bool b)=bV n (upd r p b):=by
 unfold bV
 rw[ru]
 refine fN fun q _=> ?_
 by_cases h:q=p
 ·rw[ag h,h,RK]
 ·rw[ah h,RL h]
theorem alv {n:Nat} {r s:Nat→Bool} (h: ∀q,q<n→r q=s q):bV n r=bV n s:=fN fun q hq=>by rw[h q hq]
structure Fw (a:Da) (r0 r:Nat→Bool) (c:Bool):Prop where
 good: ∀q,q<a.n→r q=true→a.Live q
 up: ∀q,q<a.n→r0 q=true→r q=true
 yes:c=true→∃q,q<a.n∧r0 q=false∧r q=true
 no:c=false→∀q,q<a.n→r q=r0 q
section
variable {a:Da} (h:a.Ok)
include h
theorem alw {r0 r:Nat→Bool} {c:Bool} (hr:Fw a r0 r c) {p:Nat} (hp:p<a.n) {k1 k2 k3 k4:Int} {l1 l2:List V}:
  ∃o,Loop (Ay CC (p:Int) l1 k1 k2 (tab a.L fun x=>iV (a.nx p x)) ((tab a.L fun x=>iV (a.nx p x)).length:Int) k3 k4 l2 a.cO) (c,0,bV a.n r)=some o∧∃c' r',o=(c',(a.L:Int),false,bV a.n r')∧Fw a r0 r' c'∧(c'=false→c=false∧∀x,x<a.L→r0 (a.nx p x)=true→r0 p=true):=by
 have h6:=h.l6
 rw[gg]
 refine Jy (fun x st=> ∃c' r',st=(c',(x:Int),bV a.n r')∧Fw a r0 r' c'∧(c'=false→c=false∧∀y,y<x→r0 (a.nx p y)=true→r0 p=true)) _ a.L 0 _ (fun x _ hx st cd=> ?_) (fun st cd=> ?_) ⟨c,r,rfl,hr,fun e=>⟨e,fun y hy=>by omega⟩⟩
 ·obtain ⟨c',r',rfl,hI,gp⟩:=cd
  rw[fe] at hx
  have qI:=h.fy hp hx
  by_cases h1:r' (a.nx p x)=true
  ·by_cases h2:r' p=true
   ·refine ⟨(c',((x+1:Nat):Int),bV a.n r'),?_,c',r',rfl,hI,fun e=>⟨(gp e).1,fun y hy Ks=> ?_⟩⟩
    ·simp only[Ay,xM,un]
     refine bT (eW hx) ?_
     refine bs (rA hx) ?_
     refine (fY (i:=a.nx p x) qI).trans ?_
     refine bT h1 ?_
     refine (fY (i:=p) hp).trans ?_
     refine bF (by rw[V.oe,h2];rfl) ?_
     rw[dI (by omega)]
    ·rw[←hI.no e p hp];exact h2
   ·refine ⟨(true,((x+1:Nat):Int),bV a.n (upd r' p true)),?_,true,_,rfl,⟨fun q hq mw=> ?_,fun q hq mw=> ?_,fun _=>⟨p,hp,?_,RK⟩,fun e=>by cases e⟩,fun e=>by cases e⟩
    ·simp only[Ay,xM,un]
     refine bT (eW hx) ?_
     refine bs (rA hx) ?_
     refine (fY (i:=a.nx p x) qI).trans ?_
     refine bT h1 ?_
     refine (fY (i:=p) hp).trans ?_
     refine bT (by rw[V.oe,show r' p=false by simpa using h2];rfl) ?_
     refine (fY (i:=p) hp).trans ?_
     rw[dI (by omega),Int.toNat_natCast,alu]
    ·by_cases e:q=p
     ·rw[e];exact Da.alq hx (hI.good _ qI h1)
     ·rw[RL e] at mw;exact hI.good q hq mw
    ·by_cases e:q=p
     ·rw[e,RK]
     ·rw[RL e];exact hI.up q hq mw
    ·cases e:r0 p with
     | false=>rfl
     | true=>exact absurd (hI.up p hp e) h2
  ·refine ⟨(c',((x+1:Nat):Int),bV a.n r'),?_,c',r',rfl,hI,fun e=>⟨(gp e).1,fun y hy Ks=> ?_⟩⟩
   ·simp only[Ay,xM,un]
    refine bT (eW hx) ?_
    refine bs (rA hx) ?_
    refine (fY (i:=a.nx p x) qI).trans ?_
    refine bF (by simpa using h1) ?_
    rw[dI (by omega)]
   ·rcases eV y x with c1|c1
    ·exact (gp e).2 y c1 Ks
    ·rw[show y=x by omega,←hI.no e _ qI] at Ks
     exact absurd Ks h1
 ·obtain ⟨c',r',rfl,hI,gp⟩:=cd
  rw[fe] at*
  refine ⟨_,?_,c',r',rfl,hI,gp⟩
  simp only[Ay,xM,un]
  refine bF (b6 (aE _)) ?_
  rw[b6 (aE _)]
theorem alx {r0:Nat→Bool} (hg: ∀q,q<a.n→r0 q=true→a.Live q) {k3 k4:Int} {l2:List V}:
  ∃o,Loop (Kq CC a.cO (a.cO.length:Int) k3 k4 l2 a.cO) (false,0,bV a.n r0)=some o∧∃c' r',o=(c',(a.n:Int),false,bV a.n r')∧Fw a r0 r' c'∧(c'=false→∀q x,q<a.n→x<a.L→r0 (a.nx q x)=true→r0 q=true):=by
 have hm:=h.e8
 rw[Da.PO]
 refine Jy (fun p st=> ∃c' r',st=(c',(p:Int),bV a.n r')∧Fw a r0 r' c'∧(c'=false→∀q x,q<p→x<a.L→r0 (a.nx q x)=true→r0 q=true)) _ a.n 0 _ (fun p _ hp st cd=> ?_) (fun st cd=> ?_) ⟨false,r0,rfl,⟨hg,fun q _ e=>e,fun e=>(by cases e),fun _ q _=>rfl⟩,fun e q x hq=>by omega⟩
 ·obtain ⟨c',r',rfl,hI,gp⟩:=cd
  rw[fe] at hp
  obtain ⟨o,h1,c2,r2,rfl,h3,h4⟩:=alw h hI hp (k1:=(a.n:Int)) (k2:=(p:Int)) (k3:=k3) (k4:=k4) (l1:=a.cO) (l2:=l2)
  refine ⟨(c2,((p+1:Nat):Int),bV a.n r2),?_,c2,r2,rfl,h3,fun e q x hq hx hr=> ?_⟩
  ·simp only[Kq,Ft,un]
   refine bT (eW hp) ?_
   refine bs (Da.rz hp) ?_
   rw[tq]
   refine bs h1 ?_
   rw[dI (by omega)];rfl
  ·rcases eV q p with c1|c1
   ·exact gp (h4 e).1 q x c1 hx hr
   ·obtain rfl:q=p:=by omega
    exact (h4 e).2 x hx hr
 ·obtain ⟨c',r',rfl,hI,gp⟩:=cd
  rw[fe] at*
  refine ⟨_,?_,c',r',rfl,hI,gp⟩
  simp only[Kq,Ft,un]
  refine bF (b6 (aE _)) ?_
  rw[b6 (aE _)]
theorem aly:CC Iz (dU a)=some [.list ay (bV a.n a.jM)]:=by
 have hm:=h.e8
 refine alp ?_
 unfold aaO
 rw[Da.lZ]
 refine bT (pr (by omega) (by omega)) ?_
 have e0:a.cZ.take (List.replicate (((a.n:Nat):Int).toNat) (V.bool false)).length++(List.replicate (((a.n:Nat):Int).toNat) (V.bool false)).drop a.n=bV a.n a.fin:=by
  rw[Int.toNat_natCast,xX,Gv (by simp),List.drop_eq_nil_of_le (by simp),iQ]
  rfl
 rw[e0]
 have key:=MX (step:=Kr CC (a.L:Int) (a.st:Int) a.cZ a.cO)
  (fun x=> ∃c r,x=(c,bV a.n r)∧(∀q,q<a.n→r q=true→a.Live q)∧(∀q,q<a.n→a.fin q=true→r q=true)∧(c=false→∀q x,q<a.n→x<a.L→r (a.nx q x)=true→r q=true))
  (fun x=>(if x.1=true then 1 else 0)+2*(a.n-cT (fun q=>(x.2.getD q (.bool false)).toBool) a.n))
  (fun o=>o=(false,bV a.n a.jM)) (fun x hx=> ?_) (true,bV a.n a.fin) ⟨true,a.fin,rfl,fun q _ e=>Da.alr e,fun q _ e=>e,fun e=>by cases e⟩
 ·obtain ⟨r,h1,rfl⟩:=key
  refine bs h1 ?_
  rfl
 ·obtain ⟨c,r,rfl,hg,hf,gp⟩:=hx
  cases c with
  | false=>
   right
   refine ⟨_,?_,rfl⟩
   simp only[Kr,Fu,un]
   refine bF rfl ?_
   have:bV a.n r=bV a.n a.jM:=alv fun q hq=>by
    rw[oR,Da.aaR]
    exact ⟨fun e=>hg q hq e,fun e=>Da.als h hf (gp rfl) hq e⟩
   rw[this]
  | true=>
   left
   obtain ⟨o,h1,c2,r2,rfl,hI,jQ⟩:=alx h hg (k3:=(a.L:Int)) (k4:=(a.st:Int)) (l2:=a.cZ)
   refine ⟨(c2,bV a.n r2),?_,⟨c2,r2,rfl,hI.good,fun q hq e=>hI.up q hq (hf q hq e),fun e q x hq hx hr=> ?_⟩,?_⟩
   ·simp only[Kr,Fu,un]
    refine bT rfl ?_
    refine bs h1 ?_
    rfl
   ·rw[hI.no e q hq]
    rw[hI.no e _ (h.fy hq hx)] at hr
    exact jQ e q x hq hx hr
   ·have ec: ∀s:Nat→Bool,cT (fun q=>((bV a.n s).getD q (.bool false)).toBool) a.n=cT s a.n:=fun s=>by
     have: ∀m,m≤a.n→cT (fun q=>((bV a.n s).getD q (.bool false)).toBool) m=cT s m:=by
      intro m
      induction m with
      | zero=>intro _;rfl
      | succ m ih=>
       intro hm
       rw[cT,cT,ih (by omega)]
       unfold bV
       rw[u9 (by omega)];rfl
     exact this a.n (aE _)
    simp only[ec]
    have l1:=aaP r2 a.n
    have l2:=RJ hI.up
    cases c2 with
    | false=>simp;omega
    | true=>
     have:=aaQ hI.up (hI.yes rfl)
     simp only[gy]
     omega
end
section
variable {a:Da} (h:a.Ok)
include h
end
noncomputable def RM (C:ae) (cf oo:Int):Option (List V):=
 bif decide ((oo:Int)>64) then
  some [V.bool true]
 else
  some [V.bool false,.int .i64 cf,.int .i64 oo,.int .u64 0,.int .u64 0,.list ak ([]:List V)]
theorem aaS {cf oo:Int} {r:Option (List V)} (h:RM CC cf oo=r):CC wU [.int .i64 cf,.int .i64 oo]=r:=
 bp (key:=61) (L:=di) (bs:=[]) (by kernel_rfl) ar (bn (by kernel_rfl) h)
noncomputable def aaT (C:ae) (Fx letter to br bj bu bq:Int) (bI:List V):Option (List V):=
 bif Nat.ble ((bI.length+([.agg [.int .i64 Fx,.int .i64 letter,.int .i64 to]]:List V).length)*24) cz then
  some [.int .i64 br,.int .i64 bj,.int .u64 bu,.int .u64 bq,.list ak (bI++([.agg [.int .i64 Fx,.int .i64 letter,.int .i64 to]]:List V))]
 else none
theorem alz {Fx letter to br bj bu bq:Int} {bI:List V} {r:Option (List V)} (h:aaT CC Fx letter to br bj bu bq bI=r):CC zj [.int .i64 Fx,.int .i64 letter,.int .i64 to,.int .i64 br,.int .i64 bj,.int .u64 bu,.int .u64 bq,.list ak bI]=r:=
 bp (key:=62) (L:=di) (bs:=[]) (by kernel_rfl) ar (bn (by kernel_rfl) h)
noncomputable def aaU (C:ae) (q br bj bu bq:Int) (bI:List V):Option (List V):=
 bif decide (0≤q) then
  some [.int .i64 br,.int .i64 bj,.int .u64 (IntKind.wrap .u64 ((BitVec.ofInt (IntKind.bits .u64) bu|||BitVec.ofInt (IntKind.bits .u64) (IntKind.wrap .u64 (1*2^(min q.toNat (IntKind.bits .u64))))).toNat)),.int .u64 bq,.list ak bI]
 else none
theorem alA {q br bj bu bq:Int} {bI:List V} {r:Option (List V)} (h:aaU CC q br bj bu bq bI=r):CC wV [.int .i64 q,.int .i64 br,.int .i64 bj,.int .u64 bu,.int .u64 bq,.list ak bI]=r:=
 bp (key:=63) (L:=di) (bs:=[]) (by kernel_rfl) ar (bn (by kernel_rfl) h)
noncomputable def aaV (C:ae) (q br bj bu bq:Int) (bI:List V):Option (List V):=
 bif decide (0≤q) then
  some [.int .i64 br,.int .i64 bj,.int .u64 bu,.int .u64 (IntKind.wrap .u64 ((BitVec.ofInt (IntKind.bits .u64) bq|||BitVec.ofInt (IntKind.bits .u64) (IntKind.wrap .u64 (1*2^(min q.toNat (IntKind.bits .u64))))).toNat)),.list ak bI]
 else none
theorem alB {q br bj bu bq:Int} {bI:List V} {r:Option (List V)} (h:aaV CC q br bj bu bq bI=r):CC Ix [.int .i64 q,.int .i64 br,.int .i64 bj,.int .u64 bu,.int .u64 bq,.list ak bI]=r:=
 bp (key:=69) (L:=di) (bs:=[]) (by kernel_rfl) ar (bn (by kernel_rfl) h)
noncomputable abbrev aaW:Code:=cA Tryd.prog (au.aU 64)
noncomputable def Fy (C:ae) (offset:Int) (t8:List V) (t9 t10 br bj bu bq:Int) (dw:List V) {β:Type} (kn:(Int × Int × Int × Int × Int × (List V))→Option β) (kr:(Int × Bool × Int × Int × Int × Int × (List V))→Option β):Option β:=
 bif decide ((t10:Int)<t9) then
  (idx t8 t10).bind fun x1=>
  bif x1.toBool then
  (C Ix [.int .i64 (IntKind.wrap .i64 (t10+offset)),.int .i64 br,.int .i64 bj,.int .u64 bu,.int .u64 bq,.list ak dw]).bind fun r2=>
  kn (IntKind.wrap .i64 (t10+1),(V.nth r2 0).toInt,(V.nth (r2.drop 1) 0).toInt,(V.nth ((r2.drop 1).drop 1) 0).toInt,(V.nth (((r2.drop 1).drop 1).drop 1) 0).toInt,(V.nth (r2.drop 4) 0).toList)
  else
  kn (IntKind.wrap .i64 (t10+1),br,bj,bu,bq,dw)
 else
  kr (t10,decide ((t10:Int)<t9),br,bj,bu,bq,dw)
noncomputable def RN (C:ae) (offset:Int) (t8:List V) (t9:Int):(Int × Int × Int × Int × Int × (List V))→Option ((Int × Int × Int × Int × Int × (List V)) ⊕ (Int × Bool × Int × Int × Int × Int × (List V))):=un fun t10=>un fun br=>un fun bj=>un fun bu=>un fun bq dw=>Fy C offset t8 t9 t10 br bj bu bq dw (fun y=>some (.inl y)) (fun r=>some (.inr r))
noncomputable def aaX (C:ae):cl:=fun β n ds k=>
 bif Nat.beq n 17 then bt NM [false,false,false,true,true,true,true,true,true] [[1,2,3,0,0,0,0,0,0,0]] (@Fy C) ds k else
 none
abbrev alC (C:ae) (b:ch):Prop:=cj Tryd.prog au C (aaX C) 64 (cH Tryd.prog (au.aU 64)) (au.sin 64).aZ.length b
theorem alD (C:ae):alC C (.loop (aq [1,0,0] aaW)):=
 bA NM [false,false,false,true,true,true,true,true,true] [[1,2,3,0,0,0,0,0,0,0]] (@Fy C) (by kernel_rfl) (aK (bs:=[]) (by kernel_rfl) ar) (fun ds=>by kernel_rfl) (fun i x=>by kernel_rfl) (fun i x β k=>by kernel_rfl) (fun β ds k=>by kernel_rfl)
noncomputable def aaY (C:ae) (final:List V) (offset br bj bu bq:Int) (bI:List V):Option (List V):=
 (Loop (RN C offset final (final.length:Int)) (0,br,bj,bu,bq,bI)).bind (un fun (lb:Int)=>un fun (lY:Bool)=>un fun (alE:Int)=>un fun (xN:Int)=>un fun (tU:Int)=>un fun (tW:Int) (b_9:List V)=>
  some [.int .i64 alE,.int .i64 xN,.int .u64 tU,.int .u64 tW,.list ak b_9])
theorem alF {final:List V} {offset br bj bu bq:Int} {bI:List V} {r:Option (List V)} (h:aaY CC final offset br bj bu bq bI=r):CC wW [.list ay final,.int .i64 offset,.int .i64 br,.int .i64 bj,.int .u64 bu,.int .u64 bq,.list ak bI]=r:=
 bp (key:=64) (L:=aaX CC) (bs:=[.loop (aq [1,0,0] aaW)]) (by kernel_rfl) (aY (alD CC) ar) (bn (by kernel_rfl) h)
noncomputable abbrev Kt:Code:=cA Tryd.prog (au.aU 73)
noncomputable def Fz (C:ae) (offset p:Int) (t11:List V) (t12 t13:Int) (t18:List V) (t19 t20 br bj bu bq:Int) (dw:List V) {β:Type} (kn:(Int × Int × Int × Int × Int × (List V))→Option β) (kr:(Int × Bool × Int × Int × Int × Int × (List V))→Option β):Option β:=
 bif decide ((t20:Int)<t19) then
  (idx t18 t20).bind fun x2=>
  (C zj [.int .i64 (IntKind.wrap .i64 (p+offset)),.int .i64 t20,.int .i64 (IntKind.wrap .i64 (x2.toInt+offset)),.int .i64 br,.int .i64 bj,.int .u64 bu,.int .u64 bq,.list ak dw]).bind fun r3=>
  kn (IntKind.wrap .i64 (t20+1),(V.nth r3 0).toInt,(V.nth (r3.drop 1) 0).toInt,(V.nth ((r3.drop 1).drop 1) 0).toInt,(V.nth (((r3.drop 1).drop 1).drop 1) 0).toInt,(V.nth (r3.drop 4) 0).toList)
 else
  kr (t20,decide ((t20:Int)<t19),br,bj,bu,bq,dw)
noncomputable def RO (C:ae) (offset p:Int) (t11:List V) (t12 t13:Int) (t18:List V) (t19:Int):(Int × Int × Int × Int × Int × (List V))→Option ((Int × Int × Int × Int × Int × (List V)) ⊕ (Int × Bool × Int × Int × Int × Int × (List V))):=un fun t20=>un fun br=>un fun bj=>un fun bu=>un fun bq dw=>Fz C offset p t11 t12 t13 t18 t19 t20 br bj bu bq dw (fun y=>some (.inl y)) (fun r=>some (.inr r))
noncomputable def FA (C:ae) (offset:Int) (t11:List V) (t12 t13 br bj bu bq:Int) (dw:List V) {β:Type} (kn:(Int × Int × Int × Int × Int × (List V))→Option β) (kr:(Int × Bool × Int × Int × Int × Int × (List V))→Option β):Option β:=
 bif decide ((t13:Int)<t12) then
  (idx t11 t13).bind fun x1=>
  (Loop (RO C offset t13 t11 t12 t13 x1.toList (x1.toList.length:Int)) (0,br,bj,bu,bq,dw)).bind (un fun (lY:Int)=>un fun (nn:Bool)=>un fun (xN:Int)=>un fun (tU:Int)=>un fun (tW:Int)=>un fun (tX:Int) (vc:List V)=>
   kn (IntKind.wrap .i64 (t13+1),xN,tU,tW,tX,vc))
 else
  kr (t13,decide ((t13:Int)<t12),br,bj,bu,bq,dw)
noncomputable def RP (C:ae) (offset:Int) (t11:List V) (t12:Int):(Int × Int × Int × Int × Int × (List V))→Option ((Int × Int × Int × Int × Int × (List V)) ⊕ (Int × Bool × Int × Int × Int × Int × (List V))):=un fun t13=>un fun br=>un fun bj=>un fun bu=>un fun bq dw=>FA C offset t11 t12 t13 br bj bu bq dw (fun y=>some (.inl y)) (fun r=>some (.inr r))
noncomputable def aaZ (C:ae):cl:=fun β n ds k=>
 bif Nat.beq n 81 then bt NN [false,false,false,false,false,false,false,true,true,true,true,true,true] [[1,2,3,4,5,6,7,0,0,0,0,0,0,0]] (@Fz C) ds k else
 bif Nat.beq n 33 then bt NO [false,false,false,true,true,true,true,true,true] [[1,2,3,0,0,0,0,0,0,0]] (@FA C) ds k else
 none
abbrev aa0 (C:ae) (b:ch):Prop:=cj Tryd.prog au C (aaZ C) 73 (cH Tryd.prog (au.aU 73)) (au.sin 73).aZ.length b
theorem alG (C:ae):aa0 C (.loop (aq [1,1,0,0,1,1,0,0,1,1,0,0] Kt)):=
 bA NN [false,false,false,false,false,false,false,true,true,true,true,true,true] [[1,2,3,4,5,6,7,0,0,0,0,0,0,0]] (@Fz C) (by kernel_rfl) (aK (bs:=[]) (by kernel_rfl) ar) (fun ds=>by kernel_rfl) (fun i x=>by kernel_rfl) (fun i x β k=>by kernel_rfl) (fun β ds k=>by kernel_rfl)
theorem alH (C:ae):aa0 C (.loop (aq [1,1,0,0] Kt)):=
 bA NO [false,false,false,true,true,true,true,true,true] [[1,2,3,0,0,0,0,0,0,0]] (@FA C) (by kernel_rfl) (aK (bs:=[.loop (aq [1,1,0,0,1,1,0,0,1,1,0,0] Kt)]) (by kernel_rfl) (aY (alG C) ar)) (fun ds=>by kernel_rfl) (fun i x=>by kernel_rfl) (fun i x β k=>by kernel_rfl) (fun β ds k=>by kernel_rfl)
noncomputable def aa1 (C:ae) (ba bh:Int) (aM bc:List V) (offset br bj bu bq:Int) (bI:List V):Option (List V):=
 (Loop (RP C offset bc (bc.length:Int)) (0,br,bj,bu,bq,bI)).bind (un fun (J8:Int)=>un fun (xl:Bool)=>un fun (alI:Int)=>un fun (RQ:Int)=>un fun (RR:Int)=>un fun (RS:Int) (DS:List V)=>
  some [.int .i64 alI,.int .i64 RQ,.int .u64 RR,.int .u64 RS,.list ak DS])
theorem alJ {ba bh:Int} {aM bc:List V} {offset br bj bu bq:Int} {bI:List V} {r:Option (List V)} (h:aa1 CC ba bh aM bc offset br bj bu bq bI=r):CC wX [.int .i64 ba,.int .i64 bh,.list ay aM,.list aA bc,.int .i64 offset,.int .i64 br,.int .i64 bj,.int .u64 bu,.int .u64 bq,.list ak bI]=r:=
 bp (key:=73) (L:=aaZ CC) (bs:=[.loop (aq [1,1,0,0] Kt)]) (by kernel_rfl) (aY (alH CC) ar) (bn (by kernel_rfl) h)
noncomputable abbrev aa2:Code:=cA Tryd.prog (au.aU 74)
noncomputable def FB (C:ae) (final:List V) (to t14:Int) (Ku:List V) (t15 br bj bu bq:Int) (gS:List V) {β:Type} (kn:(Int × Int × Int × Int × Int × (List V))→Option β) (kr:(Int × Bool × Int × Int × Int × Int × (List V))→Option β):Option β:=
 bif decide ((t15:Int)<t14) then
  bif (decide (0≤t15))&&(decide (t15<(Ku.length:Int))) then
  (Ku[(t15:Int).toNat]?).bind fun x1=>
  bif decide ((((x1.cell 2).toInt):Int)<(final.length:Int)) then
   (idx final ((x1.cell 2).toInt)).bind fun x2=>
   bif x2.toBool then
   (C zj [.int .i64 ((x1.cell 0).toInt),.int .i64 ((x1.cell 1).toInt),.int .i64 to,.int .i64 br,.int .i64 bj,.int .u64 bu,.int .u64 bq,.list ak gS]).bind fun r3=>
   kn (IntKind.wrap .i64 (t15+1),(V.nth r3 0).toInt,(V.nth (r3.drop 1) 0).toInt,(V.nth ((r3.drop 1).drop 1) 0).toInt,(V.nth (((r3.drop 1).drop 1).drop 1) 0).toInt,(V.nth (r3.drop 4) 0).toList)
   else
   kn (IntKind.wrap .i64 (t15+1),br,bj,bu,bq,gS)
  else
   kn (IntKind.wrap .i64 (t15+1),br,bj,bu,bq,gS)
  else none
 else
  kr (t15,decide ((t15:Int)<t14),br,bj,bu,bq,gS)
noncomputable def RT (C:ae) (final:List V) (to t14:Int) (Ku:List V):(Int × Int × Int × Int × Int × (List V))→Option ((Int × Int × Int × Int × Int × (List V)) ⊕ (Int × Bool × Int × Int × Int × Int × (List V))):=un fun t15=>un fun br=>un fun bj=>un fun bu=>un fun bq gS=>FB C final to t14 Ku t15 br bj bu bq gS (fun y=>some (.inl y)) (fun r=>some (.inr r))
noncomputable def aa3 (C:ae):cl:=fun β n ds k=>
 bif Nat.beq n 17 then bt NQ [false,false,false,true,true,true,true,true,false,true] [[1,2,3,0,0,0,0,0,0,9,0]] (@FB C) ds k else
 none
abbrev alK (C:ae) (b:ch):Prop:=cj Tryd.prog au C (aa3 C) 74 (cH Tryd.prog (au.aU 74)) (au.sin 74).aZ.length b
theorem alL (C:ae):alK C (.loop (aq [1,0,0] aa2)):=
 bA NQ [false,false,false,true,true,true,true,true,false,true] [[1,2,3,0,0,0,0,0,0,9,0]] (@FB C) (by kernel_rfl) (aK (bs:=[]) (by kernel_rfl) ar) (fun ds=>by kernel_rfl) (fun i x=>by kernel_rfl) (fun i x β k=>by kernel_rfl) (fun β ds k=>by kernel_rfl)
noncomputable def aa4 (C:ae) (final:List V) (to br bj bu bq:Int) (bI:List V):Option (List V):=
 bif Nat.ble (bI.length*24) cz then
  (Loop (RT C final to (bI.length:Int) bI) (0,br,bj,bu,bq,bI)).bind (un fun (lY:Int)=>un fun (nn:Bool)=>un fun (xN:Int)=>un fun (tU:Int)=>un fun (tW:Int)=>un fun (tX:Int) (vc:List V)=>
   some [.int .i64 xN,.int .i64 tU,.int .u64 tW,.int .u64 tX,.list ak vc])
 else none
theorem alM {final:List V} {to br bj bu bq:Int} {bI:List V} {r:Option (List V)} (h:aa4 CC final to br bj bu bq bI=r):CC Iy [.list ay final,.int .i64 to,.int .i64 br,.int .i64 bj,.int .u64 bu,.int .u64 bq,.list ak bI]=r:=
 bp (key:=74) (L:=aa3 CC) (bs:=[.loop (aq [1,0,0] aa2)]) (by kernel_rfl) (aY (alL CC) ar) (bn (by kernel_rfl) h)
def eF (p x q:Nat):Ed:=⟨(p:Int),(x:Int),(q:Int)⟩
def aN (L S:Nat) (st fin:Nat) (l:List Ed):List V:=[.int .i64 (L:Int),.int .i64 (S:Int),.int .u64 (st:Int),.int .u64 (fin:Int),.list ak (l.map Ed.enc)]
def fm (n:Nat) (g:Nat→List Ed):List Ed:=(List.range n).flatMap g
theorem alN {g:Nat→List Ed}:fm 0 g=[]:=rfl
theorem Az {n:Nat} {g:Nat→List Ed}:fm (n+1) g=fm n g++g n:=by simp[fm,List.range_succ]
theorem RU {n:Nat} {g:Nat→List Ed} {e:Ed}:e∈fm n g↔∃i,i<n∧e∈g i:=by simp[fm]
theorem RV {n k:Nat} {g:Nat→List Ed} (h: ∀i,i<n→(g i).length≤k):(fm n g).length≤n*k:=by
 induction n with
 | zero=>simp[fm]
 | succ n ih=>
  rw[Az,dO,Nat.succ_mul]
  have:=ih fun i hi=>h i (by omega)
  have:=h n (by omega)
  omega
theorem tY {X R:Type} {step:X→Option (X ⊕ R)} (n:Nat) (s:Nat→X) (r:R) {x:X} (hx:x=s 0) (h: ∀i,i<n→step (s i)=some (.inl (s (i+1)))) (he:step (s n)=some (.inr r)):Loop step x=some r:=by rw[hx];exact iz n s r h he
theorem xO {a b:Nat} (h:a+b≤1000000000):IntKind.wrap .i64 ((a:Int)+(b:Int))=((a+b:Nat):Int):=by rw[wrap64 (by omega) (by omega)];omega
theorem aa5 {l:List Ed} {p x q:Nat}:l.map Ed.enc++[V.agg [.int .i64 (p:Int),.int .i64 (x:Int),.int .i64 (q:Int)]]=(l++[eF p x q]).map Ed.enc:=by simp[eF,Ed.enc]
section
variable {L S st fin:Nat} {l:List Ed}
theorem RW {p x q:Nat} (h:l.length≤1000000):CC zj [.int .i64 (p:Int),.int .i64 (x:Int),.int .i64 (q:Int),.int .i64 (L:Int),.int .i64 (S:Int),.int .u64 (st:Int),.int .u64 (fin:Int),.list ak (l.map Ed.enc)]=some (aN L S st fin (l++[eF p x q])):=by
 refine alz ?_
 unfold aaT
 refine bT (cap (by simp;omega) (by omega)) ?_
 rw[aa5];rfl
theorem Kv {q:Nat} (hq:q<64) (hs:st<2^64):CC wV [.int .i64 (q:Int),.int .i64 (L:Int),.int .i64 (S:Int),.int .u64 (st:Int),.int .u64 (fin:Int),.list ak (l.map Ed.enc)]=some (aN L S (st|||2^q) fin l):=by
 refine alA ?_
 unfold aaU
 refine bT (bX (by omega)) ?_
 rw[Int.toNat_natCast,w9 hq,u64_or hs (km (by omega) hq)];rfl
theorem alO {q:Nat} (hq:q<64) (hs:fin<2^64):CC Ix [.int .i64 (q:Int),.int .i64 (L:Int),.int .i64 (S:Int),.int .u64 (st:Int),.int .u64 (fin:Int),.list ak (l.map Ed.enc)]=some (aN L S st (fin|||2^q) l):=by
 refine alB ?_
 unfold aaV
 refine bT (bX (by omega)) ?_
 rw[Int.toNat_natCast,w9 hq,u64_or hs (km (by omega) hq)];rfl
theorem RX (h:S≤64):CC wU [.int .i64 (L:Int),.int .i64 (S:Int)]=some (.bool false::aN L S 0 0 []):=by
 refine aaS ?_
 unfold RM
 exact bF (eG (by omega)) rfl
theorem aa6 (h:64<S):CC wU [.int .i64 (L:Int),.int .i64 (S:Int)]=some [.bool true]:=by
 refine aaS ?_
 unfold RM
 exact bT (bX (by omega)) rfl
def eh (fin:Nat) (f:Nat→Bool) (off:Nat):Nat→Nat
 | 0=>fin
 | i+1=>if f i=true then eh fin f off i|||2^(i+off) else eh fin f off i
theorem RY {f:Nat→Bool} {off:Nat}: ∀{n j:Nat},(eh fin f off n).testBit j=(fin.testBit j||(decide (off≤j∧j<n+off)&&f (j-off)))
 | 0,j=>by
  rw[eG (by omega)];simp[eh]
 | n+1,j=>by
  unfold eh
  by_cases hf:f n=true
  ·rw[ag hf,xZ,RY,rS]
   by_cases hj:j=n+off
   ·subst hj
    rw[bX (p:=n+off=n+off) rfl,bX (p:=off≤n+off∧n+off<n+1+off) (by omega),show n+off-off=n by omega,hf];simp
   ·rw[eG (p:=n+off=j) (by omega)]
    have:(off≤j∧j<n+off)↔(off≤j∧j<n+1+off):=by omega
    simp only[this,Bool.or_false]
  ·rw[ah hf,RY]
   by_cases hj:j=n+off
   ·subst hj
    rw[show n+off-off=n by omega,Bool.eq_false_iff.2 hf];simp
   ·have:(off≤j∧j<n+off)↔(off≤j∧j<n+1+off):=by omega
    simp only[this]
theorem vk {f:Nat→Bool} {off k:Nat} (hf:fin<2^k): ∀{n:Nat},n+off≤k→eh fin f off n<2^k
 | 0,_=>hf
 | n+1,h=>by
  unfold eh
  have ih:=vk (f:=f) (off:=off) hf (n:=n) (by omega)
  split
  ·exact vB ih (km (by omega) (by omega))
  ·exact ih
theorem RZ {n off:Nat} {f:Nat→Bool} (ho:n+off≤64) (hs:fin<2^64):CC wW [.list ay (bV n f),.int .i64 (off:Int),.int .i64 (L:Int),.int .i64 (S:Int),.int .u64 (st:Int),.int .u64 (fin:Int),.list ak (l.map Ed.enc)]=some (aN L S st (eh fin f off n) l):=by
 refine alF ?_
 unfold aaY
 rw[show (bV n f).length=n from gg]
 refine bs (iz n (fun i=>((i:Int),(L:Int),(S:Int),(st:Int),(eh fin f off i:Int),l.map Ed.enc)) ((n:Int),false,(L:Int),(S:Int),(st:Int),(eh fin f off n:Int),l.map Ed.enc) (fun i hi=> ?_) ?_) ?_
 ·simp only[RN,Fy,un]
  refine bT (eW hi) ?_
  refine bs (qg hi) ?_
  have aX:=vk (f:=f) (off:=off) hs (n:=i) (by omega)
  cases hf:f i with
  | true=>
   refine bT rfl ?_
   rw[xO (by omega)]
   refine bs (alO (by omega) aX) ?_
   rw[dI (by omega),show eh fin f off (i+1)=eh fin f off i|||2^(i+off) from ag hf]
   rfl
  | false=>
   refine bF rfl ?_
   rw[dI (by omega),show eh fin f off (i+1)=eh fin f off i from ah (by rw[hf];simp)]
 ·simp only[RN,Fy,un]
  refine bF (b6 (aE _)) ?_
  rw[b6 (aE _)]
 ·rfl
def mf (a:Da) (off p:Nat):List Ed:=tab a.L fun x=>eF (p+off) x (a.nx p x+off)
def cg (a:Da) (off:Nat):List Ed:=fm a.n (mf a off)
theorem vl {a:Da} {off:Nat} {e:Ed}:e∈cg a off↔∃p x,p<a.n∧x<a.L∧e=eF (p+off) x (a.nx p x+off):=by
 unfold cg mf
 rw[RU]
 constructor
 ·rintro ⟨p,hp,he⟩
  obtain ⟨x,hx,rfl⟩:=tp.1 he
  exact ⟨p,x,hp,hx,rfl⟩
 ·rintro ⟨p,x,hp,hx,rfl⟩
  exact ⟨p,hp,tp.2 ⟨x,hx,rfl⟩⟩
theorem oF {a:Da} (h:a.Ok) {off:Nat} {n:Nat}:(fm n (mf a off)).length≤n*6:=RV fun p _=>by unfold mf;rw[gg];exact h.l6
theorem Kw {a:Da} (h:a.Ok) {off:Nat} (ho:off≤1000) (hl:l.length≤100000):CC wX (lf a [.int .i64 (off:Int),.int .i64 (L:Int),.int .i64 (S:Int),.int .u64 (st:Int),.int .u64 (fin:Int),.list ak (l.map Ed.enc)])=some (aN L S st fin (l++cg a off)):=by
 have hn:=h.e8
 have h6:=h.l6
 refine alJ ?_
 unfold aa1
 rw[show a.cO.length=a.n from gg]
 refine bs (tY a.n (fun i=>((i:Int),(L:Int),(S:Int),(st:Int),(fin:Int),(l++fm i (mf a off)).map Ed.enc)) ((a.n:Int),false,(L:Int),(S:Int),(st:Int),(fin:Int),(l++cg a off).map Ed.enc) (by rw[alN,iQ];rfl) (fun p hp=> ?_) ?_) ?_
 ·have hlen:=oF h (off:=off) (n:=p)
  simp only[RP,FA,un]
  refine bT (eW hp) ?_
  refine bs (qg hp) ?_
  rw[show (kK a.L (a.nx p)).toList=tab a.L fun x=>nV (a.nx p x) from rfl,gg]
  refine bs (tY a.L (fun i=>((i:Int),(L:Int),(S:Int),(st:Int),(fin:Int),((l++fm p (mf a off))++tab i fun x=>eF (p+off) x (a.nx p x+off)).map Ed.enc)) ((a.L:Int),false,(L:Int),(S:Int),(st:Int),(fin:Int),((l++fm p (mf a off))++mf a off p).map Ed.enc) (by rw[PN,iQ];rfl) (fun x hx=> ?_) ?_) ?_
  ·have hq:=h.fy hp hx
   simp only[RO,Fz,un]
   refine bT (eW hx) ?_
   refine bs (qg hx) ?_
   rw[show (nV (a.nx p x)).toInt=((a.nx p x:Nat):Int) from rfl,xO (by omega),xO (by omega)]
   refine bs (RW (by rw[dO,dO,gg];omega)) ?_
   rw[dI (by omega),va,←dK]
   rfl
  ·simp only[RO,Fz,un]
   refine bF (b6 (aE _)) ?_
   rw[b6 (aE _)]
   rfl
  ·simp only[un]
   rw[dI (by omega),Az,←dK]
 ·simp only[RP,FA,un]
  refine bF (b6 (aE _)) ?_
  rw[b6 (aE _)]
  rfl
 ·rfl
def oG (n:Nat) (f:Nat→Bool) (to:Nat) (l:List Ed):List Ed:=l.flatMap fun e=>if e.t.toNat<n∧f e.t.toNat=true then [⟨e.f,e.l,(to:Int)⟩] else []
theorem aa7 {n to:Nat} {f:Nat→Bool} {e:Ed}:e∈oG n f to l↔∃e'∈l,e'.t.toNat<n∧f e'.t.toNat=true∧e=⟨e'.f,e'.l,(to:Int)⟩:=by
 unfold oG
 rw[List.mem_flatMap]
 constructor
 ·rintro ⟨a,ha,h⟩
  split at h
  ·next c=>exact ⟨a,ha,c.1,c.2,by simpa using h⟩
  ·cases h
 ·rintro ⟨a,ha,h1,h2,h3⟩
  exact ⟨a,ha,by rw[ag ⟨h1,h2⟩];simpa using h3⟩
theorem R0 {n to:Nat} {f:Nat→Bool}: ∀{l:List Ed},(oG n f to l).length≤l.length
 | []=>by simp[oG]
 | e::l=>by
  have ih:=R0 (n:=n) (to:=to) (f:=f) (l:=l)
  unfold oG at*
  rw[List.flatMap_cons,dO,List.length_cons]
  split
  ·rw[List.length_singleton];omega
  ·rw[List.length_nil];omega
theorem alP {n to i:Nat} {f:Nat→Bool} (hi:i<l.length):oG n f to (l.take (i+1))=oG n f to (l.take i)++(if l[i].t.toNat<n∧f l[i].t.toNat=true then [⟨l[i].f,l[i].l,(to:Int)⟩] else []):=by
 unfold oG
 rw[Bd hi,List.flatMap_append]
 simp
theorem alQ {n to:Nat} {f:Nat→Bool} (hE: ∀e∈l,0≤e.f∧0≤e.l∧0≤e.t) (hl:l.length≤100000) (hn:n≤1000):CC Iy [.list ay (bV n f),.int .i64 (to:Int),.int .i64 (L:Int),.int .i64 (S:Int),.int .u64 (st:Int),.int .u64 (fin:Int),.list ak (l.map Ed.enc)]=some (aN L S st fin (l++oG n f to l)):=by
 refine alM ?_
 unfold aa4
 refine bT (by rw[fO,zF,cy];omega) ?_
 rw[cy]
 refine bs (tY l.length (fun i=>((i:Int),(L:Int),(S:Int),(st:Int),(fin:Int),(l++oG n f to (l.take i)).map Ed.enc)) ((l.length:Int),false,(L:Int),(S:Int),(st:Int),(fin:Int),(l++oG n f to l).map Ed.enc) (by rw[List.take_zero,show oG n f to []=[] from rfl,iQ];rfl) (fun i hi=> ?_) ?_) ?_
 ·simp only[RT,FB,un]
  refine bT (eW hi) ?_
  refine (Jx (i:=i) (v:=l[i].enc) (by simp[hi])).trans ?_
  obtain ⟨e1,e2,e3⟩:=hE l[i] (gb hi)
  have hlen:=R0 (n:=n) (to:=to) (f:=f) (l:=l.take i)
  have TH:=List.length_take_le i l
  rw[Ed.b7,Ed.b8,Ed.b9,alP hi,show (bV n f).length=n from gg]
  obtain ⟨t,ht⟩:=Int.eq_ofNat_of_zero_le e3
  obtain ⟨p,hp⟩:=Int.eq_ofNat_of_zero_le e1
  obtain ⟨x,hx⟩:=Int.eq_ofNat_of_zero_le e2
  rw[ht,hp,hx,Int.toNat_natCast]
  by_cases c:t<n
  ·refine bT (eW c) ?_
   refine bs (qg c) ?_
   cases hf:f t with
   | true=>
    refine bT rfl ?_
    refine bs (RW (by rw[dO];omega)) ?_
    rw[dI (by omega),ag ⟨c,rfl⟩,←dK]
    rfl
   | false=>
    refine bF rfl ?_
    rw[dI (by omega),ah (by simp),iQ]
  ·refine bF (b6 (by omega)) ?_
   rw[dI (by omega),ah (fun h=>c h.1),iQ]
 ·simp only[RT,FB,un]
  refine bF (b6 (aE _)) ?_
  rw[b6 (aE _),ud]
 ·rfl
end
noncomputable def aa8 (C:ae) (ba bh:Int) (aM bc:List V):Option (List V):=
 (C pg [.int .i64 ba,.int .i64 bh,.list ay aM,.list aA bc]).bind fun r1=>
 bif (((V.nth r1 0).toInt):Int) != 0 then
  some [.int .i64 0,.int .i64 0,.int .i64 ((V.nth r1 0).toInt),.list ay ([]:List V),.list aA ([]:List V)]
 else
  (C q0 [.int .i64 ba,.int .i64 bh,.list ay aM,.list aA bc]).bind fun r2=>
  some [.int .i64 ((V.nth r2 0).toInt),.int .i64 ((V.nth (r2.drop 1) 0).toInt),.int .i64 0,.list ay ((V.nth (r2.drop 2) 0).toList),.list aA ((V.nth ((r2.drop 2).drop 1) 0).toList)]
theorem alR {ba bh:Int} {aM bc:List V} {r:Option (List V)} (h:aa8 CC ba bh aM bc=r):CC wS [.int .i64 ba,.int .i64 bh,.list ay aM,.list aA bc]=r:=
 bp (key:=56) (L:=di) (bs:=[]) (by kernel_rfl) ar (bn (by kernel_rfl) h)
noncomputable def aa9 (C:ae) (dZ eD:Int) (eg eu:List V) (eE eX:Int) (eT eY:List V):Option (List V):=
 (C pg [.int .i64 dZ,.int .i64 eD,.list ay eg,.list aA eu]).bind fun r1=>
 bif (((V.nth r1 0).toInt):Int) != 0 then
  some [.int .i64 0,.int .i64 0,.int .i64 0,.int .i64 0,.int .i64 ((V.nth r1 0).toInt),.list ay ([]:List V),.list aA ([]:List V),.list ay ([]:List V),.list aA ([]:List V)]
 else
  (C pg [.int .i64 eE,.int .i64 eX,.list ay eT,.list aA eY]).bind fun r2=>
  bif (((V.nth r2 0).toInt):Int) != 0 then
  some [.int .i64 0,.int .i64 0,.int .i64 0,.int .i64 0,.int .i64 ((V.nth r2 0).toInt),.list ay ([]:List V),.list aA ([]:List V),.list ay ([]:List V),.list aA ([]:List V)]
  else
  bif (dZ:Int) != eE then
   some [.int .i64 0,.int .i64 0,.int .i64 0,.int .i64 0,.int .i64 1,.list ay ([]:List V),.list aA ([]:List V),.list ay ([]:List V),.list aA ([]:List V)]
  else
   (C q0 [.int .i64 dZ,.int .i64 eD,.list ay eg,.list aA eu]).bind fun r3=>
   (C q0 [.int .i64 eE,.int .i64 eX,.list ay eT,.list aA eY]).bind fun r4=>
   some [.int .i64 ((V.nth r3 0).toInt),.int .i64 ((V.nth (r3.drop 1) 0).toInt),.int .i64 ((V.nth r4 0).toInt),.int .i64 ((V.nth (r4.drop 1) 0).toInt),.int .i64 0,.list ay ((V.nth (r3.drop 2) 0).toList),.list aA ((V.nth ((r3.drop 2).drop 1) 0).toList),.list ay ((V.nth (r4.drop 2) 0).toList),.list aA ((V.nth ((r4.drop 2).drop 1) 0).toList)]
theorem alS {dZ eD:Int} {eg eu:List V} {eE eX:Int} {eT eY:List V} {r:Option (List V)} (h:aa9 CC dZ eD eg eu eE eX eT eY=r):CC Iw [.int .i64 dZ,.int .i64 eD,.list ay eg,.list aA eu,.int .i64 eE,.int .i64 eX,.list ay eT,.list aA eY]=r:=
 bp (key:=68) (L:=di) (bs:=[]) (by kernel_rfl) ar (bn (by kernel_rfl) h)
noncomputable def aba (C:ae) (dZ eD:Int) (eg eu:List V) (eE eX:Int) (eT eY:List V) (e8:Int):Option (List V):=
 bif decide (((eg.length:Int):Int)≤e8) then
  bif decide (((eT.length:Int):Int)≤e8) then
  (C Io [.int .i64 dZ,.int .i64 eD,.list ay eg,.list aA eu,.int .i64 eE,.int .i64 eX,.list ay eT,.list aA eY]).bind fun r1=>
  some [.bool ((((V.nth r1 0).toInt):Int)==0)]
  else
  some [.bool false]
 else
  some [.bool false]
theorem alT {dZ eD:Int} {eg eu:List V} {eE eX:Int} {eT eY:List V} {e8:Int} {r:Option (List V)} (h:aba CC dZ eD eg eu eE eX eT eY e8=r):CC Ip [.int .i64 dZ,.int .i64 eD,.list ay eg,.list aA eu,.int .i64 eE,.int .i64 eX,.list ay eT,.list aA eY,.int .i64 e8]=r:=
 bp (key:=26) (L:=di) (bs:=[]) (by kernel_rfl) ar (bn (by kernel_rfl) h)
theorem jF {a:Da} (h:a.Ok):(minD a).Ok:=(xm h).ok
theorem lx {a:Da} (h:a.Ok):(minD a).L=a.L:=(xm h).hL
theorem abb {a:Da} (h:a.Ok):(minD a).st=0:=(xm h).st
theorem pC {a:Da} (h:a.Ok) {w:List Nat} (hw:WL a.L w):(minD a).acc (minD a).st w=a.acc a.st w:=by
 rw[abb h];exact (xm h).iy w hw
theorem Kx {a:Da} (h:a.Ok):(minD a).n≤a.n:=by
 obtain ⟨p,_,c2,_⟩:=ajO h
 rw[←Ek h (Da.Y7 h c2)]
 have h1:=(Da.P0 h c2).rp (a.quo p).n
 have h2:(a.quo p).trim.n=(ax (a.quo p).L (a.quo p).nx (a.quo p).st (a.quo p).n).length:=om
 rw[h2]
 refine jH h1 ?_
 rw[Da.tx]
 exact Zn p a.n
theorem abc {a b:Da} (ha:a.Ok) (hb:b.Ok) (hL:a.L=b.L) (hl: ∀w,WL a.L w→a.acc a.st w=b.acc b.st w):minD a=minD b:=
 Ek hb (hL▸Canon.congr (xm ha) hl)
theorem abd {a:Da} (ha:a.Ok):minD (minD a)=minD a:=
 abc (jF ha) ha (lx ha) fun w hw=>pC ha (by rwa [lx ha] at hw)
theorem FC {a:Da} (h:a.Ok):CC wS (dU a)=some (j7 (minD a) 0):=by
 refine alR ?_
 unfold aa8
 refine bs (tt h) (bF rfl ?_)
 refine bs (z5 h) ?_
 rfl
def xP (a b:Da) (e:Int):List V:=[.int .i64 (a.L:Int),.int .i64 (a.st:Int),.int .i64 (b.L:Int),.int .i64 (b.st:Int),.int .i64 e,.list ay a.cZ,.list aA a.cO,.list ay b.cZ,.list aA b.cO]
theorem abe {a b:Da} (ha:a.Ok) (hb:b.Ok) (hL:a.L=b.L):CC Iw (lf a (dU b))=some (xP (minD a) (minD b) 0):=by
 refine alS ?_
 unfold aa9
 refine bs (tt ha) (bF rfl ?_)
 refine bs (tt hb) (bF rfl ?_)
 refine bF (by rw[hL];simp) ?_
 refine bs (z5 ha) ?_
 refine bs (z5 hb) ?_
 rfl
theorem alU {d e:Df} (h:Aw d e=0): ∃a b:Da,a.Ok∧b.Ok∧a.L=b.L∧d=a.df∧e=b.df:=by
 unfold Aw at h
 by_cases h1:d.val=0
 ·rw[ah (by simp[h1])] at h
  by_cases h2:e.val=0
  ·rw[ah (by simp[h2])] at h
   by_cases h3:d.L=e.L
   ·obtain ⟨a,ha,rfl⟩:=Yq h1
    obtain ⟨b,hb,rfl⟩:=Yq h2
    simp only[Da.df] at h3
    exact ⟨a,b,ha,hb,by omega,rfl,rfl⟩
   ·rw[ag h3] at h;omega
  ·rw[ag h2] at h;exact absurd h h2
 ·rw[ag h1] at h;exact absurd h h1
theorem alV {d e:Df} (hd:d.Ok) (he:e.Ok) (m:Int):CC Ip (nG d (nG e [.int .i64 m]))=some [.bool (decide ((d.F.length:Int)≤m∧(e.F.length:Int)≤m∧Aw d e=0))]:=by
 refine alT ?_
 unfold aba
 rw[cy,cy]
 by_cases h1:(d.F.length:Int)≤m
 ·refine bT (bX h1) ?_
  by_cases h2:(e.F.length:Int)≤m
  ·refine bT (bX h2) ?_
   refine bs (alf hd he) ?_
   refine congrArg (fun x=>some [V.bool x]) ?_
   rw[oR]
   simp[h1,h2]
  ·refine bF (eG h2) ?_
   rw[eG fun h=>h2 h.2.1]
 ·refine bF (eG h1) ?_
  rw[eG fun h=>h1 h.1]
def iN (E:List Ed):Nat→List Nat→Nat→Prop
 | i,[],k=>i=k
 | i,x::w,k=> ∃j,eF i x j∈E∧iN E j w k
theorem iN.ext {A B:List Ed} (h: ∀e,e∈A→e∈B): ∀{w:List Nat} {i k:Nat},iN A i w k→iN B i w k
 | [],_,_,p=>p
 | _::_,_,_,⟨j,h1,h2⟩=>⟨j,h _ h1,iN.ext h h2⟩
theorem iN.app {E:List Ed}: ∀{v w:List Nat} {i k:Nat},iN E i (v++w) k↔∃j,iN E i v j∧iN E j w k
 | [],w,i,k=>by simp[iN]
 | x::v,w,i,k=>by
  simp only[List.cons_append,iN]
  constructor
  ·rintro ⟨j,h1,h2⟩
   obtain ⟨m,h3,h4⟩:=iN.app.1 h2
   exact ⟨m,⟨j,h1,h3⟩,h4⟩
  ·rintro ⟨m,⟨j,h1,h3⟩,h4⟩
   exact ⟨j,h1,iN.app.2 ⟨m,h3,h4⟩⟩
theorem FD {p x q p' x' q':Nat}:eF p x q=eF p' x' q'↔p=p'∧x=x'∧q=q':=by
 unfold eF
 simp only[Ed.mk.injEq]
 omega
theorem alW {e:Ed} (h1:0≤e.f) (h2:0≤e.l) (h3:0≤e.t):e=eF e.f.toNat e.l.toNat e.t.toNat:=by
 unfold eF
 cases e
 simp only[Ed.mk.injEq] at*
 omega
theorem R3 {E:List Ed} (hE: ∀e∈E,0≤e.f∧0≤e.l∧0≤e.t): ∀(w:List Nat) (s k:Nat),(w.foldl (sn E) s).testBit k=true↔∃i,s.testBit i=true∧iN E i w k
 | [],s,k=>by simp[iN]
 | x::w,s,k=>by
  rw[List.foldl_cons,R3 hE w]
  constructor
  ·rintro ⟨j,h1,h2⟩
   unfold sn at h1
   rw[Dr,vA] at h1
   obtain ⟨e,he,h3⟩:=h1
   simp only[aL,dx] at h3
   obtain ⟨c1,c2,c3⟩:=hE e he
   refine ⟨e.f.toNat,h3.2.1,j,?_,h2⟩
   have:e=eF e.f.toNat x j:=by
    rw[alW c1 c2 c3]
    rw[FD]
    simp only[eF,Int.toNat_natCast]
    exact ⟨trivial,by omega,h3.2.2⟩
   exact this▸he
  ·rintro ⟨i,h1,j,h2,h3⟩
   refine ⟨j,?_,h3⟩
   unfold sn
   rw[Dr,vA]
   refine ⟨_,h2,?_⟩
   simp only[aL,dx,eF,Int.toNat_natCast]
   exact ⟨trivial,h1,trivial⟩
theorem alX {fin s:Nat}:sf fin s=true↔∃k,s.testBit k=true∧fin.testBit k=true:=by
 unfold sf
 rw[oL,beq_eq_false_iff_ne]
 constructor
 ·intro h
  obtain ⟨k,hk⟩:=Nat.exists_testBit_of_ne_zero h
  rw[Ba,aL] at hk
  exact ⟨k,hk⟩
 ·rintro ⟨k,h1,h2⟩ h0
  have:(s&&&fin).testBit k=true:=by rw[Ba,h1,h2];rfl
  rw[h0,Nat.zero_testBit] at this
  cases this
def mT (st fin:Nat) (l:List Ed) (w:List Nat):Prop:= ∃i k,st.testBit i=true∧fin.testBit k=true∧iN l i w k
section
variable {L S st fin:Nat} {l:List Ed} (h:rH L S st fin l)
include h
theorem alY (hn: ¬jD (dg L S st fin l) L S):(gR (dg L S st fin l) L S).Ok:=by
 unfold gR
 rw[ah hn]
 exact jF (z8 (oE h) hn)
theorem alZ (hn: ¬jD (dg L S st fin l) L S):(gR (dg L S st fin l) L S).L=L:=by
 unfold gR
 rw[ah hn]
 exact lx (z8 (oE h) hn)
theorem al0 (hn: ¬jD (dg L S st fin l) L S) {w:List Nat} (hw:WL L w):(gR (dg L S st fin l) L S).acc (gR (dg L S st fin l) L S).st w=true↔mT st fin l w:=by
 have az:=z8 (oE h) hn
 unfold gR
 rw[ah hn,pC az hw,show (j8 (dg L S st fin l) L S).st=0 from rfl,ajq (oE h) hw]
 show sf fin (w.foldl (sn (qi l)) st)=true↔_
 have hE: ∀e∈qi l,0≤e.f∧0≤e.l∧0≤e.t:=fun e he=>by
  have:=h.E e (vf.1 he)
  unfold Ed.In at this
  exact ⟨this.1,this.2.2.2.2.1,this.2.2.1⟩
 rw[alX]
 unfold mT
 constructor
 ·rintro ⟨k,h1,h2⟩
  obtain ⟨i,h3,h4⟩:=(R3 hE w st k).1 h1
  exact ⟨i,k,h3,h2,h4.ext fun e he=>vf.1 he⟩
 ·rintro ⟨i,k,h1,h2,h3⟩
  exact ⟨k,(R3 hE w st k).2 ⟨i,h1,h3.ext fun e he=>vf.2 he⟩,h2⟩
theorem al1 (hS:S≤9): ¬jD (dg L S st fin l) L S:=fun ho=>by
 have h1:=z7 (oE h) (2^S)
 have h2:2^S≤2^9:=oQ (by omega) hS
 have h3:(512:Nat)<(ax L (sn (dg L S st fin l).E) (dg L S st fin l).st (2^S)).length:=ho
 have h4:(2:Nat)^9=512:=by decide
 omega
end
noncomputable abbrev Ky:Code:=cA Tryd.prog (au.aU 51)
noncomputable def FE (C:ae) (q t36 t37 t41 bf bx:Int) (bK bH:List V) (dV dW tz tA:Int) (eO ia dX dc:List V) (t42 br bj bu bq:Int) (dz:List V) {β:Type} (kn:(Int × Int × Int × Int × Int × (List V))→Option β) (kr:(Int × Bool × Int × Int × Int × Int × (List V))→Option β):Option β:=
 bif decide ((t42:Int)<t41) then
  (C zj [.int .i64 q,.int .i64 t42,.int .i64 q,.int .i64 br,.int .i64 bj,.int .u64 bu,.int .u64 bq,.list ak dz]).bind fun r4=>
  kn (IntKind.wrap .i64 (t42+1),(V.nth r4 0).toInt,(V.nth (r4.drop 1) 0).toInt,(V.nth ((r4.drop 1).drop 1) 0).toInt,(V.nth (((r4.drop 1).drop 1).drop 1) 0).toInt,(V.nth (r4.drop 4) 0).toList)
 else
  kr (t42,decide ((t42:Int)<t41),br,bj,bu,bq,dz)
noncomputable def R4 (C:ae) (q t36 t37 t41 bf bx:Int) (bK bH:List V) (dV dW tz tA:Int) (eO ia dX dc:List V):(Int × Int × Int × Int × Int × (List V))→Option ((Int × Int × Int × Int × Int × (List V)) ⊕ (Int × Bool × Int × Int × Int × Int × (List V))):=un fun t42=>un fun br=>un fun bj=>un fun bu=>un fun bq dz=>FE C q t36 t37 t41 bf bx bK bH dV dW tz tA eO ia dX dc t42 br bj bu bq dz (fun y=>some (.inl y)) (fun r=>some (.inr r))
noncomputable def FF (C:ae) (t36 bf bx:Int) (bK bH:List V) (dV dW tz tA:Int) (eO ia dX dc:List V) (t37 br bj bu bq:Int) (dz:List V) {β:Type} (kn:(Int × Int × Int × Int × Int × (List V))→Option β) (kr:(Int × Bool × Int × Int × Int × Int × (List V))→Option β):Option β:=
 bif decide ((t37:Int)<t36) then
  (Loop (R4 C t37 t36 t37 bf bf bx bK bH dV dW tz tA eO ia dX dc) (0,br,bj,bu,bq,dz)).bind (un fun (nn:Int)=>un fun (te:Bool)=>un fun (tU:Int)=>un fun (tW:Int)=>un fun (tX:Int)=>un fun (R5:Int) (P5:List V)=>
   kn (IntKind.wrap .i64 (t37+1),tU,tW,tX,R5,P5))
 else
  kr (t37,decide ((t37:Int)<t36),br,bj,bu,bq,dz)
noncomputable def R6 (C:ae) (t36 bf bx:Int) (bK bH:List V) (dV dW tz tA:Int) (eO ia dX dc:List V):(Int × Int × Int × Int × Int × (List V))→Option ((Int × Int × Int × Int × Int × (List V)) ⊕ (Int × Bool × Int × Int × Int × Int × (List V))):=un fun t37=>un fun br=>un fun bj=>un fun bu=>un fun bq dz=>FF C t36 bf bx bK bH dV dW tz tA eO ia dX dc t37 br bj bu bq dz (fun y=>some (.inl y)) (fun r=>some (.inr r))
noncomputable def abf (C:ae):cl:=fun β n ds k=>
 bif Nat.beq n 193 then bt NI [false,false,false,false,true,false,false,false,false,false,false,false,false,true,true,true,true,false,false,false,false,true] [[1,2,3,4,0,0,6,7,8,9,10,11,12,13,0,0,0,0,18,19,20,21,0]] (@FE C) ds k else
 bif Nat.beq n 145 then bt NJ [false,true,false,false,false,false,false,false,false,false,true,true,true,true,false,false,false,false,true] [[1,0,0,3,4,5,6,7,8,9,10,0,0,0,0,15,16,17,18,0]] (@FF C) ds k else
 none
abbrev abg (C:ae) (b:ch):Prop:=cj Tryd.prog au C (abf C) 51 (cH Tryd.prog (au.aU 51)) (au.sin 51).aZ.length b
theorem al2 (C:ae):abg C (.loop (aq [1,1,1,1,1,1,0,1,0,0,1,1,0,0,1,1,0,0] Ky)):=
 bA NI [false,false,false,false,true,false,false,false,false,false,false,false,false,true,true,true,true,false,false,false,false,true] [[1,2,3,4,0,0,6,7,8,9,10,11,12,13,0,0,0,0,18,19,20,21,0]] (@FE C) (by kernel_rfl) (aK (bs:=[]) (by kernel_rfl) ar) (fun ds=>by kernel_rfl) (fun i x=>by kernel_rfl) (fun i x β k=>by kernel_rfl) (fun β ds k=>by kernel_rfl)
theorem al3 (C:ae):abg C (.loop (aq [1,1,1,1,1,1,0,1,0,0] Ky)):=
 bA NJ [false,true,false,false,false,false,false,false,false,false,true,true,true,true,false,false,false,false,true] [[1,0,0,3,4,5,6,7,8,9,10,0,0,0,0,15,16,17,18,0]] (@FF C) (by kernel_rfl) (aK (bs:=[.loop (aq [1,1,1,1,1,1,0,1,0,0,1,1,0,0,1,1,0,0] Ky)]) (by kernel_rfl) (aY (al2 C) ar)) (fun ds=>by kernel_rfl) (fun i x=>by kernel_rfl) (fun i x β k=>by kernel_rfl) (fun β ds k=>by kernel_rfl)
noncomputable def abh (C:ae) (ba bh:Int) (aM bc:List V):Option (List V):=
 (C wS [.int .i64 ba,.int .i64 bh,.list ay aM,.list aA bc]).bind fun r1=>
 bif (((V.nth (r1.drop 2) 0).toInt):Int) != 0 then
  some [.int .i64 0,.int .i64 0,.int .i64 ((V.nth (r1.drop 2) 0).toInt),.list ay ([]:List V),.list aA ([]:List V)]
 else
  (C wU [.int .i64 ba,.int .i64 (((V.nth (r1.drop 3) 0).toList).length:Int)]).bind fun r2=>
  bif (V.nth r2 0).toBool then
  some [.int .i64 0,.int .i64 0,.int .i64 3,.list ay ([]:List V),.list aA ([]:List V)]
  else
  (C wX [.int .i64 ((V.nth r1 0).toInt),.int .i64 ((V.nth (r1.drop 1) 0).toInt),.list ay ((V.nth (r1.drop 3) 0).toList),.list aA ((V.nth ((r1.drop 3).drop 1) 0).toList),.int .i64 0,.int .i64 ((V.nth (r2.drop 1) 0).toInt),.int .i64 ((V.nth ((r2.drop 1).drop 1) 0).toInt),.int .u64 ((V.nth (((r2.drop 1).drop 1).drop 1) 0).toInt),.int .u64 ((V.nth ((((r2.drop 1).drop 1).drop 1).drop 1) 0).toInt),.list ak ((V.nth ((r2.drop 1).drop 4) 0).toList)]).bind fun r3=>
  (Loop (R6 C (((V.nth (r1.drop 3) 0).toList).length:Int) ba bh aM bc 0 0 ((V.nth r1 0).toInt) ((V.nth (r1.drop 1) 0).toInt) ([]:List V) ([]:List V) ((V.nth (r1.drop 3) 0).toList) ((V.nth ((r1.drop 3).drop 1) 0).toList)) (0,(V.nth r3 0).toInt,(V.nth (r3.drop 1) 0).toInt,(V.nth ((r3.drop 1).drop 1) 0).toInt,(V.nth (((r3.drop 1).drop 1).drop 1) 0).toInt,(V.nth (r3.drop 4) 0).toList)).bind (un fun (xl:Int)=>un fun (u6:Bool)=>un fun (RQ:Int)=>un fun (RR:Int)=>un fun (RS:Int)=>un fun (al4:Int) (DT:List V)=>
   (C wV [.int .i64 ((V.nth (r1.drop 1) 0).toInt),.int .i64 RQ,.int .i64 RR,.int .u64 RS,.int .u64 al4,.list ak DT]).bind fun dJ=>
   (C wW [.list ay ((V.nth (r1.drop 3) 0).toList),.int .i64 0,.int .i64 ((V.nth dJ 0).toInt),.int .i64 ((V.nth (dJ.drop 1) 0).toInt),.int .u64 ((V.nth ((dJ.drop 1).drop 1) 0).toInt),.int .u64 ((V.nth (((dJ.drop 1).drop 1).drop 1) 0).toInt),.list ak ((V.nth (dJ.drop 4) 0).toList)]).bind fun eS=>
   (C sX [.int .i64 ((V.nth eS 0).toInt),.int .i64 ((V.nth (eS.drop 1) 0).toInt),.int .u64 ((V.nth ((eS.drop 1).drop 1) 0).toInt),.int .u64 ((V.nth (((eS.drop 1).drop 1).drop 1) 0).toInt),.list ak ((V.nth (eS.drop 4) 0).toList)]).bind fun oB=>
   some [.int .i64 ((V.nth oB 0).toInt),.int .i64 ((V.nth (oB.drop 1) 0).toInt),.int .i64 ((V.nth (oB.drop 2) 0).toInt),.list ay ((V.nth ((oB.drop 3).drop 5) 0).toList),.list aA ((V.nth (((oB.drop 3).drop 5).drop 1) 0).toList)])
theorem al5 {ba bh:Int} {aM bc:List V} {r:Option (List V)} (h:abh CC ba bh aM bc=r):CC Ir [.int .i64 ba,.int .i64 bh,.list ay aM,.list aA bc]=r:=
 bp (key:=51) (L:=abf CC) (bs:=[.loop (aq [1,1,1,1,1,1,0,1,0,0] Ky)]) (by kernel_rfl) (aY (al3 CC) ar) (bn (by kernel_rfl) h)
theorem abi {p x q L S:Nat} (hp:p<S) (hx:x<L) (hq:q<S):(eF p x q).In (L:Int) (S:Int):=by unfold Ed.In eF;simp only;omega
theorem AA {a:Da} (h:a.Ok) {off S:Nat} (hs:a.n+off≤S) {e:Ed} (he:e∈cg a off):e.In (a.L:Int) (S:Int):=by
 obtain ⟨p,x,hp,hx,rfl⟩:=vl.1 he
 have:=h.fy hp hx
 exact abi (by omega) hx (by omega)
def ly (L n:Nat):List Ed:=fm n fun q=>tab L fun x=>eF q x q
theorem al6 {L n:Nat} {e:Ed}:e∈ly L n↔∃q x,q<n∧x<L∧e=eF q x q:=by
 unfold ly
 rw[RU]
 constructor
 ·rintro ⟨p,hp,he⟩
  obtain ⟨x,hx,rfl⟩:=tp.1 he
  exact ⟨p,x,hp,hx,rfl⟩
 ·rintro ⟨p,x,hp,hx,rfl⟩
  exact ⟨p,hp,tp.2 ⟨x,hx,rfl⟩⟩
def AB (m:Da):Nf:=dg m.L m.n (2^m.st) (eh 0 m.fin 0 m.n) (cg m 0++ly m.L m.n)
theorem abj {m:Da} (h:m.Ok) (hs:m.n≤64):rH m.L m.n (2^m.st) (eh 0 m.fin 0 m.n) (cg m 0++ly m.L m.n) where
 l1:=h.l1
 l6:=h.l6
 pk:=hs
 st:=km (by omega) h.s
 fin:=vk (yc _) (by omega)
 E:=fun e he=>by
  rcases ew.1 he with he|he
  ·exact AA h (by omega) he
  ·obtain ⟨p,x,hp,hx,rfl⟩:=al6.1 he
   exact abi (by omega) hx (by omega)
 len:=by
  have h1:=oF h (off:=0) (n:=m.n)
  have h2:(ly m.L m.n).length≤m.n*6:=RV fun p _=>by rw[gg];exact h.l6
  rw[dO]
  unfold cg
  omega
section
variable {a:Da} (h:a.Ok)
include h
theorem al7 (hs:(minD a).n≤64) {X:Da} {e:Int} {n:Nf} (hr:CC sX (aN (minD a).L (minD a).n (2^(minD a).st) (eh 0 (minD a).fin 0 (minD a).n) (cg (minD a) 0++ly (minD a).L (minD a).n))=some (RD X e n)):CC Ir (dU a)=some (j7 X e):=by
 have hm:=jF h
 have h6:=hm.l6
 have hL:=lx h
 have cd:=hm.s
 refine al5 ?_
 unfold abh
 refine bs (FC h) (bF rfl ?_)
 have e0:(V.nth ((j7 (minD a) 0).drop 3) 0).toList=(minD a).cZ:=rfl
 rw[e0,Da.lZ]
 refine bs (RX hs) (bF rfl ?_)
 refine bs (Kw (l:=[]) hm (off:=0) (by omega) (by simp)) ?_
 rw[List.nil_append]
 have hlen:=oF hm (off:=0) (n:=(minD a).n)
 refine bs (tY (minD a).n (fun i=>((i:Int),(a.L:Int),((minD a).n:Int),((0:Nat):Int),((0:Nat):Int),(cg (minD a) 0++ly (minD a).L i).map Ed.enc)) (((minD a).n:Int),false,(a.L:Int),((minD a).n:Int),((0:Nat):Int),((0:Nat):Int),(cg (minD a) 0++ly (minD a).L (minD a).n).map Ed.enc) (by rw[show ly (minD a).L 0=[] from rfl,iQ];rfl) (fun q hq=> ?_) ?_) ?_
 ·have uj:(ly (minD a).L q).length≤q*6:=RV fun p _=>by rw[gg];exact h6
  simp only[R6,FF,un]
  refine bT (eW hq) ?_
  refine bs (tY a.L (fun i=>((i:Int),(a.L:Int),((minD a).n:Int),((0:Nat):Int),((0:Nat):Int),((cg (minD a) 0++ly (minD a).L q)++tab i fun x=>eF q x q).map Ed.enc)) ((a.L:Int),false,(a.L:Int),((minD a).n:Int),((0:Nat):Int),((0:Nat):Int),((cg (minD a) 0++ly (minD a).L q)++tab (minD a).L fun x=>eF q x q).map Ed.enc) (by rw[PN,iQ];rfl) (fun x hx=> ?_) ?_) ?_
  ·simp only[R4,FE,un]
   refine bT (eW hx) ?_
   refine bs (RW (by rw[dO,dO,gg];unfold cg;omega)) ?_
   rw[dI (by omega),va,←dK]
   rfl
  ·simp only[R4,FE,un]
   refine bF (b6 (aE _)) ?_
   rw[b6 (aE _),hL]
  ·simp only[un]
   rw[dI (by omega),show ly (minD a).L (q+1)=ly (minD a).L q++tab (minD a).L fun x=>eF q x q from Az,←dK]
 ·simp only[R6,FF,un]
  refine bF (b6 (aE _)) ?_
  rw[b6 (aE _)]
 ·simp only[un]
  refine bs (Kv (q:=(minD a).st) (by omega) (by omega)) ?_
  refine bs (RZ (n:=(minD a).n) (f:=(minD a).fin) (off:=0) (by omega) (by omega)) ?_
  rw[Nat.zero_or]
  rw[hL] at hr
  rw[hL]
  refine bs hr ?_
  rfl
end
noncomputable abbrev Kz:Code:=cA Tryd.prog (au.aU 30)
noncomputable def KA (C:ae) (offset:Int) (t66:Bool) (R7 R8 aoh al8 br bj bu bq:Int) (gS eO ia dX dc:List V) {β:Type} (kr:(Int × Int × Int × Int × (List V))→Option β):Option β:=
 bif t66 then
  (C wV [.int .i64 (IntKind.wrap .i64 (offset+al8)),.int .i64 br,.int .i64 bj,.int .u64 bu,.int .u64 bq,.list ak dc]).bind fun r8=>
  kr ((V.nth r8 0).toInt,(V.nth (r8.drop 1) 0).toInt,(V.nth ((r8.drop 1).drop 1) 0).toInt,(V.nth (((r8.drop 1).drop 1).drop 1) 0).toInt,(V.nth (r8.drop 4) 0).toList)
 else
  kr (br,bj,bu,bq,dc)
noncomputable def abk (C:ae):cl:=fun β n ds k=>
 bif Nat.beq n 1071 then jb NB [[1,3,4,5,6,0,0,0,0,11,12,13,14,0]] (@KA C) ds k else
 none
abbrev al9 (C:ae) (b:ch):Prop:=cj Tryd.prog au C (abk C) 30 (cH Tryd.prog (au.aU 30)) (au.sin 30).aZ.length b
theorem ama (C:ae):al9 C (.cond 66 (aq [1,1,1,1,1,1,1,1,1,1,0,1,0] Kz) (aq [1,1,1,1,1,1,1,1,1,1,0,1,1] Kz)):=
 jy NB [[1,3,4,5,6,0,0,0,0,11,12,13,14,0]] (@KA C) (by kernel_rfl) (aK (bs:=[]) (by kernel_rfl) ar) (aK (bs:=[]) (by kernel_rfl) ar) (fun ds=>by kernel_rfl) (fun i β k=>by kernel_rfl) (fun β ds k=>by kernel_rfl)
noncomputable def R9 (C:ae) (dZ eD:Int) (eg eu:List V) (eE eX:Int) (eT eY:List V):Option (List V):=
 (C Iw [.int .i64 dZ,.int .i64 eD,.list ay eg,.list aA eu,.int .i64 eE,.int .i64 eX,.list ay eT,.list aA eY]).bind fun r1=>
 bif (((V.nth ((r1.drop 2).drop 2) 0).toInt):Int) != 0 then
  some [.int .i64 0,.int .i64 0,.int .i64 ((V.nth ((r1.drop 2).drop 2) 0).toInt),.list ay ([]:List V),.list aA ([]:List V)]
 else
  (C wU [.int .i64 dZ,.int .i64 (IntKind.wrap .i64 ((((V.nth (r1.drop 5) 0).toList).length:Int)+(((V.nth (((r1.drop 5).drop 1).drop 1) 0).toList).length:Int)))]).bind fun r2=>
  bif (V.nth r2 0).toBool then
  some [.int .i64 0,.int .i64 0,.int .i64 3,.list ay ([]:List V),.list aA ([]:List V)]
  else
  (C wX [.int .i64 ((V.nth r1 0).toInt),.int .i64 ((V.nth (r1.drop 1) 0).toInt),.list ay ((V.nth (r1.drop 5) 0).toList),.list aA ((V.nth ((r1.drop 5).drop 1) 0).toList),.int .i64 0,.int .i64 ((V.nth (r2.drop 1) 0).toInt),.int .i64 ((V.nth ((r2.drop 1).drop 1) 0).toInt),.int .u64 ((V.nth (((r2.drop 1).drop 1).drop 1) 0).toInt),.int .u64 ((V.nth ((((r2.drop 1).drop 1).drop 1).drop 1) 0).toInt),.list ak ((V.nth ((r2.drop 1).drop 4) 0).toList)]).bind fun r3=>
  (C wX [.int .i64 ((V.nth (r1.drop 2) 0).toInt),.int .i64 ((V.nth ((r1.drop 2).drop 1) 0).toInt),.list ay ((V.nth (((r1.drop 5).drop 1).drop 1) 0).toList),.list aA ((V.nth ((((r1.drop 5).drop 1).drop 1).drop 1) 0).toList),.int .i64 (((V.nth (r1.drop 5) 0).toList).length:Int),.int .i64 ((V.nth r3 0).toInt),.int .i64 ((V.nth (r3.drop 1) 0).toInt),.int .u64 ((V.nth ((r3.drop 1).drop 1) 0).toInt),.int .u64 ((V.nth (((r3.drop 1).drop 1).drop 1) 0).toInt),.list ak ((V.nth (r3.drop 4) 0).toList)]).bind fun r4=>
  (C Iy [.list ay ((V.nth (r1.drop 5) 0).toList),.int .i64 (IntKind.wrap .i64 ((((V.nth (r1.drop 5) 0).toList).length:Int)+((V.nth ((r1.drop 2).drop 1) 0).toInt))),.int .i64 ((V.nth r4 0).toInt),.int .i64 ((V.nth (r4.drop 1) 0).toInt),.int .u64 ((V.nth ((r4.drop 1).drop 1) 0).toInt),.int .u64 ((V.nth (((r4.drop 1).drop 1).drop 1) 0).toInt),.list ak ((V.nth (r4.drop 4) 0).toList)]).bind fun r5=>
  (C wV [.int .i64 ((V.nth (r1.drop 1) 0).toInt),.int .i64 ((V.nth r5 0).toInt),.int .i64 ((V.nth (r5.drop 1) 0).toInt),.int .u64 ((V.nth ((r5.drop 1).drop 1) 0).toInt),.int .u64 ((V.nth (((r5.drop 1).drop 1).drop 1) 0).toInt),.list ak ((V.nth (r5.drop 4) 0).toList)]).bind fun r6=>
  bif (decide (0≤((V.nth (r1.drop 1) 0).toInt)))&&(decide (((V.nth (r1.drop 1) 0).toInt)<(((V.nth (r1.drop 5) 0).toList).length:Int))) then
   (((V.nth (r1.drop 5) 0).toList)[((V.nth (r1.drop 1) 0).toInt:Int).toNat]?).bind fun x7=>
   KA C (((V.nth (r1.drop 5) 0).toList).length:Int) x7.toBool 0 0 ((V.nth (r1.drop 2) 0).toInt) ((V.nth ((r1.drop 2).drop 1) 0).toInt) ((V.nth r6 0).toInt) ((V.nth (r6.drop 1) 0).toInt) ((V.nth ((r6.drop 1).drop 1) 0).toInt) ((V.nth (((r6.drop 1).drop 1).drop 1) 0).toInt) ([]:List V) ([]:List V) ((V.nth (((r1.drop 5).drop 1).drop 1) 0).toList) ((V.nth ((((r1.drop 5).drop 1).drop 1).drop 1) 0).toList) ((V.nth (r6.drop 4) 0).toList) (un fun (tX:Int)=>un fun (R5:Int)=>un fun (Sa:Int)=>un fun (amb:Int) (JE:List V)=>
    (C wW [.list ay ((V.nth (((r1.drop 5).drop 1).drop 1) 0).toList),.int .i64 (((V.nth (r1.drop 5) 0).toList).length:Int),.int .i64 tX,.int .i64 R5,.int .u64 Sa,.int .u64 amb,.list ak JE]).bind fun oH=>
    (C sX [.int .i64 ((V.nth oH 0).toInt),.int .i64 ((V.nth (oH.drop 1) 0).toInt),.int .u64 ((V.nth ((oH.drop 1).drop 1) 0).toInt),.int .u64 ((V.nth (((oH.drop 1).drop 1).drop 1) 0).toInt),.list ak ((V.nth (oH.drop 4) 0).toList)]).bind fun fA=>
    some [.int .i64 ((V.nth fA 0).toInt),.int .i64 ((V.nth (fA.drop 1) 0).toInt),.int .i64 ((V.nth (fA.drop 2) 0).toInt),.list ay ((V.nth ((fA.drop 3).drop 5) 0).toList),.list aA ((V.nth (((fA.drop 3).drop 5).drop 1) 0).toList)])
  else none
theorem abl {dZ eD:Int} {eg eu:List V} {eE eX:Int} {eT eY:List V} {r:Option (List V)} (h:R9 CC dZ eD eg eu eE eX eT eY=r):CC wQ [.int .i64 dZ,.int .i64 eD,.list ay eg,.list aA eu,.int .i64 eE,.int .i64 eX,.list ay eT,.list aA eY]=r:=
 bp (key:=30) (L:=abk CC) (bs:=[.cond 66 (aq [1,1,1,1,1,1,1,1,1,1,0,1,0] Kz) (aq [1,1,1,1,1,1,1,1,1,1,0,1,1] Kz)]) (by kernel_rfl) (aY (ama CC) ar) (bn (by kernel_rfl) h)
def rK (m k:Da):List Ed:=(cg m 0++cg k m.n)++oG m.n m.fin (m.n+k.st) (cg m 0++cg k m.n)
def xQ (m k:Da):Nat:=if m.fin m.st=true then 2^m.st|||2^(m.n+k.st) else 2^m.st
def KB (m k:Da):Nat:=eh 0 k.fin m.n k.n
def FG (m k:Da):Nf:=dg m.L (m.n+k.n) (xQ m k) (KB m k) (rK m k)
theorem amc {L S:Nat} {e:Ed} (h:e.In (L:Int) (S:Int)):0≤e.f∧0≤e.l∧0≤e.t:=by unfold Ed.In at h;omega
section
variable {m k:Da} (hm:m.Ok) (hk:k.Ok) (hL:m.L=k.L)
include hm hk hL
theorem Sb {e:Ed} (he:e∈cg m 0++cg k m.n):e.In (m.L:Int) ((m.n+k.n:Nat):Int):=by
 rcases ew.1 he with he|he
 ·exact AA hm (by omega) he
 ·rw[hL];exact AA hk (by omega) he
theorem amd {e:Ed} (he:e∈rK m k):e.In (m.L:Int) ((m.n+k.n:Nat):Int):=by
 rcases ew.1 he with he|he
 ·exact Sb hm hk hL he
 ·obtain ⟨e',h1,h2,h3,rfl⟩:=aa7.1 he
  have:=Sb hm hk hL h1
  have:=hk.s
  unfold Ed.In at*
  simp only
  omega
theorem abm (hs:m.n+k.n≤64):rH m.L (m.n+k.n) (xQ m k) (KB m k) (rK m k) where
 l1:=hm.l1
 l6:=hm.l6
 pk:=hs
 st:=by
  have h1:=hm.s
  have h2:=hk.s
  unfold xQ
  split
  ·exact vB (km (by omega) (by omega)) (km (by omega) (by omega))
  ·exact km (by omega) (by omega)
 fin:=vk (yc _) (by omega)
 E:=fun e he=>amd hm hk hL he
 len:=by
  have h1:=oF hm (off:=0) (n:=m.n)
  have h2:=oF hk (off:=m.n) (n:=k.n)
  have h3:=R0 (l:=cg m 0++cg k m.n) (n:=m.n) (to:=m.n+k.st) (f:=m.fin)
  unfold rK
  rw[dO]
  rw[dO] at*
  unfold cg at*
  omega
end
section
variable {a b:Da} (ha:a.Ok) (hb:b.Ok) (hL:a.L=b.L)
include ha hb hL
theorem ame (hs:(minD a).n+(minD b).n≤64):CC wQ (lf a (dU b))=some (j7 (gR (FG (minD a) (minD b)) a.L ((minD a).n+(minD b).n)) (pA (FG (minD a) (minD b)) a.L ((minD a).n+(minD b).n))):=by
 have hm:=jF ha
 have hk:=jF hb
 have xR:=lx ha
 have Sd:=lx hb
 have FH:(minD a).L=(minD b).L:=by rw[xR,Sd,hL]
 have cd:=hm.s
 have hsk:=hk.s
 have hr:=aaJ (abm hm hk FH hs)
 have l1:=oF hm (off:=0) (n:=(minD a).n)
 have l2:=oF hk (off:=(minD a).n) (n:=(minD b).n)
 refine abl ?_
 unfold R9
 refine bs (abe ha hb hL) (bF rfl ?_)
 have e0:(V.nth ((xP (minD a) (minD b) 0).drop 5) 0).toList=(minD a).cZ:=rfl
 have e1:(V.nth ((((xP (minD a) (minD b) 0).drop 5).drop 1).drop 1) 0).toList=(minD b).cZ:=rfl
 have e2:(V.nth (((xP (minD a) (minD b) 0).drop 2).drop 1) 0).toInt=((minD b).st:Int):=rfl
 have e3:(V.nth ((xP (minD a) (minD b) 0).drop 1) 0).toInt=((minD a).st:Int):=rfl
 rw[e0,e1,e2,e3,Da.lZ,Da.lZ,xO (by omega),xO (by omega)]
 refine bs (RX hs) (bF rfl ?_)
 refine bs (Kw (l:=[]) hm (off:=0) (by omega) (by simp)) ?_
 rw[List.nil_append]
 refine bs (Kw hk (off:=(minD a).n) (by omega) (by unfold cg;omega)) ?_
 refine bs (alQ (n:=(minD a).n) (f:=(minD a).fin) (fun e he=>amc (Sb hm hk FH he)) (by rw[dO];unfold cg;omega) (by omega)) ?_
 refine bs (Kv (q:=(minD a).st) (by omega) (by omega)) ?_
 refine bT (Yr cd) ?_
 rw[Int.toNat_natCast]
 refine bs (Jw cd) ?_
 rw[xR] at hr
 have fin: ∀(s:Nat),s=xQ (minD a) (minD b)→s<2^64→((CC wW [.list ay (minD b).cZ,.int .i64 ((minD a).n:Int),.int .i64 (a.L:Int),.int .i64 (((minD a).n+(minD b).n:Nat):Int),.int .u64 (s:Int),.int .u64 ((0:Nat):Int),.list ak ((rK (minD a) (minD b)).map Ed.enc)]).bind fun oH=>
    (CC sX [.int .i64 ((V.nth oH 0).toInt),.int .i64 ((V.nth (oH.drop 1) 0).toInt),.int .u64 ((V.nth ((oH.drop 1).drop 1) 0).toInt),.int .u64 ((V.nth (((oH.drop 1).drop 1).drop 1) 0).toInt),.list ak ((V.nth (oH.drop 4) 0).toList)]).bind fun fA=>
    some [.int .i64 ((V.nth fA 0).toInt),.int .i64 ((V.nth (fA.drop 1) 0).toInt),.int .i64 ((V.nth (fA.drop 2) 0).toInt),.list ay ((V.nth ((fA.drop 3).drop 5) 0).toList),.list aA ((V.nth (((fA.drop 3).drop 5).drop 1) 0).toList)])=some (j7 (gR (FG (minD a) (minD b)) a.L ((minD a).n+(minD b).n)) (pA (FG (minD a) (minD b)) a.L ((minD a).n+(minD b).n))):=by
  rintro s rfl n9
  refine bs (RZ (n:=(minD b).n) (f:=(minD b).fin) (off:=(minD a).n) (by omega) (by omega)) ?_
  refine bs hr ?_
  show _=some (j7 (gR (dg (minD a).L _ _ _ _) a.L _) (pA (dg (minD a).L _ _ _ _) a.L _))
  rw[xR]
  rfl
 have p1:(2:Nat)^(minD a).st<2^64:=km (by omega) (by omega)
 have p2:(2:Nat)^((minD a).n+(minD b).st)<2^64:=km (by omega) (by omega)
 unfold KA
 rw[Nat.zero_or]
 cases hf:(minD a).fin (minD a).st with
 | true=>
  refine bT rfl ?_
  rw[xO (by omega)]
  refine bs (Kv (q:=(minD a).n+(minD b).st) (by omega) p1) ?_
  exact fin _ (ag hf).symm (vB p1 p2)
 | false=>
  refine bF rfl ?_
  exact fin _ (ah (by rw[hf];simp)).symm p1
theorem amf (hs:64<(minD a).n+(minD b).n):CC wQ (lf a (dU b))=some (j7 zD 3):=by
 have h1:=(jF ha).e8
 have h2:=(jF hb).e8
 refine abl ?_
 unfold R9
 refine bs (abe ha hb hL) (bF rfl ?_)
 have e0:(V.nth ((xP (minD a) (minD b) 0).drop 5) 0).toList=(minD a).cZ:=rfl
 have e1:(V.nth ((((xP (minD a) (minD b) 0).drop 5).drop 1).drop 1) 0).toList=(minD b).cZ:=rfl
 rw[e0,e1,Da.lZ,Da.lZ,xO (by omega)]
 refine bs (aa6 hs) (bT rfl ?_)
 rfl
end
theorem FI {q i:Nat}:(2^q).testBit i=true↔i=q:=by rw[rS,dx];exact eq_comm
theorem abn {f:Nat→Bool} {off n j:Nat}:(eh 0 f off n).testBit j=true↔off≤j∧j<n+off∧f (j-off)=true:=by
 rw[RY,Nat.zero_testBit,Bool.false_or,aL,dx,and_assoc]
theorem AD {m k:Da} (hm:m.Ok) (hL:m.L=k.L) {p x q:Nat}:eF p x q∈rK m k↔(p<m.n∧x<m.L∧(q=m.nx p x∨m.fin (m.nx p x)=true∧q=m.n+k.st))∨∃p',p=p'+m.n∧p'<k.n∧x<m.L∧q=k.nx p' x+m.n:=by
 unfold rK
 rw[ew,ew,vl,vl,aa7]
 constructor
 ·rintro ((⟨p',x',h1,h2,h3⟩|⟨p',x',h1,h2,h3⟩)|⟨e',h1,h2,h3,h4⟩)
  ·obtain ⟨rfl,rfl,rfl⟩:=FD.1 h3
   exact .inl ⟨h1,h2,.inl rfl⟩
  ·obtain ⟨rfl,rfl,rfl⟩:=FD.1 h3
   exact .inr ⟨p',rfl,h1,hL▸h2,rfl⟩
  ·rcases ew.1 h1 with h1|h1
   ·obtain ⟨p',x',g1,g2,rfl⟩:=vl.1 h1
    have e:eF p x q=eF (p'+0) x' (m.n+k.st):=h4
    obtain ⟨rfl,rfl,rfl⟩:=FD.1 e
    exact .inl ⟨g1,g2,.inr ⟨h3,rfl⟩⟩
   ·obtain ⟨p',x',g1,g2,rfl⟩:=vl.1 h1
    have:(eF (p'+m.n) x' (k.nx p' x'+m.n)).t.toNat=k.nx p' x'+m.n:=rfl
    omega
 ·rintro (⟨h1,h2,rfl|⟨h3,rfl⟩⟩|⟨p',rfl,h1,h2,rfl⟩)
  ·exact .inl (.inl ⟨p,x,h1,h2,rfl⟩)
  ·exact .inr ⟨eF p x (m.nx p x),List.mem_append_left _ (vl.2 ⟨p,x,h1,h2,rfl⟩),hm.fy h1 h2,h3,rfl⟩
  ·exact .inl (.inr ⟨p',x,h1,hL▸h2,rfl⟩)
section
variable {m k:Da} (hm:m.Ok) (hk:k.Ok) (hL:m.L=k.L)
include hm hk hL
theorem KC: ∀{w:List Nat} {j t:Nat},j<k.n→WL m.L w→(iN (rK m k) (j+m.n) w t↔t=k.run j w+m.n)
 | [],j,t,_,_=>by
  show j+m.n=t↔_
  exact eq_comm
 | x::w,j,t,hj,hw=>by
  rw[Da.Jj]
  have ih:=fun t=>KC (w:=w) (j:=k.nx j x) (t:=t) (hk.fy hj (hL▸hw.head)) hw.tail
  constructor
  ·rintro ⟨q,h1,h2⟩
   rcases (AD hm hL).1 h1 with ⟨h3,_⟩|⟨p',h3,h4,h5,rfl⟩
   ·omega
   ·obtain rfl:j=p':=by omega
    exact (ih t).1 h2
  ·intro h
   exact ⟨_,(AD hm hL).2 (.inr ⟨j,rfl,hj,hw.head,rfl⟩),(ih t).2 h⟩
theorem Se: ∀{w:List Nat} {i t:Nat},i<m.n→WL m.L w→(iN (rK m k) i w t↔t=m.run i w∨∃u v,w=u++v∧u≠[]∧m.fin (m.run i u)=true∧t=k.run k.st v+m.n)
 | [],i,t,_,_=>by
  show i=t↔_
  constructor
  ·intro h;exact .inl h.symm
  ·rintro (h|⟨u,v,h1,h2,_⟩)
   ·exact h.symm
   ·exact absurd (List.append_eq_nil_iff.1 h1.symm).1 h2
 | x::w,i,t,hi,hw=>by
  rw[Da.Jj]
  have hn:=hm.fy hi hw.head
  have ih:=Se (w:=w) (i:=m.nx i x) (t:=t) hn hw.tail
  have h2:=KC hm hk hL (w:=w) (j:=k.st) (t:=t) hk.s hw.tail
  constructor
  ·rintro ⟨q,h3,h4⟩
   rcases (AD hm hL).1 h3 with ⟨_,_,rfl|⟨h5,rfl⟩⟩|⟨p',h5,h6,_⟩
   ·rcases ih.1 h4 with h5|⟨u,v,rfl,h5,h6,h7⟩
    ·exact .inl h5
    ·exact .inr ⟨x::u,v,rfl,by simp,h6,h7⟩
   ·rw[yb] at h4
    exact .inr ⟨[x],w,rfl,by simp,h5,h2.1 h4⟩
   ·omega
  ·rintro (h|⟨u,v,h3,h4,h5,h6⟩)
   ·exact ⟨_,(AD hm hL).2 (.inl ⟨hi,hw.head,.inl rfl⟩),ih.2 (.inl h)⟩
   ·cases u with
    | nil=>exact absurd rfl h4
    | cons y u=>
     simp only[List.cons_append,xY] at h3
     obtain ⟨rfl,rfl⟩:=h3
     rw[Da.Jj] at h5
     by_cases hu:u=[]
     ·subst hu
      refine ⟨m.n+k.st,(AD hm hL).2 (.inl ⟨hi,hw.head,.inr ⟨h5,rfl⟩⟩),?_⟩
      rw[yb]
      exact h2.2 h6
     ·exact ⟨_,(AD hm hL).2 (.inl ⟨hi,hw.head,.inl rfl⟩),ih.2 (.inr ⟨u,v,rfl,hu,h5,h6⟩)⟩
theorem amg {w:List Nat} (hw:WL m.L w):mT (xQ m k) (KB m k) (rK m k) w↔∃u v,w=u++v∧m.acc m.st u=true∧k.acc k.st v=true:=by
 have hs:=hm.s
 have wE:=hk.s
 have hS: ∀i,(xQ m k).testBit i=true↔i=m.st∨m.fin m.st=true∧i=m.n+k.st:=by
  intro i
  unfold xQ
  split
  ·next h=>rw[xZ,vy,FI,FI];simp[h]
  ·next h=>rw[FI];simp[h]
 have hF: ∀t,(KB m k).testBit t=true↔m.n≤t∧t<k.n+m.n∧k.fin (t-m.n)=true:=fun t=>abn
 unfold mT
 constructor
 ·rintro ⟨i,t,h1,h2,h3⟩
  obtain ⟨h4,h5,h6⟩:=(hF t).1 h2
  rcases (hS i).1 h1 with rfl|⟨h7,rfl⟩
  ·rcases (Se hm hk hL hs hw).1 h3 with h8|⟨u,v,rfl,h8,h9,rfl⟩
   ·have:=hm.rn w hs hw
    omega
   ·refine ⟨u,v,rfl,h9,?_⟩
    rw[rQ] at h6
    exact h6
  ·rw[yb] at h3
   have h8:=(KC hm hk hL wE hw).1 h3
   refine ⟨[],w,rfl,h7,?_⟩
   rw[h8,rQ] at h6
   exact h6
 ·rintro ⟨u,v,rfl,h1,h2⟩
  have hv:WL m.L v:=(WL.app.1 hw).2
  have hr:=hk.rn v wE (hL▸hv)
  by_cases hu:u=[]
  ·subst hu
   refine ⟨m.n+k.st,k.run k.st v+m.n,(hS _).2 (.inr ⟨h1,rfl⟩),(hF _).2 ⟨by omega,by omega,?_⟩,?_⟩
   ·rw[rQ];exact h2
   ·rw[yb m.n]
    exact (KC hm hk hL wE hv).2 rfl
  ·refine ⟨m.st,k.run k.st v+m.n,(hS _).2 (.inl rfl),(hF _).2 ⟨by omega,by omega,?_⟩,?_⟩
   ·rw[rQ];exact h2
   ·exact (Se hm hk hL hs hw).2 (.inr ⟨u,v,rfl,hu,h1,rfl⟩)
end
inductive tZ (K:List Nat→Prop):List Nat→Prop
 | nil:tZ K []
 | app {u v:List Nat}:u≠[]→K u→tZ K v→tZ K (u++v)
section
variable {K:List Nat→Prop}
theorem tZ.one {w:List Nat} (h:K w):tZ K w:=by
 by_cases hw:w=[]
 ·rw[hw];exact .nil
 ·have:=tZ.app hw h .nil
  rwa [iQ] at this
theorem tZ.ext {K2:List Nat→Prop} {L:Nat} (h: ∀u,WL L u→(K u↔K2 u)) {w:List Nat} (hw:WL L w):tZ K w↔tZ K2 w:=by
 constructor
 ·intro hr
  induction hr with
  | nil=>exact .nil
  | app g1 g2 _ ih=>exact .app g1 ((h _ (WL.app.1 hw).1).1 g2) (ih (WL.app.1 hw).2)
 ·intro hr
  induction hr with
  | nil=>exact .nil
  | app g1 g2 _ ih=>exact .app g1 ((h _ (WL.app.1 hw).1).2 g2) (ih (WL.app.1 hw).2)
end
section
variable {m:Da} (hm:m.Ok)
include hm
end
section
variable {m:Da} (hm:m.Ok)
include hm
theorem FJ: ∀{w:List Nat} {i t:Nat},i<m.n→WL m.L w→(iN (cg m 0) i w t↔t=m.run i w)
 | [],i,t,_,_=>by
  show i=t↔_
  exact eq_comm
 | x::w,i,t,hi,hw=>by
  rw[Da.Jj]
  have ih:=FJ (w:=w) (i:=m.nx i x) (t:=t) (hm.fy hi hw.head) hw.tail
  constructor
  ·rintro ⟨q,h1,h2⟩
   obtain ⟨p',x',g1,g2,g3⟩:=vl.1 h1
   obtain ⟨rfl,rfl,rfl⟩:=FD.1 g3
   exact ih.1 h2
  ·intro h
   exact ⟨_,vl.2 ⟨i,x,hi,hw.head,rfl⟩,ih.2 h⟩
omit hm in
theorem KD {f:Nat→Bool} {t:Nat}:(eh 0 f 0 m.n).testBit t=true↔t<m.n∧f t=true:=by
 rw[abn,Nat.sub_zero]
 constructor
 ·rintro ⟨_,h2,h3⟩;exact ⟨by omega,h3⟩
 ·rintro ⟨h2,h3⟩;exact ⟨by omega,by omega,h3⟩
end
def Ed.rev (e:Ed):Ed:=⟨e.t,e.l,e.f⟩
@[simp] theorem Ed.rev_rev (e:Ed):e.rev.rev=e:=rfl
theorem amh {p x q:Nat}:(eF p x q).rev=eF q x p:=rfl
theorem abo {E:List Ed} {p x q:Nat}:eF p x q∈E.map Ed.rev↔eF q x p∈E:=by
 rw[fE]
 constructor
 ·rintro ⟨e,h1,h2⟩
  have:e=eF q x p:=by rw[←amh,←h2,Ed.rev_rev]
  rw[←this];exact h1
 ·intro h
  exact ⟨_,h,rfl⟩
theorem KE {E:List Ed}: ∀{w:List Nat} {i t:Nat},iN (E.map Ed.rev) i w t↔iN E t w.reverse i
 | [],i,t=>by
  show i=t↔t=i
  exact eq_comm
 | x::w,i,t=>by
  rw[List.reverse_cons,iN.app]
  constructor
  ·rintro ⟨q,h1,h2⟩
   exact ⟨q,KE.1 h2,i,abo.1 h1,rfl⟩
  ·rintro ⟨q,h1,j,h2,h3⟩
   have:j=i:=h3
   subst this
   exact ⟨q,abo.2 h2,KE.2 h1⟩
theorem ami {E:List Ed} {st fin:Nat} {w:List Nat}:mT fin st (E.map Ed.rev) w↔mT st fin E w.reverse:=by
 unfold mT
 constructor
 ·rintro ⟨i,k,h1,h2,h3⟩;exact ⟨k,i,h2,h1,KE.1 h3⟩
 ·rintro ⟨i,k,h1,h2,h3⟩;exact ⟨k,i,h2,h1,KE.2 h3⟩
theorem WL.rev {L:Nat} {w:List Nat} (h:WL L w):WL L w.reverse:=fun x hx=>h x (List.mem_reverse.1 hx)
def FK (m:Da):Nf:=dg m.L m.n (eh 0 m.fin 0 m.n) (2^m.st) ((cg m 0).map Ed.rev)
section
variable {m:Da} (hm:m.Ok)
include hm
theorem amj {w:List Nat} (hw:WL m.L w):mT (2^m.st) (eh 0 m.fin 0 m.n) (cg m 0) w↔m.acc m.st w=true:=by
 unfold mT
 constructor
 ·rintro ⟨i,k,h1,h2,h3⟩
  obtain rfl:=FI.1 h1
  obtain rfl:=(FJ hm hm.s hw).1 h3
  exact (KD.1 h2).2
 ·intro h
  exact ⟨m.st,m.run m.st w,FI.2 rfl,KD.2 ⟨hm.rn w hm.s hw,h⟩,(FJ hm hm.s hw).2 rfl⟩
theorem amk {w:List Nat} (hw:WL m.L w):mT (eh 0 m.fin 0 m.n) (2^m.st) ((cg m 0).map Ed.rev) w↔m.acc m.st w.reverse=true:=by
 rw[ami,amj hm hw.rev]
theorem abp (hs:m.n≤64):rH m.L m.n (eh 0 m.fin 0 m.n) (2^m.st) ((cg m 0).map Ed.rev) where
 l1:=hm.l1
 l6:=hm.l6
 pk:=hs
 st:=vk (yc _) (by omega)
 fin:=km (by omega) hm.s
 E:=fun e he=>by
  obtain ⟨e',h1,rfl⟩:=fE.1 he
  have:=AA hm (off:=0) (S:=m.n) (by omega) h1
  unfold Ed.In at*
  simp only[Ed.rev]
  omega
 len:=by
  have h1:=oF hm (off:=0) (n:=m.n)
  rw[cy]
  unfold cg
  omega
end
def Sf (m:Da) (f:Nat→Bool):Nf:=dg m.L m.n (2^m.n-1) (eh 0 f 0 m.n) (cg m 0)
section
variable {m:Da} (hm:m.Ok)
include hm
theorem abq (hs:m.n≤64) {f:Nat→Bool}:rH m.L m.n (2^m.n-1) (eh 0 f 0 m.n) (cg m 0) where
 l1:=hm.l1
 l6:=hm.l6
 pk:=hs
 st:=by have:=yc m.n;omega
 fin:=vk (yc _) (by omega)
 E:=fun e he=>AA hm (by omega) he
 len:=by
  have h1:=oF hm (off:=0) (n:=m.n)
  unfold cg
  omega
omit hm in
theorem abr {t:Nat}:(2^m.n-1).testBit t=true↔t<m.n:=by rw[vD,dx]
theorem aml {f:Nat→Bool} {w:List Nat} (hw:WL m.L w):mT (2^m.n-1) (eh 0 f 0 m.n) (cg m 0) w↔∃q,q<m.n∧f (m.run q w)=true:=by
 unfold mT
 constructor
 ·rintro ⟨i,k,h1,h2,h3⟩
  have hi:=abr.1 h1
  obtain rfl:=(FJ hm hi hw).1 h3
  exact ⟨i,hi,(KD.1 h2).2⟩
 ·rintro ⟨q,hq,h⟩
  exact ⟨q,m.run q w,abr.2 hq,KD.2 ⟨hm.rn w hq hw,h⟩,(FJ hm hq hw).2 rfl⟩
end
end Go.AM
set_option maxRecDepth 100000
namespace Go.AM
open Go.Proofs
namespace Da
theorem Jl.reach {d:Da} (h1:1≤d.L) (h:d.Jl): ∀t,t≤d.n*d.L→∀q,q<d.mt t→∃w,WL d.L w∧d.run 0 w=q
 | 0,_,q,hq=>⟨[],WL.nil,by have:q<1:=hq;show 0=q;omega⟩
 | t+1,ht,q,hq=>by
  have ih:=h.reach h1 t (by omega)
  rcases eV q (d.mt t) with c|c
  ·exact ih q c
  ·have e:d.pos t=q:=by
    unfold mt at hq
    split at hq
    ·rename_i h3;omega
    ·omega
   have hx:t %d.L<d.L:=vr _ (by omega)
   have hp:t/d.L<d.n:=by rw[Gt (by omega)];omega
   have h2:=h.row _ hp
   have h3:=d.Jm (Gu t d.L)
   obtain ⟨w,hw,hr⟩:=ih (t/d.L) (by omega)
   refine ⟨w++[t %d.L],WL.app.2 ⟨hw,WL.nil.cons hx⟩,?_⟩
   rw[Dx,hr]
   exact e
end Da
theorem amm {a:Da} (h:a.Ok) {q:Nat} (hq:q<(minD a).n): ∃w,WL a.L w∧(minD a).run (minD a).st w=q:=by
 have hc:=xm h
 obtain ⟨w,hw,hr⟩:=hc.num.reach (jF h).l1 _ (aE _) q (by rw[hc.num.all];exact hq)
 exact ⟨w,by rw[lx h] at hw;exact hw,by rw[abb h];exact hr⟩
structure mg (X:Da) (L:Nat) (K:List Nat→Prop):Prop where
 ok:X.Ok
 hL:X.L=L
 min:minD X=X
 iy: ∀w,WL L w→(X.acc X.st w=true↔K w)
theorem mg.eq {X Y:Da} {L:Nat} {K K':List Nat→Prop} (h:mg X L K) (h':mg Y L K') (e: ∀w,WL L w→(K w↔K' w)):X=Y:=by
 rw[←h.min,←h'.min]
 refine abc h.ok h'.ok (h.hL.trans h'.hL.symm) fun w hw=> ?_
 have B7:WL L w:=h.hL▸hw
 rw[oR,h.iy w B7,h'.iy w B7,e w B7]
theorem mg.ext {X:Da} {L:Nat} {K K':List Nat→Prop} (h:mg X L K) (e: ∀w,WL L w→(K w↔K' w)):mg X L K':=⟨h.ok,h.hL,h.min,fun w hw=>(h.iy w hw).trans (e w hw)⟩
theorem mg.acc {X:Da} {L:Nat} {K:List Nat→Prop} (h:mg X L K) {w:List Nat} (hw:WL L w) {b:Bool} (e:K w↔b=true):X.acc X.st w=b:=by
 rw[oR,h.iy w hw,e]
theorem abt {a:Da} (h:a.Ok):mg (minD a) a.L (fun w=>a.acc a.st w=true):=⟨jF h,lx h,abd h,fun w hw=>by rw[pC h hw]⟩
section
variable {L S st fin:Nat} {l:List Ed} (h:rH L S st fin l)
include h
theorem amn (hn: ¬jD (dg L S st fin l) L S):mg (gR (dg L S st fin l) L S) L (mT st fin l) where
 ok:=alY h hn
 hL:=alZ h hn
 min:=by
  unfold gR
  rw[ah hn]
  exact abd (z8 (oE h) hn)
 iy:=fun _ hw=>al0 h hn hw
theorem amo (hn: ¬jD (dg L S st fin l) L S):(gR (dg L S st fin l) L S).n≤2^S:=by
 have h1:=Kx (z8 (oE h) hn)
 have h2:=z7 (oE h) (2^S)
 have h3:(j8 (dg L S st fin l) L S).n=(jC (dg L S st fin l) L S).length:=om
 unfold gR
 rw[ah hn]
 unfold jC at h3
 omega
theorem amp:(pA (dg L S st fin l) L S=0∧mg (gR (dg L S st fin l) L S) L (mT st fin l)∧(gR (dg L S st fin l) L S).n≤2^S)∨(pA (dg L S st fin l) L S=3∧gR (dg L S st fin l) L S=zD∧9<S):=by
 by_cases hn:jD (dg L S st fin l) L S
 ·refine .inr ⟨ag hn,ag hn,?_⟩
  rcases eV 9 S with c|c
  ·exact c
  ·exact absurd hn (al1 h c)
 ·exact .inl ⟨ah hn,amn h hn,amo h hn⟩
end
def rL (r:Option (List V)) (L S:Nat) (K:List Nat→Prop):Prop:=(∃X,r=some (j7 X 0)∧mg X L K∧X.n≤2^S)∨(r=some (j7 zD 3)∧9<S)
theorem rL.of {L S st fin:Nat} {l:List Ed} (h:rH L S st fin l) {r:Option (List V)} (e:r=some (j7 (gR (dg L S st fin l) L S) (pA (dg L S st fin l) L S))) {K:List Nat→Prop} (hK: ∀w,WL L w→(mT st fin l w↔K w)):rL r L S K:=by
 rcases amp h with ⟨h1,h2,h3⟩|⟨h1,h2,h3⟩
 ·exact .inl ⟨_,by rw[e,h1],h2.ext hK,h3⟩
 ·exact .inr ⟨by rw[e,h1,h2],h3⟩
theorem rL.small {r:Option (List V)} {L S:Nat} {K:List Nat→Prop} (h:rL r L S K) (hS:S≤9): ∃X,r=some (j7 X 0)∧mg X L K∧X.n≤2^S:=by
 rcases h with h|⟨_,h⟩
 ·exact h
 ·omega
end Go.AM
set_option maxRecDepth 100000
namespace Go.AM
open Go.Proofs
noncomputable abbrev KF:Code:=cA Tryd.prog (au.aU 125)
noncomputable def AE (C:ae) (a b' i j:Int) (ab:List V) {β:Type} (kn:(Int × (List V))→Option β) (kr:(Int × Bool × (List V))→Option β):Option β:=
 bif decide ((j:Int)>a) then
  bif (decide (0≤j))&&(decide (j<(ab.length:Int))) then
  (ab[(j:Int).toNat]?).bind fun x1=>
  bif (decide (0≤(IntKind.wrap .i64 (j-1))))&&(decide ((IntKind.wrap .i64 (j-1))<(ab.length:Int))) then
   (ab[(IntKind.wrap .i64 (j-1):Int).toNat]?).bind fun x2=>
   (C bC [.int .i64 ((x1.cell 0).toInt),.int .i64 ((x1.cell 1).toInt),.int .i64 ((x1.cell 2).toInt),.int .i64 ((x2.cell 0).toInt),.int .i64 ((x2.cell 1).toInt),.int .i64 ((x2.cell 2).toInt)]).bind fun r3=>
   bif decide ((((V.nth r3 0).toInt):Int)<0) then
   bif (decide (0≤(IntKind.wrap .i64 (j-1))))&&(decide ((IntKind.wrap .i64 (j-1))<(ab.length:Int))) then
    (ab[(IntKind.wrap .i64 (j-1):Int).toNat]?).bind fun x4=>
    bif (decide (0≤j))&&(decide (j<(ab.length:Int))) then
    (ab[(j:Int).toNat]?).bind fun x5=>
    bif (decide (0≤j))&&(decide (j<(ab.length:Int))) then
     (ab[(j:Int).toNat]?).bind fun x6=>
     bif (decide (0≤(IntKind.wrap .i64 (j-1))))&&(decide ((IntKind.wrap .i64 (j-1))<((ab.set ((j:Int).toNat) (.agg [.int .i64 ((x4.cell 0).toInt),.int .i64 ((x4.cell 1).toInt),.int .i64 ((x4.cell 2).toInt)])).length:Int))) then
     ((ab.set ((j:Int).toNat) (.agg [.int .i64 ((x4.cell 0).toInt),.int .i64 ((x4.cell 1).toInt),.int .i64 ((x4.cell 2).toInt)]))[(IntKind.wrap .i64 (j-1):Int).toNat]?).bind fun x7=>
     kn (IntKind.wrap .i64 (j-1),(ab.set ((j:Int).toNat) (.agg [.int .i64 ((x4.cell 0).toInt),.int .i64 ((x4.cell 1).toInt),.int .i64 ((x4.cell 2).toInt)])).set ((IntKind.wrap .i64 (j-1):Int).toNat) (.agg [.int .i64 ((x5.cell 0).toInt),.int .i64 ((x5.cell 1).toInt),.int .i64 ((x5.cell 2).toInt)]))
     else none
    else none
    else none
   else none
   else
   kr (j,decide ((((V.nth r3 0).toInt):Int)<0),ab)
  else none
  else none
 else
  kr (j,false,ab)
noncomputable def AF (C:ae) (a b' i:Int):(Int × (List V))→Option ((Int × (List V)) ⊕ (Int × Bool × (List V))):=un fun j ab=>AE C a b' i j ab (fun y=>some (.inl y)) (fun r=>some (.inr r))
noncomputable def FL (C:ae) (a b' i:Int) (ab:List V) {β:Type} (kn:(Int × (List V))→Option β) (kr:(Int × Bool × (List V))→Option β):Option β:=
 bif decide ((i:Int)<b') then
  (Loop (AF C a b' i) (i,ab)).bind (un fun (j_8:Int)=>un fun (pq:Bool) (iA:List V)=>
   kn (IntKind.wrap .i64 (i+1),iA))
 else
  kr (i,decide ((i:Int)<b'),ab)
noncomputable def KG (C:ae) (a b':Int):(Int × (List V))→Option ((Int × (List V)) ⊕ (Int × Bool × (List V))):=un fun i ab=>FL C a b' i ab (fun y=>some (.inl y)) (fun r=>some (.inr r))
noncomputable def abu (C:ae):cl:=fun β n ds k=>
 bif Nat.beq n 65 then bt OB [false,false,false,true,true] [[1,2,3,0,0,0]] (@AE C) ds k else
 bif Nat.beq n 17 then bt OC [false,false,true,true] [[1,2,0,0,0]] (@FL C) ds k else
 none
abbrev abv (C:ae) (b:ch):Prop:=cj Tryd.prog au C (abu C) 125 (cH Tryd.prog (au.aU 125)) (au.sin 125).aZ.length b
theorem amq (C:ae):abv C (.loop (aq [1,0,0,1,0,0,1,0,0] KF)):=
 bA OB [false,false,false,true,true] [[1,2,3,0,0,0]] (@AE C) (by kernel_rfl) (aK (bs:=[]) (by kernel_rfl) ar) (fun ds=>by kernel_rfl) (fun i x=>by kernel_rfl) (fun i x β k=>by kernel_rfl) (fun β ds k=>by kernel_rfl)
theorem amr (C:ae):abv C (.loop (aq [1,0,0] KF)):=
 bA OC [false,false,true,true] [[1,2,0,0,0]] (@FL C) (by kernel_rfl) (aK (bs:=[.loop (aq [1,0,0,1,0,0,1,0,0] KF)]) (by kernel_rfl) (aY (amq C) ar)) (fun ds=>by kernel_rfl) (fun i x=>by kernel_rfl) (fun i x β k=>by kernel_rfl) (fun β ds k=>by kernel_rfl)
noncomputable def abw (C:ae) (a b':Int) (ab:List V):Option (List V):=
 (Loop (KG C a b') (IntKind.wrap .i64 (a+1),ab)).bind (un fun (aj6:Int)=>un fun (xl:Bool) (xq:List V)=>
  some [.list ak xq])
theorem ams {a b':Int} {ab:List V} {r:Option (List V)} (h:abw CC a b' ab=r):CC zo [.int .i64 a,.int .i64 b',.list ak ab]=r:=
 bp (key:=125) (L:=abu CC) (bs:=[.loop (aq [1,0,0] KF)]) (by kernel_rfl) (aY (amr CC) ar) (bn (by kernel_rfl) h)
noncomputable abbrev AG:Code:=cA Tryd.prog (au.aU 141)
noncomputable def xS (C:ae) (hi first root child:Int) (t40:Bool) (ab:List V) {β:Type} (kr:(Int)→Option β):Option β:=
 bif t40 then
  kr (IntKind.wrap .i64 (child+1))
 else
  kr child
noncomputable def vm (C:ae) (hi first root:Int) (ab:List V) {β:Type} (kn:(Int × (List V))→Option β) (kr:((Int × Int × Bool × (List V)) ⊕ (Int × Int × Bool × (List V)))→Option β):Option β:=
 bif decide (((IntKind.wrap .i64 ((IntKind.wrap .i64 (root*2))+1)):Int)≥hi) then
  kr (.inl (root,IntKind.wrap .i64 ((IntKind.wrap .i64 (root*2))+1),decide (((IntKind.wrap .i64 ((IntKind.wrap .i64 (root*2))+1)):Int)≥hi),ab))
 else
  bif decide (((IntKind.wrap .i64 ((IntKind.wrap .i64 ((IntKind.wrap .i64 (root*2))+1))+1)):Int)<hi) then
  bif (decide (0≤(IntKind.wrap .i64 (first+(IntKind.wrap .i64 ((IntKind.wrap .i64 (root*2))+1))))))&&(decide ((IntKind.wrap .i64 (first+(IntKind.wrap .i64 ((IntKind.wrap .i64 (root*2))+1))))<(ab.length:Int))) then
   (ab[(IntKind.wrap .i64 (first+(IntKind.wrap .i64 ((IntKind.wrap .i64 (root*2))+1))):Int).toNat]?).bind fun x1=>
   bif (decide (0≤(IntKind.wrap .i64 ((IntKind.wrap .i64 (first+(IntKind.wrap .i64 ((IntKind.wrap .i64 (root*2))+1))))+1))))&&(decide ((IntKind.wrap .i64 ((IntKind.wrap .i64 (first+(IntKind.wrap .i64 ((IntKind.wrap .i64 (root*2))+1))))+1))<(ab.length:Int))) then
   (ab[(IntKind.wrap .i64 ((IntKind.wrap .i64 (first+(IntKind.wrap .i64 ((IntKind.wrap .i64 (root*2))+1))))+1):Int).toNat]?).bind fun x2=>
   (C bC [.int .i64 ((x1.cell 0).toInt),.int .i64 ((x1.cell 1).toInt),.int .i64 ((x1.cell 2).toInt),.int .i64 ((x2.cell 0).toInt),.int .i64 ((x2.cell 1).toInt),.int .i64 ((x2.cell 2).toInt)]).bind fun r3=>
   xS C hi first root (IntKind.wrap .i64 ((IntKind.wrap .i64 (root*2))+1)) (decide ((((V.nth r3 0).toInt):Int)<0)) ab (fun (gL:Int)=>
    bif (decide (0≤(IntKind.wrap .i64 (first+root))))&&(decide ((IntKind.wrap .i64 (first+root))<(ab.length:Int))) then
     (ab[(IntKind.wrap .i64 (first+root):Int).toNat]?).bind fun x5=>
     bif (decide (0≤(IntKind.wrap .i64 (first+gL))))&&(decide ((IntKind.wrap .i64 (first+gL))<(ab.length:Int))) then
     (ab[(IntKind.wrap .i64 (first+gL):Int).toNat]?).bind fun x6=>
     (C bC [.int .i64 ((x5.cell 0).toInt),.int .i64 ((x5.cell 1).toInt),.int .i64 ((x5.cell 2).toInt),.int .i64 ((x6.cell 0).toInt),.int .i64 ((x6.cell 1).toInt),.int .i64 ((x6.cell 2).toInt)]).bind fun r7=>
     bif !(decide ((((V.nth r7 0).toInt):Int)<0)) then
      kr (.inr (root,gL,!(decide ((((V.nth r7 0).toInt):Int)<0)),ab))
     else
      bif (decide (0≤(IntKind.wrap .i64 (first+gL))))&&(decide ((IntKind.wrap .i64 (first+gL))<(ab.length:Int))) then
      (ab[(IntKind.wrap .i64 (first+gL):Int).toNat]?).bind fun x8=>
      bif (decide (0≤(IntKind.wrap .i64 (first+root))))&&(decide ((IntKind.wrap .i64 (first+root))<(ab.length:Int))) then
       (ab[(IntKind.wrap .i64 (first+root):Int).toNat]?).bind fun x9=>
       bif (decide (0≤(IntKind.wrap .i64 (first+root))))&&(decide ((IntKind.wrap .i64 (first+root))<(ab.length:Int))) then
       (ab[(IntKind.wrap .i64 (first+root):Int).toNat]?).bind fun fu=>
       bif (decide (0≤(IntKind.wrap .i64 (first+gL))))&&(decide ((IntKind.wrap .i64 (first+gL))<((ab.set ((IntKind.wrap .i64 (first+root):Int).toNat) (.agg [.int .i64 ((x8.cell 0).toInt),.int .i64 ((x8.cell 1).toInt),.int .i64 ((x8.cell 2).toInt)])).length:Int))) then
        ((ab.set ((IntKind.wrap .i64 (first+root):Int).toNat) (.agg [.int .i64 ((x8.cell 0).toInt),.int .i64 ((x8.cell 1).toInt),.int .i64 ((x8.cell 2).toInt)]))[(IntKind.wrap .i64 (first+gL):Int).toNat]?).bind fun eo=>
        kn (gL,(ab.set ((IntKind.wrap .i64 (first+root):Int).toNat) (.agg [.int .i64 ((x8.cell 0).toInt),.int .i64 ((x8.cell 1).toInt),.int .i64 ((x8.cell 2).toInt)])).set ((IntKind.wrap .i64 (first+gL):Int).toNat) (.agg [.int .i64 ((x9.cell 0).toInt),.int .i64 ((x9.cell 1).toInt),.int .i64 ((x9.cell 2).toInt)]))
       else none
       else none
      else none
      else none
     else none
    else none)
   else none
  else none
  else
  xS C hi first root (IntKind.wrap .i64 ((IntKind.wrap .i64 (root*2))+1)) false ab (fun (gM:Int)=>
   bif (decide (0≤(IntKind.wrap .i64 (first+root))))&&(decide ((IntKind.wrap .i64 (first+root))<(ab.length:Int))) then
    (ab[(IntKind.wrap .i64 (first+root):Int).toNat]?).bind fun eP=>
    bif (decide (0≤(IntKind.wrap .i64 (first+gM))))&&(decide ((IntKind.wrap .i64 (first+gM))<(ab.length:Int))) then
    (ab[(IntKind.wrap .i64 (first+gM):Int).toNat]?).bind fun iB=>
    (C bC [.int .i64 ((eP.cell 0).toInt),.int .i64 ((eP.cell 1).toInt),.int .i64 ((eP.cell 2).toInt),.int .i64 ((iB.cell 0).toInt),.int .i64 ((iB.cell 1).toInt),.int .i64 ((iB.cell 2).toInt)]).bind fun fA=>
    bif !(decide ((((V.nth fA 0).toInt):Int)<0)) then
     kr (.inr (root,gM,!(decide ((((V.nth fA 0).toInt):Int)<0)),ab))
    else
     bif (decide (0≤(IntKind.wrap .i64 (first+gM))))&&(decide ((IntKind.wrap .i64 (first+gM))<(ab.length:Int))) then
     (ab[(IntKind.wrap .i64 (first+gM):Int).toNat]?).bind fun dp=>
     bif (decide (0≤(IntKind.wrap .i64 (first+root))))&&(decide ((IntKind.wrap .i64 (first+root))<(ab.length:Int))) then
      (ab[(IntKind.wrap .i64 (first+root):Int).toNat]?).bind fun mb=>
      bif (decide (0≤(IntKind.wrap .i64 (first+root))))&&(decide ((IntKind.wrap .i64 (first+root))<(ab.length:Int))) then
      (ab[(IntKind.wrap .i64 (first+root):Int).toNat]?).bind fun z0=>
      bif (decide (0≤(IntKind.wrap .i64 (first+gM))))&&(decide ((IntKind.wrap .i64 (first+gM))<((ab.set ((IntKind.wrap .i64 (first+root):Int).toNat) (.agg [.int .i64 ((dp.cell 0).toInt),.int .i64 ((dp.cell 1).toInt),.int .i64 ((dp.cell 2).toInt)])).length:Int))) then
       ((ab.set ((IntKind.wrap .i64 (first+root):Int).toNat) (.agg [.int .i64 ((dp.cell 0).toInt),.int .i64 ((dp.cell 1).toInt),.int .i64 ((dp.cell 2).toInt)]))[(IntKind.wrap .i64 (first+gM):Int).toNat]?).bind fun gK=>
       kn (gM,(ab.set ((IntKind.wrap .i64 (first+root):Int).toNat) (.agg [.int .i64 ((dp.cell 0).toInt),.int .i64 ((dp.cell 1).toInt),.int .i64 ((dp.cell 2).toInt)])).set ((IntKind.wrap .i64 (first+gM):Int).toNat) (.agg [.int .i64 ((mb.cell 0).toInt),.int .i64 ((mb.cell 1).toInt),.int .i64 ((mb.cell 2).toInt)]))
      else none
      else none
     else none
     else none
    else none
   else none)
noncomputable def qq (C:ae) (hi first:Int):(Int × (List V))→Option ((Int × (List V)) ⊕ ((Int × Int × Bool × (List V)) ⊕ (Int × Int × Bool × (List V)))):=un fun root ab=>vm C hi first root ab (fun y=>some (.inl y)) (fun r=>some (.inr r))
noncomputable def abx (C:ae):cl:=fun β n ds k=>
 bif Nat.beq n 655 then jb O0 [[1,2,3,0,6]] (@xS C) ds k else
 bif Nat.beq n 17 then bt O1 [false,false,true,true] [[1,2,0,0,0,0],[1,2,0,0,0,0]] (@vm C) ds k else
 none
abbrev aby (C:ae) (b:ch):Prop:=cj Tryd.prog au C (abx C) 141 (cH Tryd.prog (au.aU 141)) (au.sin 141).aZ.length b
theorem amt (C:ae):aby C (.cond 40 (aq [1,0,0,0,1,1,0,1,0] AG) (aq [1,0,0,0,1,1,0,1,1] AG)):=
 jy O0 [[1,2,3,0,6]] (@xS C) (by kernel_rfl) (aK (bs:=[]) (by kernel_rfl) ar) (aK (bs:=[]) (by kernel_rfl) ar) (fun ds=>by kernel_rfl) (fun i β k=>by kernel_rfl) (fun β ds k=>by kernel_rfl)
theorem amu (C:ae):aby C (.loop (aq [1,0,0] AG)):=
 bA O1 [false,false,true,true] [[1,2,0,0,0,0],[1,2,0,0,0,0]] (@vm C) (by kernel_rfl) (aK (bs:=[.cond 40 (aq [1,0,0,0,1,1,0,1,0] AG) (aq [1,0,0,0,1,1,0,1,1] AG)]) (by kernel_rfl) (aY (amt C) ar)) (fun ds=>by kernel_rfl) (fun i x=>by kernel_rfl) (fun i x β k=>by kernel_rfl) (fun β ds k=>by kernel_rfl)
noncomputable def abz (C:ae) (lo hi first:Int) (ab:List V):Option (List V):=
 (Loop (qq C hi first) (lo,ab)).bind (dm (un fun (aka:Int)=>un fun (akb:Int)=>un fun (Zk:Bool) (Ql:List V)=>
  some [.list ak Ql]) (un fun (akc:Int)=>un fun (akd:Int)=>un fun (Zy:Bool) (j9:List V)=>
  some [.list ak j9]))
theorem amv {lo hi first:Int} {ab:List V} {r:Option (List V)} (h:abz CC lo hi first ab=r):CC zr [.int .i64 lo,.int .i64 hi,.int .i64 first,.list ak ab]=r:=
 bp (key:=141) (L:=abx CC) (bs:=[.loop (aq [1,0,0] AG)]) (by kernel_rfl) (aY (amu CC) ar) (bn (by kernel_rfl) h)
noncomputable abbrev KH:Code:=cA Tryd.prog (au.aU 126)
noncomputable def FM (C:ae) (first lo hi i:Int) (ab:List V) {β:Type} (kn:(Int × (List V))→Option β) (kr:(Int × Bool × (List V))→Option β):Option β:=
 bif decide ((i:Int)≥0) then
  (C zr [.int .i64 i,.int .i64 hi,.int .i64 first,.list ak ab]).bind fun r1=>
  kn (IntKind.wrap .i64 (i-1),(V.nth r1 0).toList)
 else
  kr (i,decide ((i:Int)≥0),ab)
noncomputable def KI (C:ae) (first lo hi:Int):(Int × (List V))→Option ((Int × (List V)) ⊕ (Int × Bool × (List V))):=un fun i ab=>FM C first lo hi i ab (fun y=>some (.inl y)) (fun r=>some (.inr r))
noncomputable def FN (C:ae) (first lo i:Int) (ab:List V) {β:Type} (kn:(Int × (List V))→Option β) (kr:(Int × Bool × (List V))→Option β):Option β:=
 bif decide ((i:Int)≥0) then
  bif (decide (0≤(IntKind.wrap .i64 (first+i))))&&(decide ((IntKind.wrap .i64 (first+i))<(ab.length:Int))) then
  (ab[(IntKind.wrap .i64 (first+i):Int).toNat]?).bind fun x5=>
  bif (decide (0≤first))&&(decide (first<(ab.length:Int))) then
   (ab[(first:Int).toNat]?).bind fun x6=>
   bif (decide (0≤first))&&(decide (first<(ab.length:Int))) then
   (ab[(first:Int).toNat]?).bind fun x7=>
   bif (decide (0≤(IntKind.wrap .i64 (first+i))))&&(decide ((IntKind.wrap .i64 (first+i))<((ab.set ((first:Int).toNat) (.agg [.int .i64 ((x5.cell 0).toInt),.int .i64 ((x5.cell 1).toInt),.int .i64 ((x5.cell 2).toInt)])).length:Int))) then
    ((ab.set ((first:Int).toNat) (.agg [.int .i64 ((x5.cell 0).toInt),.int .i64 ((x5.cell 1).toInt),.int .i64 ((x5.cell 2).toInt)]))[(IntKind.wrap .i64 (first+i):Int).toNat]?).bind fun x8=>
    (C zr [.int .i64 lo,.int .i64 i,.int .i64 first,.list ak ((ab.set ((first:Int).toNat) (.agg [.int .i64 ((x5.cell 0).toInt),.int .i64 ((x5.cell 1).toInt),.int .i64 ((x5.cell 2).toInt)])).set ((IntKind.wrap .i64 (first+i):Int).toNat) (.agg [.int .i64 ((x6.cell 0).toInt),.int .i64 ((x6.cell 1).toInt),.int .i64 ((x6.cell 2).toInt)]))]).bind fun r9=>
    kn (IntKind.wrap .i64 (i-1),(V.nth r9 0).toList)
   else none
   else none
  else none
  else none
 else
  kr (i,decide ((i:Int)≥0),ab)
noncomputable def KJ (C:ae) (first lo:Int):(Int × (List V))→Option ((Int × (List V)) ⊕ (Int × Bool × (List V))):=un fun i ab=>FN C first lo i ab (fun y=>some (.inl y)) (fun r=>some (.inr r))
noncomputable def abA (C:ae):cl:=fun β n ds k=>
 bif Nat.beq n 65 then bt OD [false,false,false,true,true] [[1,2,3,0,0,0]] (@FM C) ds k else
 bif Nat.beq n 129 then bt OE [false,false,true,true] [[1,2,0,0,0]] (@FN C) ds k else
 none
abbrev abB (C:ae) (b:ch):Prop:=cj Tryd.prog au C (abA C) 126 (cH Tryd.prog (au.aU 126)) (au.sin 126).aZ.length b
theorem amw (C:ae):abB C (.loop (aq [1,1,1,0,1,0,0] KH)):=
 bA OD [false,false,false,true,true] [[1,2,3,0,0,0]] (@FM C) (by kernel_rfl) (aK (bs:=[]) (by kernel_rfl) ar) (fun ds=>by kernel_rfl) (fun i x=>by kernel_rfl) (fun i x β k=>by kernel_rfl) (fun β ds k=>by kernel_rfl)
theorem amx (C:ae):abB C (.loop (aq [1,1,1,1,1,0,0] KH)):=
 bA OE [false,false,true,true] [[1,2,0,0,0]] (@FN C) (by kernel_rfl) (aK (bs:=[]) (by kernel_rfl) ar) (fun ds=>by kernel_rfl) (fun i x=>by kernel_rfl) (fun i x β k=>by kernel_rfl) (fun β ds k=>by kernel_rfl)
noncomputable def abC (C:ae) (a b':Int) (ab:List V):Option (List V):=
 (Loop (KI C a 0 (IntKind.wrap .i64 (b'-a))) (IntKind.wrap .i64 (Int.tdiv (IntKind.wrap .i64 ((IntKind.wrap .i64 (b'-a))-1)) 2),ab)).bind (un fun (i_2:Int)=>un fun (lb:Bool) (Qm:List V)=>
  (Loop (KJ C a 0) (IntKind.wrap .i64 ((IntKind.wrap .i64 (b'-a))-1),Qm)).bind (un fun (akh:Int)=>un fun (J8:Bool) (gj:List V)=>
   some [.list ak gj]))
theorem amy {a b':Int} {ab:List V} {r:Option (List V)} (h:abC CC a b' ab=r):CC zp [.int .i64 a,.int .i64 b',.list ak ab]=r:=
 bp (key:=126) (L:=abA CC) (bs:=[.loop (aq [1,1,1,0,1,0,0] KH),.loop (aq [1,1,1,1,1,0,0] KH)]) (by kernel_rfl) (aY (amw CC) (aY (amx CC) ar)) (bn (by kernel_rfl) h)
noncomputable abbrev abD:Code:=cA Tryd.prog (au.aU 129)
noncomputable def AH (C:ae) (i j:Int) (ab:List V) {β:Type} (kn:(Int × Int × (List V))→Option β) (kr:(Int × Int × Bool × (List V))→Option β):Option β:=
 bif decide ((i:Int)<j) then
  bif (decide (0≤j))&&(decide (j<(ab.length:Int))) then
  (ab[(j:Int).toNat]?).bind fun x1=>
  bif (decide (0≤i))&&(decide (i<(ab.length:Int))) then
   (ab[(i:Int).toNat]?).bind fun x2=>
   bif (decide (0≤i))&&(decide (i<(ab.length:Int))) then
   (ab[(i:Int).toNat]?).bind fun x3=>
   bif (decide (0≤j))&&(decide (j<((ab.set ((i:Int).toNat) (.agg [.int .i64 ((x1.cell 0).toInt),.int .i64 ((x1.cell 1).toInt),.int .i64 ((x1.cell 2).toInt)])).length:Int))) then
    ((ab.set ((i:Int).toNat) (.agg [.int .i64 ((x1.cell 0).toInt),.int .i64 ((x1.cell 1).toInt),.int .i64 ((x1.cell 2).toInt)]))[(j:Int).toNat]?).bind fun x4=>
    kn (IntKind.wrap .i64 (i+1),IntKind.wrap .i64 (j-1),(ab.set ((i:Int).toNat) (.agg [.int .i64 ((x1.cell 0).toInt),.int .i64 ((x1.cell 1).toInt),.int .i64 ((x1.cell 2).toInt)])).set ((j:Int).toNat) (.agg [.int .i64 ((x2.cell 0).toInt),.int .i64 ((x2.cell 1).toInt),.int .i64 ((x2.cell 2).toInt)]))
   else none
   else none
  else none
  else none
 else
  kr (i,j,decide ((i:Int)<j),ab)
noncomputable def FO (C:ae):(Int × Int × (List V))→Option ((Int × Int × (List V)) ⊕ (Int × Int × Bool × (List V))):=un fun i=>un fun j ab=>AH C i j ab (fun y=>some (.inl y)) (fun r=>some (.inr r))
noncomputable def abE (C:ae):cl:=fun β n ds k=>
 bif Nat.beq n 33 then bt OJ [true,true,true] [[0,0,0,0]] (@AH C) ds k else
 none
abbrev amz (C:ae) (b:ch):Prop:=cj Tryd.prog au C (abE C) 129 (cH Tryd.prog (au.aU 129)) (au.sin 129).aZ.length b
theorem amA (C:ae):amz C (.loop (aq [1,1,0,0] abD)):=
 bA OJ [true,true,true] [[0,0,0,0]] (@AH C) (by kernel_rfl) (aK (bs:=[]) (by kernel_rfl) ar) (fun ds=>by kernel_rfl) (fun i x=>by kernel_rfl) (fun i x β k=>by kernel_rfl) (fun β ds k=>by kernel_rfl)
noncomputable def abF (C:ae) (a b':Int) (ab:List V):Option (List V):=
 (Loop (FO C) (a,IntKind.wrap .i64 (b'-1),ab)).bind (un fun (i_5:Int)=>un fun (j_6:Int)=>un fun (pj:Bool) (Qn:List V)=>
  some [.list ak Qn])
theorem amB {a b':Int} {ab:List V} {r:Option (List V)} (h:abF CC a b' ab=r):CC CU [.int .i64 a,.int .i64 b',.list ak ab]=r:=
 bp (key:=129) (L:=abE CC) (bs:=[.loop (aq [1,1,0,0] abD)]) (by kernel_rfl) (aY (amA CC) ar) (bn (by kernel_rfl) h)
end Go.AM
