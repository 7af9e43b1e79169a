/-
  Functions of vE program, lifted to plain data.
-/
import Derived.Test.YtmcdbnalaobmpaaDoorP6
set_option linter.unusedVariables false
set_option linter.unusedSimpArgs false
set_option maxRecDepth 100000
set_option maxHeartbeats 4000000
namespace Go.AM
open Go.Proofs Go.Sort
theorem m7 (p:Ed→Bool) (d:Array Ed) (j i:Nat):scanUp p d j i=if i≤j then (if p d[i]! =true then scanUp p d j (i+1) else i) else i:=by
 conv=>lhs;rw[scanUp]
 by_cases h:i≤j
 ·rw[if_pos h];simp only[h,decide_true,Bool.true_and]
 ·rw[if_neg h,if_neg (by simp[h])]
theorem ve (p:Ed→Bool) (d:Array Ed) (i j:Nat):scanDown p d i (j+1)=if i≤j+1 then (if p d[j+1]! =true then scanDown p d i j else j+1) else j+1:=by
 conv=>lhs;rw[scanDown]
 by_cases h:i≤j+1
 ·rw[if_pos h];simp only[h,decide_true,Bool.true_and]
 ·rw[if_neg h,if_neg (by simp[h])]
theorem rJ (d:Array Ed) (b i:Nat):scanSorted ag d b i=if i<b then (if aR d[i]! d[i-1]! <0 then i else scanSorted ag d b (i+1)) else i:=by
 conv=>lhs;rw[scanSorted]
 by_cases h:i<b
 ·rw[if_pos h];simp only[h,decide_true,Bool.true_and,jb]
  by_cases h2:aR d[i]! d[i-1]! <0
  ·rw[if_neg (not_not_intro h2),if_pos h2]
  ·rw[if_pos h2,if_neg h2]
 ·rw[if_neg h,if_neg (by simp[h])]
theorem CX (j:Nat) (d:Array Ed):shiftDown ag (j+1) d=if aR d[j+1]! d[j]! <0 then shiftDown ag j (swp d (j+1) j) else d:=by
 conv=>lhs;rw[shiftDown]
 simp only[jb]
 by_cases h2:aR d[j+1]! d[j]! <0
 ·rw[if_neg (not_not_intro h2),if_pos h2]
 ·rw[if_pos h2,if_neg h2]
theorem rK (b j:Nat) (d:Array Ed):shiftUp ag b j d=if j<b then (if aR d[j]! d[j-1]! <0 then shiftUp ag b (j+1) (swp d j (j-1)) else d) else d:=by
 conv=>lhs;rw[shiftUp]
 simp only[jb]
 by_cases h:j<b
 ·rw[if_pos h,if_pos h]
  by_cases h2:aR d[j]! d[j-1]! <0
  ·rw[if_neg (not_not_intro h2),if_pos h2]
  ·rw[if_pos h2,if_neg h2]
 ·rw[if_neg h,if_neg h]
theorem Oh {a:Nat}: ∀(n i j:Nat) (d:Array Ed),j+1-i≤n→(partLoop ag a i j d).2.size=d.size∧(partLoop ag a i j d).1≤j:=by
 intro n
 induction n with
 | zero=>
  intro i j d hn
  have h1:=scanUp_ge (fun x=>ag x d[a]!) d j i
  have h2:=scanDown_le (fun x=> !ag x d[a]!) d (scanUp (fun x=>ag x d[a]!) d j i) j
  rw[partLoop_eq,if_pos (by omega)]
  exact ⟨rfl,h2⟩
 | succ n ih=>
  intro i j d hn
  rw[partLoop_eq]
  have h1:=scanUp_ge (fun x=>ag x d[a]!) d j i
  have h2:=scanDown_le (fun x=> !ag x d[a]!) d (scanUp (fun x=>ag x d[a]!) d j i) j
  split
  ·exact ⟨rfl,h2⟩
  ·obtain ⟨h3,h4⟩:=ih (scanUp (fun x=>ag x d[a]!) d j i+1) (scanDown (fun x=> !ag x d[a]!) d (scanUp (fun x=>ag x d[a]!) d j i) j-1) (swp d (scanUp (fun x=>ag x d[a]!) d j i) (scanDown (fun x=> !ag x d[a]!) d (scanUp (fun x=>ag x d[a]!) d j i) j)) (by omega)
   exact ⟨by rw[h3,size_swp],by omega⟩
theorem ey {β:Type} {d:Array Ed} {i:Nat} {x y:Option β} (h:i<d.size):(bif (decide (0≤(i:Int)))&&(decide ((i:Int)<((eA d).length:Int))) then x else y)=x:=by
 rw[cR,cl,ar,if_pos (by omega),ar,if_pos (by omega)]
theorem rL {β:Type} {d:Array Ed} {i k:Nat} {v:V} {x y:Option β} (h:i<d.size):(bif (decide (0≤(i:Int)))&&(decide ((i:Int)<(((eA d).set k v).length:Int))) then x else y)=x:=by
 rw[List.length_set,cR,cl,ar,if_pos (by omega),ar,if_pos (by omega)]
theorem ez {β:Type} {d:Array Ed} {i:Nat} {f:V→Option β} (h:i<d.size):((eA d)[(i:Int).toNat]?).bind f=f (d[i]!).enc:=by
 rw[Int.toNat_natCast,cU h];rfl
theorem rM {β:Type} {d:Array Ed} {i k:Nat} {v:V} {x:Option β} (h:i<d.size):(((eA d).set k v)[(i:Int).toNat]?).bind (fun _=>x)=x:=by
 rw[Int.toNat_natCast,List.getElem?_eq_getElem (by rw[List.length_set,cR];exact h)];rfl
theorem jd {β:Type} {d:Array Ed} {i:Nat} {f:V→Option β} (h:i<d.size):((eA d)[i]?).bind f=f (d[i]!).enc:=by
 rw[cU h];rfl
theorem vf {β:Type} {d:Array Ed} {i k:Nat} {v:V} {x:Option β} (h:i<d.size):(((eA d).set k v)[i]?).bind (fun _=>x)=x:=by
 rw[List.getElem?_eq_getElem (by rw[List.length_set,cR];exact h)];rfl
theorem Oi {a j:Nat} {d:Array Ed} (ha:a<d.size) (hj:j<d.size) (hs:d.size<1152921504606846976): ∀(n i:Nat),j+1-i=n→i≤d.size→
  ∃t,Loop (DB CC a j (eA d)) (i:Int)=some (((scanUp (fun x=>ag x d[a]!) d j i:Nat):Int),t):=by
 intro n
 induction n with
 | zero=>
  intro i hn hi
  rw[m7,if_neg (by omega)]
  exact ⟨false,aZ (by simp (disch:=omega) only[DB,DA,ar,if_neg])⟩
 | succ n ih=>
  intro i hn hi
  obtain ⟨t,h⟩:=ih (i+1) (by omega) (by omega)
  rw[m7,if_pos (by omega)]
  have e:DB CC a j (eA d) (i:Int)=if aR d[i]! d[a]! <0 then some (.inl ((i+1:Nat):Int)) else some (.inr ((i:Int),decide (aR d[i]! d[a]! <0))):=by
   simp (disch:=omega) only[DB,DA,ar,cl,dp,if_pos,if_neg,wrap64,bK,cT,Int.toNat_natCast,Option.bind_some,cR,cU,Ed.bR,Ed.bS,Ed.bU,Ed.re,cS,dC,Array.size_setIfInBounds,gB,V.ba,V.toInt_int,cond_true,cond_false]
  simp only[jV]
  by_cases h2:aR d[i]! d[a]! <0
  ·rw[if_pos h2] at e
   rw[if_pos h2]
   exact ⟨t,(cF e).trans h⟩
  ·rw[if_neg h2] at e
   rw[if_neg h2]
   exact ⟨_,aZ e⟩
theorem CY {a j:Nat} {d:Array Ed} (ha:a<d.size) (hj:j<d.size) (hs:d.size<1152921504606846976): ∀(n i:Nat),j+1-i=n→i≤d.size→
  ∃t,Loop (DD CC a j (eA d)) (i:Int)=some (((scanUp (fun x=>ag x d[a]!) d j i:Nat):Int),t):=by
 intro n
 induction n with
 | zero=>
  intro i hn hi
  rw[m7,if_neg (by omega)]
  exact ⟨false,aZ (by simp (disch:=omega) only[DD,DC,ar,if_neg])⟩
 | succ n ih=>
  intro i hn hi
  obtain ⟨t,h⟩:=ih (i+1) (by omega) (by omega)
  rw[m7,if_pos (by omega)]
  have e:DD CC a j (eA d) (i:Int)=if aR d[i]! d[a]! <0 then some (.inl ((i+1:Nat):Int)) else some (.inr ((i:Int),decide (aR d[i]! d[a]! <0))):=by
   simp (disch:=omega) only[DD,DC,ar,cl,dp,if_pos,if_neg,wrap64,bK,cT,Int.toNat_natCast,Option.bind_some,cR,cU,Ed.bR,Ed.bS,Ed.bU,Ed.re,cS,dC,Array.size_setIfInBounds,gB,V.ba,V.toInt_int,cond_true,cond_false]
  simp only[jV]
  by_cases h2:aR d[i]! d[a]! <0
  ·rw[if_pos h2] at e
   rw[if_pos h2]
   exact ⟨t,(cF e).trans h⟩
  ·rw[if_neg h2] at e
   rw[if_neg h2]
   exact ⟨_,aZ e⟩
theorem CZ {a i:Nat} {d:Array Ed} (ha:a<d.size) (hi:1≤i) (hs:d.size<1152921504606846976): ∀(j:Nat),j<d.size→
  ∃t,Loop (yF CC a i (eA d)) (j:Int)=some (((scanDown (fun x=> !ag x d[a]!) d i j:Nat):Int),t)
 | 0,hj=>⟨false,aZ (by simp (disch:=omega) only[yF,yE,ar,if_neg];rfl)⟩
 | j+1,hj=>by
  obtain ⟨t,h⟩:=CZ ha hi hs j (by omega)
  rw[ve]
  by_cases h1:i≤j+1
  ·rw[if_pos h1]
   have e:yF CC a i (eA d) ((j+1:Nat):Int)=if aR d[j+1]! d[a]! <0 then some (.inr (((j+1:Nat):Int),!decide (aR d[j+1]! d[a]! <0))) else some (.inl (j:Int)):=by
    simp (disch:=omega) only[yF,yE,ar,cl,dp,if_pos,if_neg,wrap64,bK,cT,Int.toNat_natCast,Option.bind_some,cR,cU,Ed.bR,Ed.bS,Ed.bU,Ed.re,cS,dC,Array.size_setIfInBounds,gB,V.ba,V.toInt_int,cond_true,cond_false,me]
   simp only[jb]
   by_cases h2:aR d[j+1]! d[a]! <0
   ·rw[if_pos h2] at e
    rw[if_neg (not_not_intro h2)]
    exact ⟨_,aZ e⟩
   ·rw[if_neg h2] at e
    rw[if_pos h2]
    exact ⟨t,(cF e).trans h⟩
  ·rw[if_neg h1]
   exact ⟨false,aZ (by simp (disch:=omega) only[yF,yE,ar,if_neg])⟩
theorem vg {a i:Nat} {d:Array Ed} (ha:a<d.size) (hi:1≤i) (hs:d.size<1152921504606846976): ∀(j:Nat),j<d.size→
  ∃t,Loop (yH CC a i (eA d)) (j:Int)=some (((scanDown (fun x=> !ag x d[a]!) d i j:Nat):Int),t)
 | 0,hj=>⟨false,aZ (by simp (disch:=omega) only[yH,yG,ar,if_neg];rfl)⟩
 | j+1,hj=>by
  obtain ⟨t,h⟩:=vg ha hi hs j (by omega)
  rw[ve]
  by_cases h1:i≤j+1
  ·rw[if_pos h1]
   have e:yH CC a i (eA d) ((j+1:Nat):Int)=if aR d[j+1]! d[a]! <0 then some (.inr (((j+1:Nat):Int),!decide (aR d[j+1]! d[a]! <0))) else some (.inl (j:Int)):=by
    simp (disch:=omega) only[yH,yG,ar,cl,dp,if_pos,if_neg,wrap64,bK,cT,Int.toNat_natCast,Option.bind_some,cR,cU,Ed.bR,Ed.bS,Ed.bU,Ed.re,cS,dC,Array.size_setIfInBounds,gB,V.ba,V.toInt_int,cond_true,cond_false,me]
   simp only[jb]
   by_cases h2:aR d[j+1]! d[a]! <0
   ·rw[if_pos h2] at e
    rw[if_neg (not_not_intro h2)]
    exact ⟨_,aZ e⟩
   ·rw[if_neg h2] at e
    rw[if_pos h2]
    exact ⟨t,(cF e).trans h⟩
  ·rw[if_neg h1]
   exact ⟨false,aZ (by simp (disch:=omega) only[yH,yG,ar,if_neg])⟩
theorem C2 {a j:Nat} {d:Array Ed} (ha:a<d.size) (hj:j<d.size) (hs:d.size<1152921504606846976): ∀(n i:Nat),j+1-i=n→i≤d.size→
  ∃t,Loop (DH CC a j (eA d)) (i:Int)=some (((scanUp (fun x=> !ag d[a]! x) d j i:Nat):Int),t):=by
 intro n
 induction n with
 | zero=>
  intro i hn hi
  rw[m7,if_neg (by omega)]
  exact ⟨false,aZ (by simp (disch:=omega) only[DH,DG,ar,if_neg])⟩
 | succ n ih=>
  intro i hn hi
  obtain ⟨t,h⟩:=ih (i+1) (by omega) (by omega)
  rw[m7,if_pos (by omega)]
  have e:DH CC a j (eA d) (i:Int)=if aR d[a]! d[i]! <0 then some (.inr ((i:Int),!decide (aR d[a]! d[i]! <0))) else some (.inl ((i+1:Nat):Int)):=by
   simp (disch:=omega) only[DH,DG,ar,cl,dp,if_pos,if_neg,wrap64,bK,cT,Int.toNat_natCast,Option.bind_some,cR,cU,Ed.bR,Ed.bS,Ed.bU,Ed.re,cS,dC,Array.size_setIfInBounds,gB,V.ba,V.toInt_int,cond_true,cond_false]
  simp only[jb]
  by_cases h2:aR d[a]! d[i]! <0
  ·rw[if_pos h2] at e
   rw[if_neg (not_not_intro h2)]
   exact ⟨_,aZ e⟩
  ·rw[if_neg h2] at e
   rw[if_pos h2]
   exact ⟨t,(cF e).trans h⟩
theorem vh {a i:Nat} {d:Array Ed} (ha:a<d.size) (hi:1≤i) (hs:d.size<1152921504606846976): ∀(j:Nat),j<d.size→
  ∃t,Loop (yL CC a i (eA d)) (j:Int)=some (((scanDown (fun x=>ag d[a]! x) d i j:Nat):Int),t)
 | 0,hj=>⟨false,aZ (by simp (disch:=omega) only[yL,yK,ar,if_neg];rfl)⟩
 | j+1,hj=>by
  obtain ⟨t,h⟩:=vh ha hi hs j (by omega)
  rw[ve]
  by_cases h1:i≤j+1
  ·rw[if_pos h1]
   have e:yL CC a i (eA d) ((j+1:Nat):Int)=if aR d[a]! d[j+1]! <0 then some (.inl (j:Int)) else some (.inr (((j+1:Nat):Int),decide (aR d[a]! d[j+1]! <0))):=by
    simp (disch:=omega) only[yL,yK,ar,cl,dp,if_pos,if_neg,wrap64,bK,cT,Int.toNat_natCast,Option.bind_some,cR,cU,Ed.bR,Ed.bS,Ed.bU,Ed.re,cS,dC,Array.size_setIfInBounds,gB,V.ba,V.toInt_int,cond_true,cond_false,me]
   simp only[jV]
   by_cases h2:aR d[a]! d[j+1]! <0
   ·rw[if_pos h2] at e
    rw[if_pos h2]
    exact ⟨t,(cF e).trans h⟩
   ·rw[if_neg h2] at e
    rw[if_neg h2]
    exact ⟨_,aZ e⟩
  ·rw[if_neg h1]
   exact ⟨false,aZ (by simp (disch:=omega) only[yL,yK,ar,if_neg])⟩
theorem Oj {a:Nat}: ∀(n i j:Nat) (d:Array Ed),j+1-i≤n→1≤i→i≤d.size→a<d.size→j<d.size→d.size<1152921504606846976→
  ∃x z,Loop (yI CC a) ((i:Int),(j:Int),eA d)=some (x,(((partLoop ag a i j d).1:Nat):Int),z,eA (partLoop ag a i j d).2):=by
 intro n
 induction n with
 | zero=>
  intro i j d hn h1 h2 ha hj hs
  obtain ⟨t3,e3⟩:=CY (a:=a) ha hj hs _ i rfl h2
  have g1:=scanUp_ge (fun x=>ag x d[a]!) d j i
  have g2:=scanDown_le (fun x=> !ag x d[a]!) d (scanUp (fun x=>ag x d[a]!) d j i) j
  obtain ⟨t4,e4⟩:=vg (a:=a) (i:=scanUp (fun x=>ag x d[a]!) d j i) ha (by omega) hs j hj
  rw[partLoop_eq,if_pos (by omega)]
  refine ⟨((scanUp (fun x=>ag x d[a]!) d j i:Nat):Int),true,aZ ?_⟩
  simp only[yI,DE,un]
  rw[e3]
  simp only[Option.bind_some,un]
  rw[e4]
  simp (disch:=omega) only[Option.bind_some,un,gp,cond_true]
 | succ n ih=>
  intro i j d hn h1 h2 ha hj hs
  obtain ⟨t3,e3⟩:=CY (a:=a) ha hj hs _ i rfl h2
  have g1:=scanUp_ge (fun x=>ag x d[a]!) d j i
  have g2:=scanDown_le (fun x=> !ag x d[a]!) d (scanUp (fun x=>ag x d[a]!) d j i) j
  obtain ⟨t4,e4⟩:=vg (a:=a) (i:=scanUp (fun x=>ag x d[a]!) d j i) ha (by omega) hs j hj
  rw[partLoop_eq]
  have f:yI CC a ((i:Int),(j:Int),eA d)=yI CC a ((i:Int),(j:Int),eA d):=rfl
  conv at f=>rhs;simp only[yI,DE,un];rw[e3];simp only[Option.bind_some,un];rw[e4];simp only[Option.bind_some,un]
  generalize kJ:scanUp (fun x=>ag x d[a]!) d j i=i2 at*
  generalize b8:scanDown (fun x=> !ag x d[a]!) d i2 j=j2 at*
  by_cases h:i2>j2
  ·rw[if_pos h]
   refine ⟨(i2:Int),true,aZ (f.trans ?_)⟩
   simp (disch:=omega) only[Option.bind_some,gp,cond_true]
  ·rw[if_neg h]
   obtain ⟨x,z,e⟩:=ih (i2+1) (j2-1) (swp d i2 j2) (by omega) (by omega) (by rw[size_swp];omega) (by rw[size_swp];omega) (by rw[size_swp];omega) (by rw[size_swp];omega)
   refine ⟨x,z,(cF (f.trans ?_)).trans e⟩
   simp (disch:=omega) only[ar,cl,dp,if_pos,if_neg,wrap64,bK,cT,Int.toNat_natCast,Option.bind_some,cR,cU,Ed.bR,Ed.bS,Ed.bU,Ed.re,cS,dC,Array.size_setIfInBounds,gB,V.ba,V.toInt_int,cond_true,cond_false,eJ]
   rfl
theorem Ol (d:Array Ed) (a b pivot:Nat):partition ag d a b pivot=
  if scanUp (fun x=>ag x (swp d a pivot)[a]!) (swp d a pivot) (b-1) (a+1)>scanDown (fun x=> !ag x (swp d a pivot)[a]!) (swp d a pivot) (scanUp (fun x=>ag x (swp d a pivot)[a]!) (swp d a pivot) (b-1) (a+1)) (b-1) then
   (scanDown (fun x=> !ag x (swp d a pivot)[a]!) (swp d a pivot) (scanUp (fun x=>ag x (swp d a pivot)[a]!) (swp d a pivot) (b-1) (a+1)) (b-1),true,swp (swp d a pivot) (scanDown (fun x=> !ag x (swp d a pivot)[a]!) (swp d a pivot) (scanUp (fun x=>ag x (swp d a pivot)[a]!) (swp d a pivot) (b-1) (a+1)) (b-1)) a)
  else
   ((partLoop ag a (scanUp (fun x=>ag x (swp d a pivot)[a]!) (swp d a pivot) (b-1) (a+1)+1) (scanDown (fun x=> !ag x (swp d a pivot)[a]!) (swp d a pivot) (scanUp (fun x=>ag x (swp d a pivot)[a]!) (swp d a pivot) (b-1) (a+1)) (b-1)-1) (swp (swp d a pivot) (scanUp (fun x=>ag x (swp d a pivot)[a]!) (swp d a pivot) (b-1) (a+1)) (scanDown (fun x=> !ag x (swp d a pivot)[a]!) (swp d a pivot) (scanUp (fun x=>ag x (swp d a pivot)[a]!) (swp d a pivot) (b-1) (a+1)) (b-1)))).1,false,
    swp (partLoop ag a (scanUp (fun x=>ag x (swp d a pivot)[a]!) (swp d a pivot) (b-1) (a+1)+1) (scanDown (fun x=> !ag x (swp d a pivot)[a]!) (swp d a pivot) (scanUp (fun x=>ag x (swp d a pivot)[a]!) (swp d a pivot) (b-1) (a+1)) (b-1)-1) (swp (swp d a pivot) (scanUp (fun x=>ag x (swp d a pivot)[a]!) (swp d a pivot) (b-1) (a+1)) (scanDown (fun x=> !ag x (swp d a pivot)[a]!) (swp d a pivot) (scanUp (fun x=>ag x (swp d a pivot)[a]!) (swp d a pivot) (b-1) (a+1)) (b-1)))).2
    (partLoop ag a (scanUp (fun x=>ag x (swp d a pivot)[a]!) (swp d a pivot) (b-1) (a+1)+1) (scanDown (fun x=> !ag x (swp d a pivot)[a]!) (swp d a pivot) (scanUp (fun x=>ag x (swp d a pivot)[a]!) (swp d a pivot) (b-1) (a+1)) (b-1)-1) (swp (swp d a pivot) (scanUp (fun x=>ag x (swp d a pivot)[a]!) (swp d a pivot) (b-1) (a+1)) (scanDown (fun x=> !ag x (swp d a pivot)[a]!) (swp d a pivot) (scanUp (fun x=>ag x (swp d a pivot)[a]!) (swp d a pivot) (b-1) (a+1)) (b-1)))).1 a):=rfl
theorem m8 (d:Array Ed) (i j:Nat):eA ((d.setIfInBounds i d[j]!).setIfInBounds j d[i]!)=eA (swp d i j):=rfl
theorem Om {a b pivot:Nat} {d:Array Ed} (hp:pivot<b) (cP:a<b) (hb:b≤d.size) (hs:d.size<1152921504606846976):
  CC mM [.int .i64 (a:Int),.int .i64 (b:Int),.int .i64 (pivot:Int),.list aj (eA d)]=
   some [.int .i64 ((partition ag d a b pivot).1:Int),.bool (partition ag d a b pivot).2.1,.list aj (eA (partition ag d a b pivot).2.2)]:=by
 refine ajS ?_
 unfold Y6
 have z1:(swp d a pivot).size=d.size:=size_swp ..
 obtain ⟨t1,e1⟩:=Oi (a:=a) (j:=b-1) (d:=swp d a pivot) (by omega) (by omega) (by omega) _ (a+1) rfl (by omega)
 have g1:=scanUp_ge (fun x=>ag x (swp d a pivot)[a]!) (swp d a pivot) (b-1) (a+1)
 have g2:=scanDown_le (fun x=> !ag x (swp d a pivot)[a]!) (swp d a pivot) (scanUp (fun x=>ag x (swp d a pivot)[a]!) (swp d a pivot) (b-1) (a+1)) (b-1)
 obtain ⟨t2,e2⟩:=CZ (a:=a) (i:=scanUp (fun x=>ag x (swp d a pivot)[a]!) (swp d a pivot) (b-1) (a+1)) (d:=swp d a pivot) (by omega) (by omega) (by omega) (b-1) (by omega)
 have e0:=Ol d a b pivot
 rw[ey (i:=pivot) (by omega),ez (by omega),ey (i:=a) (by omega),ez (by omega),ey (i:=a) (by omega),ez (by omega),rL (i:=pivot) (by omega),rM (by omega)]
 simp only[Ed.bR,Ed.bS,Ed.bU,Ed.re,Int.toNat_natCast,cS,m8]
 simp (disch:=omega) only[eJ,bK,wrap64]
 rw[e1]
 simp only[Option.bind_some,un]
 rw[e2]
 simp only[Option.bind_some,un]
 generalize kJ:scanUp (fun x=>ag x (swp d a pivot)[a]!) (swp d a pivot) (b-1) (a+1)=i2 at*
 generalize b8:scanDown (fun x=> !ag x (swp d a pivot)[a]!) (swp d a pivot) i2 (b-1)=j2 at*
 generalize swp d a pivot=d1 at*
 by_cases h:i2>j2
 ·rw[if_pos h] at e0
  rw[e0,ar,if_pos (by omega)]
  rw[ey (i:=a) (by omega)];(first|rw[ez (by omega)]|rw[jd (by omega)]);rw[ey (i:=j2) (by omega)];(first|rw[ez (by omega)]|rw[jd (by omega)]);rw[ey (i:=j2) (by omega)];(first|rw[ez (by omega)]|rw[jd (by omega)]);rw[rL (i:=a) (by omega)];(first|rw[rM (by omega)]|rw[vf (by omega)])
  simp only[Ed.bR,Ed.bS,Ed.bU,Ed.re,Int.toNat_natCast,cS,m8]
 ·rw[if_neg h] at e0
  rw[e0,ar,if_neg (by omega)]
  have z2:(swp d1 i2 j2).size=d1.size:=size_swp ..
  obtain ⟨x,z,e5⟩:=Oj (a:=a) _ (i2+1) (j2-1) (swp d1 i2 j2) (Nat.le_refl _) (by omega) (by omega) (by omega) (by omega) (by omega)
  obtain ⟨q1,q2⟩:=Oh (a:=a) _ (i2+1) (j2-1) (swp d1 i2 j2) (Nat.le_refl _)
  rw[ey (i:=j2) (by omega)];(first|rw[ez (by omega)]|rw[jd (by omega)]);rw[ey (i:=i2) (by omega)];(first|rw[ez (by omega)]|rw[jd (by omega)]);rw[ey (i:=i2) (by omega)];(first|rw[ez (by omega)]|rw[jd (by omega)]);rw[rL (i:=j2) (by omega)];(first|rw[rM (by omega)]|rw[vf (by omega)])
  simp only[Ed.bR,Ed.bS,Ed.bU,Ed.re,Int.toNat_natCast,cS,m8]
  simp (disch:=omega) only[eJ,bK,wrap64]
  rw[e5]
  generalize partLoop ag a (i2+1) (j2-1) (swp d1 i2 j2)=r at*
  simp only[Option.bind_some,un]
  rw[ey (i:=a) (by omega)];(first|rw[ez (by omega)]|rw[jd (by omega)]);rw[ey (i:=r.1) (by omega)];(first|rw[ez (by omega)]|rw[jd (by omega)]);rw[ey (i:=r.1) (by omega)];(first|rw[ez (by omega)]|rw[jd (by omega)]);rw[rL (i:=a) (by omega)];(first|rw[rM (by omega)]|rw[vf (by omega)])
  simp only[Ed.bR,Ed.bS,Ed.bU,Ed.re,Int.toNat_natCast,cS,m8]
theorem On {a:Nat}: ∀(n i j:Nat) (d:Array Ed),j+1-i≤n→1≤i→i≤d.size→a<d.size→j<d.size→d.size<1152921504606846976→
  ∃x z,Loop (yM CC a) ((i:Int),(j:Int),eA d)=some ((((partEqLoop ag a i j d).1:Nat):Int),x,z,eA (partEqLoop ag a i j d).2):=by
 intro n
 induction n with
 | zero=>
  intro i j d hn h1 h2 ha hj hs
  obtain ⟨t3,e3⟩:=C2 (a:=a) ha hj hs _ i rfl h2
  have g1:=scanUp_ge (fun x=> !ag d[a]! x) d j i
  have g2:=scanDown_le (fun x=>ag d[a]! x) d (scanUp (fun x=> !ag d[a]! x) d j i) j
  obtain ⟨t4,e4⟩:=vh (a:=a) (i:=scanUp (fun x=> !ag d[a]! x) d j i) ha (by omega) hs j hj
  rw[partEqLoop_eq,if_pos (by omega)]
  refine ⟨((scanDown (fun x=>ag d[a]! x) d (scanUp (fun x=> !ag d[a]! x) d j i) j:Nat):Int),true,aZ ?_⟩
  simp only[yM,DI,un]
  rw[e3]
  simp only[Option.bind_some,un]
  rw[e4]
  simp (disch:=omega) only[Option.bind_some,un,gp,cond_true]
 | succ n ih=>
  intro i j d hn h1 h2 ha hj hs
  obtain ⟨t3,e3⟩:=C2 (a:=a) ha hj hs _ i rfl h2
  have g1:=scanUp_ge (fun x=> !ag d[a]! x) d j i
  have g2:=scanDown_le (fun x=>ag d[a]! x) d (scanUp (fun x=> !ag d[a]! x) d j i) j
  obtain ⟨t4,e4⟩:=vh (a:=a) (i:=scanUp (fun x=> !ag d[a]! x) d j i) ha (by omega) hs j hj
  rw[partEqLoop_eq]
  have f:yM CC a ((i:Int),(j:Int),eA d)=yM CC a ((i:Int),(j:Int),eA d):=rfl
  conv at f=>rhs;simp only[yM,DI,un];rw[e3];simp only[Option.bind_some,un];rw[e4];simp only[Option.bind_some,un]
  generalize kJ:scanUp (fun x=> !ag d[a]! x) d j i=i2 at*
  generalize b8:scanDown (fun x=>ag d[a]! x) d i2 j=j2 at*
  by_cases h:i2>j2
  ·rw[if_pos h]
   refine ⟨(j2:Int),true,aZ (f.trans ?_)⟩
   simp (disch:=omega) only[Option.bind_some,gp,cond_true]
  ·rw[if_neg h]
   obtain ⟨x,z,e⟩:=ih (i2+1) (j2-1) (swp d i2 j2) (by omega) (by omega) (by rw[size_swp];omega) (by rw[size_swp];omega) (by rw[size_swp];omega) (by rw[size_swp];omega)
   refine ⟨x,z,(cF (f.trans ?_)).trans e⟩
   simp (disch:=omega) only[ar,cl,dp,if_pos,if_neg,wrap64,bK,cT,Int.toNat_natCast,Option.bind_some,cR,cU,Ed.bR,Ed.bS,Ed.bU,Ed.re,cS,dC,Array.size_setIfInBounds,gB,V.ba,V.toInt_int,cond_true,cond_false,eJ]
   rfl
theorem Oo {a b pivot:Nat} {d:Array Ed} (hp:pivot<b) (cP:a<b) (hb:b≤d.size) (hs:d.size<1152921504606846976):
  CC sO [.int .i64 (a:Int),.int .i64 (b:Int),.int .i64 (pivot:Int),.list aj (eA d)]=
   some [.int .i64 ((partitionEqual ag d a b pivot).1:Int),.list aj (eA (partitionEqual ag d a b pivot).2)]:=by
 refine ajW ?_
 unfold Y8
 have z1:(swp d a pivot).size=d.size:=size_swp ..
 obtain ⟨x,z,e⟩:=On (a:=a) _ (a+1) (b-1) (swp d a pivot) (Nat.le_refl _) (by omega) (by omega) (by omega) (by omega) (by omega)
 simp (disch:=omega) only[ar,cl,if_pos,cR,cU,Int.toNat_natCast,Option.bind_some,Ed.bR,Ed.bS,Ed.bU,Ed.re,cS,dC,Array.size_setIfInBounds,eJ,bK,wrap64,m8]
 rw[e]
 rfl
theorem Oq {a b j:Nat} {d:Array Ed} (hb:b≤d.size) (hs:d.size<1152921504606846976): ∀(n i:Nat),b-i=n→1≤i→i≤b→
  ∃t,Loop (DK CC a b j (eA d)) (i:Int)=some (((scanSorted ag d b i:Nat):Int),t):=by
 intro n
 induction n with
 | zero=>
  intro i hn h1 hi
  rw[rJ,if_neg (by omega)]
  exact ⟨false,aZ (by simp (disch:=omega) only[DK,DJ,ar,if_neg])⟩
 | succ n ih=>
  intro i hn h1 hi
  obtain ⟨t,h⟩:=ih (i+1) (by omega) (by omega) (by omega)
  rw[rJ,if_pos (by omega)]
  have e:DK CC a b j (eA d) (i:Int)=if aR d[i]! d[i-1]! <0 then some (.inr ((i:Int),!decide (aR d[i]! d[i-1]! <0))) else some (.inl ((i+1:Nat):Int)):=by
   simp (disch:=omega) only[DK,DJ,eJ,ar,cl,dp,if_pos,if_neg,wrap64,bK,cT,Int.toNat_natCast,Option.bind_some,cR,cU,Ed.bR,Ed.bS,Ed.bU,Ed.re,cS,dC,Array.size_setIfInBounds,gB,V.ba,V.toInt_int,cond_true,cond_false]
  by_cases h2:aR d[i]! d[i-1]! <0
  ·rw[if_pos h2] at e⊢
   exact ⟨_,aZ e⟩
  ·rw[if_neg h2] at e⊢
   exact ⟨t,(cF e).trans h⟩
theorem C3: ∀(j:Nat) (d:Array Ed),(shiftDown ag j d).size=d.size
 | 0,_=>rfl
 | j+1,d=>by
  rw[CX]
  split
  ·rw[C3 j,size_swp]
  ·rfl
theorem Ot {b:Nat}: ∀(n j:Nat) (d:Array Ed),b-j=n→(shiftUp ag b j d).size=d.size:=by
 intro n
 induction n with
 | zero=>intro j d h;rw[rK,if_neg (by omega)]
 | succ n ih=>
  intro j d h
  rw[rK,if_pos (by omega)]
  split
  ·rw[ih _ _ (by omega),size_swp]
  ·rfl
theorem C4 {a b i k:Nat}: ∀(j:Nat) (d:Array Ed),j<d.size→d.size<1152921504606846976→
  ∃t,Loop (DM CC a b i k) ((j:Int),eA d)=some (t,eA (shiftDown ag j d))
 | 0,d,hj,hs=>⟨(0:Nat),aZ (by
   simp (disch:=omega) only[DM,DL,un,ar,if_neg]
   rfl)⟩
 | j+1,d,hj,hs=>by
  obtain ⟨t,ih⟩:=C4 (a:=a) (b:=b) (i:=i) (k:=k) j (swp d (j+1) j) (by rw[size_swp];omega) (by rw[size_swp];omega)
  rw[CX]
  have e:DM CC a b i k (((j+1:Nat):Int),eA d)=if aR d[j+1]! d[j]! <0 then some (.inl ((j:Int),eA (swp d (j+1) j))) else some (.inr (((j+1:Nat):Int),eA d)):=by
   simp (disch:=omega) only[DM,DL,un,ar,cl,dp,if_pos,if_neg,wrap64,bK,cT,Int.toNat_natCast,Option.bind_some,cR,cU,Ed.bR,Ed.bS,Ed.bU,Ed.re,cS,dC,Array.size_setIfInBounds,gB,V.ba,V.toInt_int,cond_true,cond_false,me]
   rfl
  by_cases h2:aR d[j+1]! d[j]! <0
  ·rw[if_pos h2] at e⊢
   exact ⟨t,(cF e).trans ih⟩
  ·rw[if_neg h2] at e⊢
   exact ⟨_,aZ e⟩
theorem Ou {a b i k:Nat}: ∀(n j:Nat) (d:Array Ed),b-j=n→1≤j→j≤b→b≤d.size→d.size<1152921504606846976→
  ∃t,Loop (DO CC a b i k) ((j:Int),eA d)=some (t,eA (shiftUp ag b j d)):=by
 intro n
 induction n with
 | zero=>
  intro j d hn h1 hj hb hs
  rw[rK,if_neg (by omega)]
  exact ⟨(j:Int),aZ (by
   simp (disch:=omega) only[DO,DN,un,ar,if_neg])⟩
 | succ n ih=>
  intro j d hn h1 hj hb hs
  obtain ⟨t,h⟩:=ih (j+1) (swp d j (j-1)) (by omega) (by omega) (by omega) (by rw[size_swp];omega) (by rw[size_swp];omega)
  rw[rK,if_pos (by omega)]
  have e:DO CC a b i k ((j:Int),eA d)=if aR d[j]! d[j-1]! <0 then some (.inl (((j+1:Nat):Int),eA (swp d j (j-1)))) else some (.inr ((j:Int),eA d)):=by
   simp (disch:=omega) only[DO,DN,un,eJ,ar,cl,dp,if_pos,if_neg,wrap64,bK,cT,Int.toNat_natCast,Option.bind_some,cR,cU,Ed.bR,Ed.bS,Ed.bU,Ed.re,cS,dC,Array.size_setIfInBounds,gB,V.ba,V.toInt_int,cond_true,cond_false]
   rfl
  by_cases h2:aR d[j]! d[j-1]! <0
  ·rw[if_pos h2] at e⊢
   exact ⟨t,(cF e).trans h⟩
  ·rw[if_neg h2] at e⊢
   exact ⟨_,aZ e⟩
theorem Ov {d:Array Ed} {b:Nat}: ∀(n i:Nat),b-i=n→i≤b→i≤scanSorted ag d b i∧scanSorted ag d b i≤b:=by
 intro n
 induction n with
 | zero=>intro i hn hi;rw[rJ,if_neg (by omega)];omega
 | succ n ih=>
  intro i hn hi
  rw[rJ,if_pos (by omega)]
  obtain ⟨h1,h2⟩:=ih (i+1) (by omega) (by omega)
  split<;>omega
theorem Ow {a b:Nat}: ∀(s i:Nat) (d:Array Ed),s≤5→a<i→i≤b→b≤d.size→d.size<1152921504606846976→
  (Loop (ti CC a b) ((i:Int),((5-s:Nat):Int),eA d)=some (.inl ((partialIns ag a b s i d).2,eA (partialIns ag a b s i d).1)))∨
  (∃x y z,(partialIns ag a b s i d).2=false∧Loop (ti CC a b) ((i:Int),((5-s:Nat):Int),eA d)=some (.inr (x,y,z,eA (partialIns ag a b s i d).1))):=by
 intro s
 induction s with
 | zero=>
  intro i d Ox hi vi hb hs
  refine .inr ⟨(i:Int),((5:Nat):Int),false,rfl,aZ ?_⟩
  simp (disch:=omega) only[ti,DP,un,jS,cond_false]
  rfl
 | succ s ih=>
  intro i d Ox hi vi hb hs
  obtain ⟨t1,e1⟩:=Oq (a:=a) (j:=5-(s+1)) hb hs _ i rfl (by omega) vi
  obtain ⟨q1,q2⟩:=Ov (d:=d) _ i rfl vi
  rw[partialIns_succ]
  have f:ti CC a b ((i:Int),((5-(s+1):Nat):Int),eA d)=ti CC a b ((i:Int),((5-(s+1):Nat):Int),eA d):=rfl
  conv at f=>rhs;simp only[ti,DP,un];rw[ar,if_pos (by omega),e1];simp only[Option.bind_some,un]
  generalize scanSorted ag d b i=k at*
  by_cases h1:k=b
  ·rw[if_pos h1]
   left
   refine aZ (f.trans ?_)
   rw[km,if_pos (by omega)]
  ·rw[if_neg h1]
   by_cases h2:b-a<50
   ·rw[if_pos h2]
    left
    refine aZ (f.trans ?_)
    rw[km,if_neg (by omega),wrap64 (by omega) (by omega),ar,if_pos (by omega)]
   ·rw[if_neg h2]
    have z1:(swp d k (k-1)).size=d.size:=size_swp ..
    have z2:(fixDown ag a k (swp d k (k-1))).size=d.size:=by
     unfold fixDown
     split
     ·rw[C3,z1]
     ·exact z1
    have z3:(fixUp ag b k (fixDown ag a k (swp d k (k-1)))).size=d.size:=by
     unfold fixUp
     split
     ·rw[Ot _ _ _ rfl,z2]
     ·exact z2
    obtain ⟨t2,e2⟩:=C4 (a:=a) (b:=b) (i:=k) (k:=5-(s+1)) (k-1) (swp d k (k-1)) (by omega) (by omega)
    obtain ⟨t4,e4⟩:=Ou (a:=a) (b:=b) (i:=k) (k:=5-(s+1)) _ (k+1) (fixDown ag a k (swp d k (k-1))) rfl (by omega) (by omega) (by omega) (by omega)
    have e5:ti CC a b ((i:Int),((5-(s+1):Nat):Int),eA d)=some (.inl ((k:Int),((5-s:Nat):Int),eA (fixUp ag b k (fixDown ag a k (swp d k (k-1)))))):=by
     refine f.trans ?_
     rw[km,if_neg (by omega),wrap64 (by omega) (by omega),ar,if_neg (by omega)]
     simp (disch:=omega) only[ar,cl,if_pos,cR,cU,Int.toNat_natCast,Option.bind_some,Ed.bR,Ed.bS,Ed.bU,Ed.re,cS,dC,Array.size_setIfInBounds,eJ,bK,fE,wrap64,m8,Ii]
     rw[show 5-(s+1)+1=5-s by omega]
     unfold fixDown at e4⊢
     unfold fixUp
     have c1:(((k-a:Nat):Int)≥2)=(k-a≥2):=propext (by omega)
     have c2:(((b-k:Nat):Int)≥2)=(b-k≥2):=propext (by omega)
     simp only[c1,c2]
     by_cases g1:k-a≥2
     ·by_cases g2:b-k≥2
      ·simp only[g1,g2,if_true,e2,Option.bind_some,un] at e4⊢
       rw[e4]
       rfl
      ·simp only[g1,g2,if_true,if_false,e2,Option.bind_some,un]
     ·by_cases g2:b-k≥2
      ·simp only[g1,g2,if_true,if_false] at e4⊢
       rw[e4]
       rfl
      ·exact absurd (show b-k≥2 by omega) g2
    rw[cF e5]
    exact ih k _ (by omega) (by omega) (by omega) (by omega) (by omega)
theorem C6 {a b:Nat} {d:Array Ed} (cP:a<b) (hb:b≤d.size) (hs:d.size<1152921504606846976):
  CC AK [.int .i64 (a:Int),.int .i64 (b:Int),.list aj (eA d)]=
   some [.bool (partialInsertionSort ag d a b).2,.list aj (eA (partialInsertionSort ag d a b).1)]:=by
 refine aj2 ?_
 unfold Za
 simp (disch:=omega) only[bK,wrap64]
 rcases Ow (a:=a) (b:=b) 5 (a+1) d (Nat.le_refl _) (by omega) (by omega) hb hs with h|⟨x,y,z,h0,h⟩
 ·rw[show ((5-5:Nat):Int)=0 from rfl] at h
  rw[h]
  rfl
 ·rw[show ((5-5:Nat):Int)=0 from rfl] at h
  rw[h]
  unfold partialInsertionSort
  rw[h0]
  rfl
end Go.AM
set_option maxRecDepth 100000
namespace Go.AM
open Go.Proofs
noncomputable abbrev tj:Code:=ch Tryd.prog (aq.aO 128)
noncomputable def DR (C:ae) (data:List V) (i j k':Int) (t36:Bool) (dk:Int) {β:Type} (kr:(Int × Int × Int × Int)→Option β):Option β:=
 bif t36 then
  (C uF [.list aj data,.int .i64 i,.int .i64 dk]).bind fun r1=>
  (C uF [.list aj data,.int .i64 j,.int .i64 ((V.nth (r1.drop 1) 0).toInt)]).bind fun r2=>
  (C uF [.list aj data,.int .i64 k',.int .i64 ((V.nth (r2.drop 1) 0).toInt)]).bind fun r3=>
  kr ((V.nth r1 0).toInt,(V.nth r2 0).toInt,(V.nth r3 0).toInt,(V.nth (r3.drop 1) 0).toInt)
 else
  kr (i,j,k',dk)
noncomputable def DS (C:ae) (data:List V) (l i j k':Int) (t34:Bool) (dk:Int) {β:Type} (kr:(Int × Int)→Option β):Option β:=
 bif t34 then
  DR C data i j k' (decide ((l:Int)≥50)) dk (un fun (cE:Int)=>un fun (Oy:Int)=>un fun (Oz:Int) (OA:Int)=>
   (C xd [.list aj data,.int .i64 cE,.int .i64 Oy,.int .i64 Oz,.int .i64 OA]).bind fun r8=>
   kr ((V.nth r8 0).toInt,(V.nth (r8.drop 1) 0).toInt))
 else
  kr (j,dk)
noncomputable def Zb (C:ae):b6:=fun β n ds k=>
 bif Nat.beq n 591 then iq Mc [[1,0,0,0,0]] (@DR C) ds k else
 bif Nat.beq n 559 then iq Md [[0,0]] (@DS C) ds k else
 none
abbrev Zc (C:ae) (b:bY):Prop:=bZ Tryd.prog aq C (Zb C) 128 (cm Tryd.prog (aq.aO 128)) (aq.sin 128).aW.length b
theorem aj3 (C:ae):Zc C (.cond 36 (an [1,1,1,1,1,1,0,1,0,0,1,0] tj) (an [1,1,1,1,1,1,0,1,0,0,1,1] tj)):=
 iT Mc [[1,0,0,0,0]] (@DR C) (by kernel_rfl) (aI (bs:=[]) (by kernel_rfl) ao) (aI (bs:=[]) (by kernel_rfl) ao) (fun ds=>by kernel_rfl) (fun i β k=>by kernel_rfl) (fun β ds k=>by kernel_rfl)
theorem aj4 (C:ae):Zc C (.cond 34 (an [1,1,1,1,1,1,0,1,0] tj) (an [1,1,1,1,1,1,0,1,1] tj)):=
 iT Md [[0,0]] (@DS C) (by kernel_rfl) (aI (bs:=[.cond 36 (an [1,1,1,1,1,1,0,1,0,0,1,0] tj) (an [1,1,1,1,1,1,0,1,0,0,1,1] tj)]) (by kernel_rfl) (aU (aj3 C) ao)) (aI (bs:=[]) (by kernel_rfl) ao) (fun ds=>by kernel_rfl) (fun i β k=>by kernel_rfl) (fun β ds k=>by kernel_rfl)
noncomputable def PJ (C:ae) (data:List V) (a b':Int):Option (List V):=
 DS C data (IntKind.wrap .i64 (b'-a)) (IntKind.wrap .i64 (a+(IntKind.wrap .i64 (1*(IntKind.wrap .i64 (Int.tdiv (IntKind.wrap .i64 (b'-a)) 4)))))) (IntKind.wrap .i64 (a+(IntKind.wrap .i64 (2*(IntKind.wrap .i64 (Int.tdiv (IntKind.wrap .i64 (b'-a)) 4)))))) (IntKind.wrap .i64 (a+(IntKind.wrap .i64 (3*(IntKind.wrap .i64 (Int.tdiv (IntKind.wrap .i64 (b'-a)) 4)))))) (decide (((IntKind.wrap .i64 (b'-a)):Int)≥8)) 0 (un fun (vj:Int) (C9:Int)=>
  bif (C9:Int)==0 then
   some [.int .i64 vj,.int .i64 1]
  else
   bif (C9:Int)==12 then
   some [.int .i64 vj,.int .i64 2]
   else
   some [.int .i64 vj,.int .i64 0])
theorem Zd {data:List V} {a b':Int} {r:Option (List V)} (h:PJ CC data a b'=r):CC w8 [.list aj data,.int .i64 a,.int .i64 b']=r:=
 bf (key:=128) (L:=Zb CC) (bs:=[.cond 34 (an [1,1,1,1,1,1,0,1,0] tj) (an [1,1,1,1,1,1,0,1,1] tj)]) (by kernel_rfl) (aU (aj4 CC) ao) (Eq.trans (by kernel_rfl) h)
noncomputable def Ze (C:ae) (data:List V) (a b' c dk:Int):Option (List V):=
 (C uG [.list aj data,.int .i64 a,.int .i64 b',.int .i64 dk]).bind fun r1=>
 (C uG [.list aj data,.int .i64 ((V.nth (r1.drop 1) 0).toInt),.int .i64 c,.int .i64 ((V.nth (r1.drop 2) 0).toInt)]).bind fun r2=>
 (C uG [.list aj data,.int .i64 ((V.nth r1 0).toInt),.int .i64 ((V.nth r2 0).toInt),.int .i64 ((V.nth (r2.drop 2) 0).toInt)]).bind fun r3=>
 some [.int .i64 ((V.nth (r3.drop 1) 0).toInt),.int .i64 ((V.nth (r3.drop 2) 0).toInt)]
theorem aj5 {data:List V} {a b' c dk:Int} {r:Option (List V)} (h:Ze CC data a b' c dk=r):CC xd [.list aj data,.int .i64 a,.int .i64 b',.int .i64 c,.int .i64 dk]=r:=
 bf (key:=145) (L:=dq) (bs:=[]) (by kernel_rfl) ao (Eq.trans (by kernel_rfl) h)
noncomputable def PK (C:ae) (data:List V) (a b' dk:Int):Option (List V):=
 (idx data b').bind fun x1=>
 (idx data a).bind fun x2=>
 (C bp [.int .i64 ((x1.cell 0).toInt),.int .i64 ((x1.cell 1).toInt),.int .i64 ((x1.cell 2).toInt),.int .i64 ((x2.cell 0).toInt),.int .i64 ((x2.cell 1).toInt),.int .i64 ((x2.cell 2).toInt)]).bind fun r3=>
 bif decide ((((V.nth r3 0).toInt):Int)<0) then
  some [.int .i64 b',.int .i64 a,.int .i64 (IntKind.wrap .i64 (dk+1))]
 else
  some [.int .i64 a,.int .i64 b',.int .i64 dk]
theorem Zf {data:List V} {a b' dk:Int} {r:Option (List V)} (h:PK CC data a b' dk=r):CC uG [.list aj data,.int .i64 a,.int .i64 b',.int .i64 dk]=r:=
 bf (key:=146) (L:=dq) (bs:=[]) (by kernel_rfl) ao (Eq.trans (by kernel_rfl) h)
noncomputable def Zg (C:ae) (data:List V) (a dk:Int):Option (List V):=
 (C xd [.list aj data,.int .i64 (IntKind.wrap .i64 (a-1)),.int .i64 a,.int .i64 (IntKind.wrap .i64 (a+1)),.int .i64 dk]).bind fun r1=>
 some [.int .i64 ((V.nth r1 0).toInt),.int .i64 ((V.nth (r1.drop 1) 0).toInt)]
theorem aj6 {data:List V} {a dk:Int} {r:Option (List V)} (h:Zg CC data a dk=r):CC uF [.list aj data,.int .i64 a,.int .i64 dk]=r:=
 bf (key:=144) (L:=dq) (bs:=[]) (by kernel_rfl) ao (Eq.trans (by kernel_rfl) h)
noncomputable abbrev yN:Code:=ch Tryd.prog (aq.aO 127)
noncomputable def Ij (C:ae) (a length m9 eh other:Int) (t45:Bool) (ab:List V) (oM:Int) {β:Type} (kr:(Int)→Option β):Option β:=
 bif t45 then
  kr (IntKind.wrap .i64 (other-length))
 else
  kr other
noncomputable def DT (C:ae) (a length m9 eh:Int) (ab:List V) (oM:Int) {β:Type} (kn:(Int × (List V) × Int)→Option β) (kr:(Int × Bool × (List V) × Int)→Option β):Option β:=
 bif decide ((eh:Int)≤(IntKind.wrap .i64 ((IntKind.wrap .i64 (a+(IntKind.wrap .i64 (2*(IntKind.wrap .i64 (Int.tdiv length 4))))))+1))) then
  (C xc [.int .u64 oM]).bind fun r2=>
  Ij C a length m9 eh (IntKind.wrap .i64 (IntKind.wrap .u64 ((BitVec.ofInt (IntKind.bits .u64) ((V.nth r2 0).toInt)&&&BitVec.ofInt (IntKind.bits .u64) (IntKind.wrap .u64 (m9-1))).toNat))) (decide (((IntKind.wrap .i64 (IntKind.wrap .u64 ((BitVec.ofInt (IntKind.bits .u64) ((V.nth r2 0).toInt)&&&BitVec.ofInt (IntKind.bits .u64) (IntKind.wrap .u64 (m9-1))).toNat))):Int)≥length)) ab ((V.nth (r2.drop 1) 0).toInt) (fun (lg:Int)=>
   bif (decide (0≤(IntKind.wrap .i64 (a+lg))))&&(decide ((IntKind.wrap .i64 (a+lg))<(ab.length:Int))) then
   (ab[(IntKind.wrap .i64 (a+lg):Int).toNat]?).bind fun x4=>
   bif (decide (0≤eh))&&(decide (eh<(ab.length:Int))) then
    (ab[(eh:Int).toNat]?).bind fun x5=>
    bif (decide (0≤eh))&&(decide (eh<(ab.length:Int))) then
    (ab[(eh:Int).toNat]?).bind fun x6=>
    bif (decide (0≤(IntKind.wrap .i64 (a+lg))))&&(decide ((IntKind.wrap .i64 (a+lg))<((ab.set ((eh:Int).toNat) (.agg [.int .i64 ((x4.cell 0).toInt),.int .i64 ((x4.cell 1).toInt),.int .i64 ((x4.cell 2).toInt)])).length:Int))) then
     ((ab.set ((eh:Int).toNat) (.agg [.int .i64 ((x4.cell 0).toInt),.int .i64 ((x4.cell 1).toInt),.int .i64 ((x4.cell 2).toInt)]))[(IntKind.wrap .i64 (a+lg):Int).toNat]?).bind fun x7=>
     kn (IntKind.wrap .i64 (eh+1),(ab.set ((eh:Int).toNat) (.agg [.int .i64 ((x4.cell 0).toInt),.int .i64 ((x4.cell 1).toInt),.int .i64 ((x4.cell 2).toInt)])).set ((IntKind.wrap .i64 (a+lg):Int).toNat) (.agg [.int .i64 ((x5.cell 0).toInt),.int .i64 ((x5.cell 1).toInt),.int .i64 ((x5.cell 2).toInt)]),(V.nth (r2.drop 1) 0).toInt)
    else none
    else none
   else none
   else none)
 else
  kr (eh,decide ((eh:Int)≤(IntKind.wrap .i64 ((IntKind.wrap .i64 (a+(IntKind.wrap .i64 (2*(IntKind.wrap .i64 (Int.tdiv length 4))))))+1))),ab,oM)
noncomputable def Ik (C:ae) (a length m9:Int):(Int × (List V) × Int)→Option ((Int × (List V) × Int) ⊕ (Int × Bool × (List V) × Int)):=un fun eh=>un fun ab oM=>DT C a length m9 eh ab oM (fun y=>some (.inl y)) (fun r=>some (.inr r))
noncomputable def Zh (C:ae):b6:=fun β n ds k=>
 bif Nat.beq n 735 then iq Ma [[1,2,3,4,0,7,8]] (@Ij C) ds k else
 bif Nat.beq n 81 then bd Mb [false,false,false,true,true,true] [[1,2,3,0,0,0,0]] (@DT C) ds k else
 none
abbrev Zi (C:ae) (b:bY):Prop:=bZ Tryd.prog aq C (Zh C) 127 (cm Tryd.prog (aq.aO 127)) (aq.sin 127).aW.length b
theorem aj7 (C:ae):Zi C (.cond 45 (an [1,1,0,1,1,1,0,0,1,0,0,1,0,1,0] yN) (an [1,1,0,1,1,1,0,0,1,0,0,1,0,1,1] yN)):=
 iT Ma [[1,2,3,4,0,7,8]] (@Ij C) (by kernel_rfl) (aI (bs:=[]) (by kernel_rfl) ao) (aI (bs:=[]) (by kernel_rfl) ao) (fun ds=>by kernel_rfl) (fun i β k=>by kernel_rfl) (fun β ds k=>by kernel_rfl)
theorem aj8 (C:ae):Zi C (.loop (an [1,1,0,1,1,1,0,0] yN)):=
 bh Mb [false,false,false,true,true,true] [[1,2,3,0,0,0,0]] (@DT C) (by kernel_rfl) (aI (bs:=[.cond 45 (an [1,1,0,1,1,1,0,0,1,0,0,1,0,1,0] yN) (an [1,1,0,1,1,1,0,0,1,0,0,1,0,1,1] yN)]) (by kernel_rfl) (aU (aj7 C) ao)) (fun ds=>by kernel_rfl) (fun i x=>by kernel_rfl) (fun i x β k=>by kernel_rfl) (fun β ds k=>by kernel_rfl)
noncomputable def Zj (C:ae) (a b':Int) (ab:List V):Option (List V):=
 bif decide (((IntKind.wrap .i64 (b'-a)):Int)≥8) then
  (C xb [.int .i64 (IntKind.wrap .i64 (b'-a))]).bind fun r1=>
  (Loop (Ik C a (IntKind.wrap .i64 (b'-a)) ((V.nth r1 0).toInt)) (IntKind.wrap .i64 ((IntKind.wrap .i64 (a+(IntKind.wrap .i64 (2*(IntKind.wrap .i64 (Int.tdiv (IntKind.wrap .i64 (b'-a)) 4))))))-1),ab,IntKind.wrap .u64 (IntKind.wrap .i64 (b'-a)))).bind (un fun (aix:Int)=>un fun (mT:Bool)=>un fun (gC:List V) (aiy:Int)=>
   some [.list aj gC])
 else
  some [.list aj ab]
theorem aj9 {a b':Int} {ab:List V} {r:Option (List V)} (h:Zj CC a b' ab=r):CC AI [.int .i64 a,.int .i64 b',.list aj ab]=r:=
 bf (key:=127) (L:=Zh CC) (bs:=[.loop (an [1,1,0,1,1,1,0,0] yN)]) (by kernel_rfl) (aU (aj8 CC) ao) (Eq.trans (by kernel_rfl) h)
noncomputable abbrev mh:Code:=ch Tryd.prog (aq.aO 110)
noncomputable def yO (C:ae) (a b' dU:Int) (cd cx:Bool) (length:Int) (t39:Bool) (ab:List V) {β:Type} (kr:(Int × (List V))→Option β):Option β:=
 bif t39 then
  (C AI [.int .i64 a,.int .i64 b',.list aj ab]).bind fun r3=>
  kr (IntKind.wrap .i64 (dU-1),(V.nth r3 0).toList)
 else
  kr (dU,ab)
noncomputable def yP (C:ae) (a b' dU:Int) (cd cx:Bool) (length pivot hint:Int) (t56:Bool) (ab:List V) {β:Type} (kr:(Int × Int × (List V))→Option β):Option β:=
 bif t56 then
  (C AJ [.int .i64 a,.int .i64 b',.list aj ab]).bind fun r7=>
  kr (IntKind.wrap .i64 ((IntKind.wrap .i64 (b'-1))-(IntKind.wrap .i64 (pivot-a))),1,(V.nth r7 0).toList)
 else
  kr (pivot,hint,ab)
noncomputable def ni (C:ae) (a b' dU:Int) (cd cx:Bool) (length pivot:Int) (t75:Bool) (ab:List V) {β:Type} (kr:((Bool × (List V)) ⊕ (List V))→Option β):Option β:=
 bif t75 then
  (C AK [.int .i64 a,.int .i64 b',.list aj ab]).bind fun lh=>
  bif (V.nth lh 0).toBool then
  kr (.inl ((V.nth lh 0).toBool,(V.nth (lh.drop 1) 0).toList))
  else
  kr (.inr ((V.nth (lh.drop 1) 0).toList))
 else
  kr (.inr ab)
noncomputable def p5 (C:ae) (a b' dU:Int) (cd cx:Bool) (ab:List V) {β:Type} (kn:(Int × Int × Int × Bool × Bool × (List V))→Option β) (kr:(List V)→Option β):Option β:=
 bif decide (((IntKind.wrap .i64 (b'-a)):Int)≤12) then
  (C w6 [.int .i64 a,.int .i64 b',.list aj ab]).bind fun r1=>
  kr ((V.nth r1 0).toList)
 else
  bif (dU:Int)==0 then
  (C w7 [.int .i64 a,.int .i64 b',.list aj ab]).bind fun r2=>
  kr ((V.nth r2 0).toList)
  else
  yO C a b' dU cd cx (IntKind.wrap .i64 (b'-a)) (!cd) ab (un fun (a9:Int) (oP:List V)=>
   (C w8 [.list aj oP,.int .i64 a,.int .i64 b']).bind fun r6=>
   yP C a b' a9 cd cx (IntKind.wrap .i64 (b'-a)) ((V.nth r6 0).toInt) ((V.nth (r6.drop 1) 0).toInt) ((((V.nth (r6.drop 1) 0).toInt):Int)==2) oP (un fun (bL:Int)=>un fun (vk:Int) (gC:List V)=>
    bif cd then
     bif cx then
     ni C a b' a9 cd cx (IntKind.wrap .i64 (b'-a)) bL ((vk:Int)==1) gC (cI (un fun (xK:Bool) (va:List V)=>
      kr va) (fun (lj:List V)=>
      bif decide ((a:Int)>0) then
       bif (decide (0≤(IntKind.wrap .i64 (a-1))))&&(decide ((IntKind.wrap .i64 (a-1))<(lj.length:Int))) then
       (lj[(IntKind.wrap .i64 (a-1):Int).toNat]?).bind fun cO=>
       bif (decide (0≤bL))&&(decide (bL<(lj.length:Int))) then
        (lj[(bL:Int).toNat]?).bind fun db=>
        (C bp [.int .i64 ((cO.cell 0).toInt),.int .i64 ((cO.cell 1).toInt),.int .i64 ((cO.cell 2).toInt),.int .i64 ((db.cell 0).toInt),.int .i64 ((db.cell 1).toInt),.int .i64 ((db.cell 2).toInt)]).bind fun cb=>
        bif !(decide ((((V.nth cb 0).toInt):Int)<0)) then
        (C sO [.int .i64 a,.int .i64 b',.int .i64 bL,.list aj lj]).bind fun lk=>
        kn ((V.nth lk 0).toInt,b',a9,cd,cx,(V.nth (lk.drop 1) 0).toList)
        else
        (C mM [.int .i64 a,.int .i64 b',.int .i64 bL,.list aj lj]).bind fun dz=>
        bif decide (((IntKind.wrap .i64 (((V.nth dz 0).toInt)-a)):Int)<(IntKind.wrap .i64 (b'-((V.nth dz 0).toInt)))) then
         (C gA [.int .i64 a,.int .i64 ((V.nth dz 0).toInt),.int .i64 a9,.list aj ((V.nth (dz.drop 2) 0).toList)]).bind fun dv=>
         kn (IntKind.wrap .i64 (((V.nth dz 0).toInt)+1),b',a9,decide (((IntKind.wrap .i64 (((V.nth dz 0).toInt)-a)):Int)≥(IntKind.wrap .i64 (Int.tdiv (IntKind.wrap .i64 (b'-a)) 8))),(V.nth (dz.drop 1) 0).toBool,(V.nth dv 0).toList)
        else
         (C gA [.int .i64 (IntKind.wrap .i64 (((V.nth dz 0).toInt)+1)),.int .i64 b',.int .i64 a9,.list aj ((V.nth (dz.drop 2) 0).toList)]).bind fun nc=>
         kn (a,(V.nth dz 0).toInt,a9,decide (((IntKind.wrap .i64 (b'-((V.nth dz 0).toInt))):Int)≥(IntKind.wrap .i64 (Int.tdiv (IntKind.wrap .i64 (b'-a)) 8))),(V.nth (dz.drop 1) 0).toBool,(V.nth nc 0).toList)
       else none
       else none
      else
       (C mM [.int .i64 a,.int .i64 b',.int .i64 bL,.list aj lj]).bind fun ew=>
       bif decide (((IntKind.wrap .i64 (((V.nth ew 0).toInt)-a)):Int)<(IntKind.wrap .i64 (b'-((V.nth ew 0).toInt)))) then
       (C gA [.int .i64 a,.int .i64 ((V.nth ew 0).toInt),.int .i64 a9,.list aj ((V.nth (ew.drop 2) 0).toList)]).bind fun OG=>
       kn (IntKind.wrap .i64 (((V.nth ew 0).toInt)+1),b',a9,decide (((IntKind.wrap .i64 (((V.nth ew 0).toInt)-a)):Int)≥(IntKind.wrap .i64 (Int.tdiv (IntKind.wrap .i64 (b'-a)) 8))),(V.nth (ew.drop 1) 0).toBool,(V.nth OG 0).toList)
       else
       (C gA [.int .i64 (IntKind.wrap .i64 (((V.nth ew 0).toInt)+1)),.int .i64 b',.int .i64 a9,.list aj ((V.nth (ew.drop 2) 0).toList)]).bind fun OH=>
       kn (a,(V.nth ew 0).toInt,a9,decide (((IntKind.wrap .i64 (b'-((V.nth ew 0).toInt))):Int)≥(IntKind.wrap .i64 (Int.tdiv (IntKind.wrap .i64 (b'-a)) 8))),(V.nth (ew.drop 1) 0).toBool,(V.nth OH 0).toList)))
     else
     ni C a b' a9 cd cx (IntKind.wrap .i64 (b'-a)) bL false gC (cI (un fun (NA:Bool) (OI:List V)=>
      kr OI) (fun (ja:List V)=>
      bif decide ((a:Int)>0) then
       bif (decide (0≤(IntKind.wrap .i64 (a-1))))&&(decide ((IntKind.wrap .i64 (a-1))<(ja.length:Int))) then
       (ja[(IntKind.wrap .i64 (a-1):Int).toNat]?).bind fun lb=>
       bif (decide (0≤bL))&&(decide (bL<(ja.length:Int))) then
        (ja[(bL:Int).toNat]?).bind fun ld=>
        (C bp [.int .i64 ((lb.cell 0).toInt),.int .i64 ((lb.cell 1).toInt),.int .i64 ((lb.cell 2).toInt),.int .i64 ((ld.cell 0).toInt),.int .i64 ((ld.cell 1).toInt),.int .i64 ((ld.cell 2).toInt)]).bind fun oL=>
        bif !(decide ((((V.nth oL 0).toInt):Int)<0)) then
        (C sO [.int .i64 a,.int .i64 b',.int .i64 bL,.list aj ja]).bind fun Dd=>
        kn ((V.nth Dd 0).toInt,b',a9,cd,cx,(V.nth (Dd.drop 1) 0).toList)
        else
        (C mM [.int .i64 a,.int .i64 b',.int .i64 bL,.list aj ja]).bind fun fV=>
        bif decide (((IntKind.wrap .i64 (((V.nth fV 0).toInt)-a)):Int)<(IntKind.wrap .i64 (b'-((V.nth fV 0).toInt)))) then
         (C gA [.int .i64 a,.int .i64 ((V.nth fV 0).toInt),.int .i64 a9,.list aj ((V.nth (fV.drop 2) 0).toList)]).bind fun OJ=>
         kn (IntKind.wrap .i64 (((V.nth fV 0).toInt)+1),b',a9,decide (((IntKind.wrap .i64 (((V.nth fV 0).toInt)-a)):Int)≥(IntKind.wrap .i64 (Int.tdiv (IntKind.wrap .i64 (b'-a)) 8))),(V.nth (fV.drop 1) 0).toBool,(V.nth OJ 0).toList)
        else
         (C gA [.int .i64 (IntKind.wrap .i64 (((V.nth fV 0).toInt)+1)),.int .i64 b',.int .i64 a9,.list aj ((V.nth (fV.drop 2) 0).toList)]).bind fun OK=>
         kn (a,(V.nth fV 0).toInt,a9,decide (((IntKind.wrap .i64 (b'-((V.nth fV 0).toInt))):Int)≥(IntKind.wrap .i64 (Int.tdiv (IntKind.wrap .i64 (b'-a)) 8))),(V.nth (fV.drop 1) 0).toBool,(V.nth OK 0).toList)
       else none
       else none
      else
       (C mM [.int .i64 a,.int .i64 b',.int .i64 bL,.list aj ja]).bind fun fW=>
       bif decide (((IntKind.wrap .i64 (((V.nth fW 0).toInt)-a)):Int)<(IntKind.wrap .i64 (b'-((V.nth fW 0).toInt)))) then
       (C gA [.int .i64 a,.int .i64 ((V.nth fW 0).toInt),.int .i64 a9,.list aj ((V.nth (fW.drop 2) 0).toList)]).bind fun OL=>
       kn (IntKind.wrap .i64 (((V.nth fW 0).toInt)+1),b',a9,decide (((IntKind.wrap .i64 (((V.nth fW 0).toInt)-a)):Int)≥(IntKind.wrap .i64 (Int.tdiv (IntKind.wrap .i64 (b'-a)) 8))),(V.nth (fW.drop 1) 0).toBool,(V.nth OL 0).toList)
       else
       (C gA [.int .i64 (IntKind.wrap .i64 (((V.nth fW 0).toInt)+1)),.int .i64 b',.int .i64 a9,.list aj ((V.nth (fW.drop 2) 0).toList)]).bind fun OM=>
       kn (a,(V.nth fW 0).toInt,a9,decide (((IntKind.wrap .i64 (b'-((V.nth fW 0).toInt))):Int)≥(IntKind.wrap .i64 (Int.tdiv (IntKind.wrap .i64 (b'-a)) 8))),(V.nth (fW.drop 1) 0).toBool,(V.nth OM 0).toList)))
    else
     ni C a b' a9 cd cx (IntKind.wrap .i64 (b'-a)) bL false gC (cI (un fun (aiD:Bool) (ON:List V)=>
      kr ON) (fun (eg:List V)=>
      bif decide ((a:Int)>0) then
      bif (decide (0≤(IntKind.wrap .i64 (a-1))))&&(decide ((IntKind.wrap .i64 (a-1))<(eg.length:Int))) then
       (eg[(IntKind.wrap .i64 (a-1):Int).toNat]?).bind fun fy=>
       bif (decide (0≤bL))&&(decide (bL<(eg.length:Int))) then
       (eg[(bL:Int).toNat]?).bind fun lf=>
       (C bp [.int .i64 ((fy.cell 0).toInt),.int .i64 ((fy.cell 1).toInt),.int .i64 ((fy.cell 2).toInt),.int .i64 ((lf.cell 0).toInt),.int .i64 ((lf.cell 1).toInt),.int .i64 ((lf.cell 2).toInt)]).bind fun OO=>
       bif !(decide ((((V.nth OO 0).toInt):Int)<0)) then
        (C sO [.int .i64 a,.int .i64 b',.int .i64 bL,.list aj eg]).bind fun De=>
        kn ((V.nth De 0).toInt,b',a9,cd,cx,(V.nth (De.drop 1) 0).toList)
       else
        (C mM [.int .i64 a,.int .i64 b',.int .i64 bL,.list aj eg]).bind fun fX=>
        bif decide (((IntKind.wrap .i64 (((V.nth fX 0).toInt)-a)):Int)<(IntKind.wrap .i64 (b'-((V.nth fX 0).toInt)))) then
        (C gA [.int .i64 a,.int .i64 ((V.nth fX 0).toInt),.int .i64 a9,.list aj ((V.nth (fX.drop 2) 0).toList)]).bind fun OP=>
        kn (IntKind.wrap .i64 (((V.nth fX 0).toInt)+1),b',a9,decide (((IntKind.wrap .i64 (((V.nth fX 0).toInt)-a)):Int)≥(IntKind.wrap .i64 (Int.tdiv (IntKind.wrap .i64 (b'-a)) 8))),(V.nth (fX.drop 1) 0).toBool,(V.nth OP 0).toList)
        else
        (C gA [.int .i64 (IntKind.wrap .i64 (((V.nth fX 0).toInt)+1)),.int .i64 b',.int .i64 a9,.list aj ((V.nth (fX.drop 2) 0).toList)]).bind fun OQ=>
        kn (a,(V.nth fX 0).toInt,a9,decide (((IntKind.wrap .i64 (b'-((V.nth fX 0).toInt))):Int)≥(IntKind.wrap .i64 (Int.tdiv (IntKind.wrap .i64 (b'-a)) 8))),(V.nth (fX.drop 1) 0).toBool,(V.nth OQ 0).toList)
       else none
      else none
      else
      (C mM [.int .i64 a,.int .i64 b',.int .i64 bL,.list aj eg]).bind fun fY=>
      bif decide (((IntKind.wrap .i64 (((V.nth fY 0).toInt)-a)):Int)<(IntKind.wrap .i64 (b'-((V.nth fY 0).toInt)))) then
       (C gA [.int .i64 a,.int .i64 ((V.nth fY 0).toInt),.int .i64 a9,.list aj ((V.nth (fY.drop 2) 0).toList)]).bind fun OR=>
       kn (IntKind.wrap .i64 (((V.nth fY 0).toInt)+1),b',a9,decide (((IntKind.wrap .i64 (((V.nth fY 0).toInt)-a)):Int)≥(IntKind.wrap .i64 (Int.tdiv (IntKind.wrap .i64 (b'-a)) 8))),(V.nth (fY.drop 1) 0).toBool,(V.nth OR 0).toList)
      else
       (C gA [.int .i64 (IntKind.wrap .i64 (((V.nth fY 0).toInt)+1)),.int .i64 b',.int .i64 a9,.list aj ((V.nth (fY.drop 2) 0).toList)]).bind fun OS=>
       kn (a,(V.nth fY 0).toInt,a9,decide (((IntKind.wrap .i64 (b'-((V.nth fY 0).toInt))):Int)≥(IntKind.wrap .i64 (Int.tdiv (IntKind.wrap .i64 (b'-a)) 8))),(V.nth (fY.drop 1) 0).toBool,(V.nth OS 0).toList)))))
noncomputable def Zk (C:ae):(Int × Int × Int × Bool × Bool × (List V))→Option ((Int × Int × Int × Bool × Bool × (List V)) ⊕ (List V)):=un fun a=>un fun b'=>un fun dU=>un fun cd=>un fun cx ab=>p5 C a b' dU cd cx ab (fun y=>some (.inl y)) (fun r=>some (.inr r))
noncomputable def Zl (C:ae):b6:=fun β n ds k=>
 bif Nat.beq n 639 then iq LR [[1,2,0,4,5,6,0]] (@yO C) ds k else
 bif Nat.beq n 911 then iq LU [[1,2,3,4,5,6,0,0,0]] (@yP C) ds k else
 bif Nat.beq n 1215 then iq LV [[1,2,3,4,5,6,7,0,0],[1,2,3,4,5,6,7,0]] (@ni C) ds k else
 bif Nat.beq n 33 then bd LW [true,true,true,true,true,true] [[0]] (@p5 C) ds k else
 none
abbrev Il (C:ae) (b:bY):Prop:=bZ Tryd.prog aq C (Zl C) 110 (cm Tryd.prog (aq.aO 110)) (aq.sin 110).aW.length b
theorem aka (C:ae):Il C (.cond 39 (an [1,1,0,0,0,1,1,1,0,1,0] mh) (an [1,1,0,0,0,1,1,1,0,1,1] mh)):=
 iT LR [[1,2,0,4,5,6,0]] (@yO C) (by kernel_rfl) (aI (bs:=[]) (by kernel_rfl) ao) (aI (bs:=[]) (by kernel_rfl) ao) (fun ds=>by kernel_rfl) (fun i β k=>by kernel_rfl) (fun β ds k=>by kernel_rfl)
theorem akb (C:ae):Il C (.cond 56 (an [1,1,0,0,0,1,1,1,1,1,0,1,0] mh) (an [1,1,0,0,0,1,1,1,1,1,0,1,1] mh)):=
 iT LU [[1,2,3,4,5,6,0,0,0]] (@yP C) (by kernel_rfl) (aI (bs:=[]) (by kernel_rfl) ao) (aI (bs:=[]) (by kernel_rfl) ao) (fun ds=>by kernel_rfl) (fun i β k=>by kernel_rfl) (fun β ds k=>by kernel_rfl)
theorem akc (C:ae):Il C (.cond 75 (an [1,1,0,0,0,1,1,1,1,1,1,0,1,0] mh) (an [1,1,0,0,0,1,1,1,1,1,1,0,1,1] mh)):=
 iT LV [[1,2,3,4,5,6,7,0,0],[1,2,3,4,5,6,7,0]] (@ni C) (by kernel_rfl) (aI (bs:=[]) (by kernel_rfl) ao) (aI (bs:=[]) (by kernel_rfl) ao) (fun ds=>by kernel_rfl) (fun i β k=>by kernel_rfl) (fun β ds k=>by kernel_rfl)
theorem akd (C:ae):Il C (.loop (an [1,1,0,0] mh)):=
 bh LW [true,true,true,true,true,true] [[0]] (@p5 C) (by kernel_rfl) (aI (bs:=[.cond 39 (an [1,1,0,0,0,1,1,1,0,1,0] mh) (an [1,1,0,0,0,1,1,1,0,1,1] mh),.cond 56 (an [1,1,0,0,0,1,1,1,1,1,0,1,0] mh) (an [1,1,0,0,0,1,1,1,1,1,0,1,1] mh),.cond 75 (an [1,1,0,0,0,1,1,1,1,1,1,0,1,0] mh) (an [1,1,0,0,0,1,1,1,1,1,1,0,1,1] mh)]) (by kernel_rfl) (aU (aka C) (aU (akb C) (aU (akc C) ao)))) (fun ds=>by kernel_rfl) (fun i x=>by kernel_rfl) (fun i x β k=>by kernel_rfl) (fun β ds k=>by kernel_rfl)
noncomputable def Zm (C:ae) (a b' dU:Int) (ab:List V):Option (List V):=
 (Loop (Zk C) (a,b',dU,true,true,ab)).bind (fun (OT:List V)=>
  some [.list aj OT])
theorem ake {a b' dU:Int} {ab:List V} {r:Option (List V)} (h:Zm CC a b' dU ab=r):CC gA [.int .i64 a,.int .i64 b',.int .i64 dU,.list aj ab]=r:=
 bf (key:=110) (L:=Zl CC) (bs:=[.loop (an [1,1,0,0] mh)]) (by kernel_rfl) (aU (akd CC) ao) (Eq.trans (by kernel_rfl) h)
noncomputable def Zn (C:ae) (xs:List V):Option (List V):=
 (C w5 [.int .u64 (IntKind.wrap .u64 (xs.length:Int))]).bind fun r1=>
 (C gA [.int .i64 0,.int .i64 (xs.length:Int),.int .i64 ((V.nth r1 0).toInt),.list aj xs]).bind fun r2=>
 some [.list aj ((V.nth r2 0).toList)]
theorem akf {xs:List V} {r:Option (List V)} (h:Zn CC xs=r):CC KK [.list aj xs]=r:=
 bf (key:=168) (L:=dq) (bs:=[]) (by kernel_rfl) ao (Eq.trans (by kernel_rfl) h)
end Go.AM
set_option maxRecDepth 100000
set_option maxHeartbeats 4000000
namespace Go.AM
open Go.Proofs Go.Sort
theorem Dg (a b:Ed):(ag a b=true)=(a.lt b):=by rw[jV,propext (xo a b)]
theorem td (a b:Ed):(ag a b=false)= ¬(a.lt b):=by rw[←Dg];simp
theorem nd:SWO ag where
 irrefl x:=by rw[td];unfold Ed.lt;omega
 trans x y z:=by simp only[Dg];unfold Ed.lt;omega
 ntrans x y z:=by simp only[td];unfold Ed.lt;omega
def rN:List UInt8:=([0,1,2,2,3,3,3,3,4,4,4,4,4,4,4,4,5,5,5,5,5,5,5,5,5,5,5,5,5,5,5,5,6,6,6,6,6,6,6,6,6,6,6,6,6,6,6,6,6,6,6,6,6,6,6,6,6,6,6,6,6,6,6,6,7,7,7,7,7,7,7,7,7,7,7,7,7,7,7,7,7,7,7,7,7,7,7,7,7,7,7,7,7,7,7,7,7,7,7,7,7,7,7,7,7,7,7,7,7,7,7,7,7,7,7,7,7,7,7,7,7,7,7,7,7,7,7,7,8,8,8,8,8,8,8,8,8,8,8,8,8,8,8,8,8,8,8,8,8,8,8,8,8,8,8,8,8,8,8,8,8,8,8,8,8,8,8,8,8,8,8,8,8,8,8,8,8,8,8,8,8,8,8,8,8,8,8,8,8,8,8,8,8,8,8,8,8,8,8,8,8,8,8,8,8,8,8,8,8,8,8,8,8,8,8,8,8,8,8,8,8,8,8,8,8,8,8,8,8,8,8,8,8,8,8,8,8,8,8,8,8,8,8,8,8,8,8,8,8,8,8,8,8,8,8,8]:List UInt8)
theorem OU:(List.range 256).all (fun y=>match rN[y]? with|some b=>decide (b.toNat≤8)&&(Nat.beq y 0||(decide (1≤b.toNat)&&decide (2^(b.toNat-1)≤y)))|none=>false)=true:=by decide+kernel
theorem Dh {y:Nat} (h:y<256): ∃b,rN[y]? =some b∧b.toNat≤8∧(0<y→1≤b.toNat∧2^(b.toNat-1)≤y):=by
 have:=List.all_eq_true.1 OU y (List.mem_range.2 h)
 cases hb:rN[y]? with
 | none=>rw[hb] at this;cases this
 | some b=>
  rw[hb] at this
  simp only[Bool.and_eq_true,Bool.or_eq_true,decide_eq_true_eq] at this
  refine ⟨b,rfl,this.1,fun hy=> ?_⟩
  rcases this.2 with h2|h2
  ·have:=Nat.eq_of_beq_eq_true h2;omega
  ·exact h2
theorem vl {y t k:Nat} (h:2^(t-1)≤y/2^k) (ht:1≤t):2^(t+k-1)≤y:=by
 have e:t+k-1=(t-1)+k:=by omega
 rw[e,Nat.pow_add]
 exact Nat.le_trans (Nat.mul_le_mul_right _ h) (Nat.div_mul_le_self _ _)
noncomputable def nf (y n:Int):Option (List V):=
(bif decide ((y:Int)≥256) then
    (bif decide (0≤(IntKind.wrap .u8 (Int.fdiv y (2^(min (8:Int).toNat (IntKind.bits .u64)))))) then (([0,1,2,2,3,3,3,3,4,4,4,4,4,4,4,4,5,5,5,5,5,5,5,5,5,5,5,5,5,5,5,5,6,6,6,6,6,6,6,6,6,6,6,6,6,6,6,6,6,6,6,6,6,6,6,6,6,6,6,6,6,6,6,6,7,7,7,7,7,7,7,7,7,7,7,7,7,7,7,7,7,7,7,7,7,7,7,7,7,7,7,7,7,7,7,7,7,7,7,7,7,7,7,7,7,7,7,7,7,7,7,7,7,7,7,7,7,7,7,7,7,7,7,7,7,7,7,7,8,8,8,8,8,8,8,8,8,8,8,8,8,8,8,8,8,8,8,8,8,8,8,8,8,8,8,8,8,8,8,8,8,8,8,8,8,8,8,8,8,8,8,8,8,8,8,8,8,8,8,8,8,8,8,8,8,8,8,8,8,8,8,8,8,8,8,8,8,8,8,8,8,8,8,8,8,8,8,8,8,8,8,8,8,8,8,8,8,8,8,8,8,8,8,8,8,8,8,8,8,8,8,8,8,8,8,8,8,8,8,8,8,8,8,8,8,8,8,8,8,8,8,8,8,8,8,8]:List UInt8)[(IntKind.wrap .u8 (Int.fdiv y (2^(min (8:Int).toNat (IntKind.bits .u64)))):Int).toNat]?).map fun b=>V.int .u8 b.toNat else none).bind fun x5=>
    some [V.int .i64 (IntKind.wrap .i64 ((IntKind.wrap .i64 (n+8))+(IntKind.wrap .i64 x5.toInt)))]
   else
    (bif decide (0≤(IntKind.wrap .u8 y)) then (([0,1,2,2,3,3,3,3,4,4,4,4,4,4,4,4,5,5,5,5,5,5,5,5,5,5,5,5,5,5,5,5,6,6,6,6,6,6,6,6,6,6,6,6,6,6,6,6,6,6,6,6,6,6,6,6,6,6,6,6,6,6,6,6,7,7,7,7,7,7,7,7,7,7,7,7,7,7,7,7,7,7,7,7,7,7,7,7,7,7,7,7,7,7,7,7,7,7,7,7,7,7,7,7,7,7,7,7,7,7,7,7,7,7,7,7,7,7,7,7,7,7,7,7,7,7,7,7,8,8,8,8,8,8,8,8,8,8,8,8,8,8,8,8,8,8,8,8,8,8,8,8,8,8,8,8,8,8,8,8,8,8,8,8,8,8,8,8,8,8,8,8,8,8,8,8,8,8,8,8,8,8,8,8,8,8,8,8,8,8,8,8,8,8,8,8,8,8,8,8,8,8,8,8,8,8,8,8,8,8,8,8,8,8,8,8,8,8,8,8,8,8,8,8,8,8,8,8,8,8,8,8,8,8,8,8,8,8,8,8,8,8,8,8,8,8,8,8,8,8,8,8,8,8,8,8]:List UInt8)[(IntKind.wrap .u8 y:Int).toNat]?).map fun b=>V.int .u8 b.toNat else none).bind fun x6=>
    some [V.int .i64 (IntKind.wrap .i64 (n+(IntKind.wrap .i64 x6.toInt)))])
theorem OV {x:Nat} (h:x<2^64): ∃L:Nat,CC AL [.int .u64 (x:Int)]=some [.int .i64 (L:Int)]∧L≤64∧(0<x→1≤L∧2^(L-1)≤x):=by
 have last: ∀y n:Nat,y<65536→n≤48→∃t:Nat,
   nf (y:Int) (n:Int)=some [V.int .i64 ((n+t:Nat):Int)]∧t≤16∧(0<y→1≤t∧2^(t-1)≤y):=by
  intro y n hy hn
  unfold nf
  rw[show ([0,1,2,2,3,3,3,3,4,4,4,4,4,4,4,4,5,5,5,5,5,5,5,5,5,5,5,5,5,5,5,5,6,6,6,6,6,6,6,6,6,6,6,6,6,6,6,6,6,6,6,6,6,6,6,6,6,6,6,6,6,6,6,6,7,7,7,7,7,7,7,7,7,7,7,7,7,7,7,7,7,7,7,7,7,7,7,7,7,7,7,7,7,7,7,7,7,7,7,7,7,7,7,7,7,7,7,7,7,7,7,7,7,7,7,7,7,7,7,7,7,7,7,7,7,7,7,7,8,8,8,8,8,8,8,8,8,8,8,8,8,8,8,8,8,8,8,8,8,8,8,8,8,8,8,8,8,8,8,8,8,8,8,8,8,8,8,8,8,8,8,8,8,8,8,8,8,8,8,8,8,8,8,8,8,8,8,8,8,8,8,8,8,8,8,8,8,8,8,8,8,8,8,8,8,8,8,8,8,8,8,8,8,8,8,8,8,8,8,8,8,8,8,8,8,8,8,8,8,8,8,8,8,8,8,8,8,8,8,8,8,8,8,8,8,8,8,8,8,8,8,8,8,8,8,8]:List UInt8)=rN from rfl]
  by_cases h1:y≥256
  ·have e:Int.fdiv (y:Int) (2^(min (8:Int).toNat (IntKind.bits .u64)))=((y/2^8:Nat):Int):=uP (m:=8) (by omega)
   obtain ⟨b,hb,b1,b2⟩:=Dh (y:=y/2^8) (by omega)
   refine ⟨b.toNat+8,?_,by omega,fun _=> ?_⟩
   ·rw[e,ar,if_pos (by omega),Ap (by omega) (by omega),ar,if_pos (by omega),Int.toNat_natCast,hb]
    simp only[Option.map_some,Option.bind_some,V.toInt_int]
    simp (disch:=omega) only[wrap64]
    congr 3
    omega
   ·obtain ⟨b3,b4⟩:=b2 (by omega)
    exact ⟨by omega,vl b4 b3⟩
  ·obtain ⟨b,hb,b1,b2⟩:=Dh (y:=y) (by omega)
   refine ⟨b.toNat,?_,by omega,b2⟩
   rw[ar,if_neg (by omega),Ap (by omega) (by omega),ar,if_pos (by omega),Int.toNat_natCast,hb]
   simp (disch:=omega) only[Option.map_some,Option.bind_some,V.toInt_int,wrap64]
   congr 3
 have mid: ∀y n:Nat,y<4294967296→n≤32→∃t:Nat,∀F:Int→Int→Option (List V),
   (∀y n:Nat,y<65536→n≤48→∃t:Nat,F (y:Int) (n:Int)=some [V.int .i64 ((n+t:Nat):Int)]∧t≤16∧(0<y→1≤t∧2^(t-1)≤y))→
   ∃t:Nat,oO CC (y:Int) (n:Int) (decide (((y:Int):Int)≥65536)) (un F)=some [V.int .i64 ((n+t:Nat):Int)]∧t≤32∧(0<y→1≤t∧2^(t-1)≤y):=by
  intro y n hy hn
  refine ⟨0,fun F hF=> ?_⟩
  unfold oO
  by_cases h1:y≥65536
  ·have e:Int.fdiv (y:Int) (2^(min (16:Int).toNat (IntKind.bits .u64)))=((y/2^16:Nat):Int):=uP (m:=16) (by omega)
   rw[ar,if_pos (by omega),e,wrap64 (by omega) (by omega)]
   obtain ⟨t,h2,h3,h4⟩:=hF (y/2^16) (n+16) (by omega) (by omega)
   refine ⟨t+16,?_,by omega,fun _=> ?_⟩
   ·rw[show ((n:Int)+16)=((n+16:Nat):Int) by omega]
    simp only[un]
    rw[h2]
    congr 3
    omega
   ·obtain ⟨b3,b4⟩:=h4 (by omega)
    exact ⟨by omega,vl b4 b3⟩
  ·rw[ar,if_neg (by omega)]
   obtain ⟨t,h2,h3,h4⟩:=hF y n (by omega) (by omega)
   exact ⟨t,h2,by omega,h4⟩
 by_cases h1:x≥4294967296
 ·have e:Int.fdiv (x:Int) (2^(min (32:Int).toNat (IntKind.bits .u64)))=((x/2^32:Nat):Int):=uP (m:=32) (by omega)
  obtain ⟨_,hm⟩:=mid (x/2^32) 32 (by omega) (by omega)
  obtain ⟨t,h2,h3,h4⟩:=hm nf last
  refine ⟨32+t,H5 ?_,by omega,fun _=> ?_⟩
  ·show oN CC (x:Int) 0 (decide (((x:Int):Int)≥4294967296)) (un fun (mf:Int) (dB:Int)=>oO CC mf dB (decide ((mf:Int)≥65536)) (un nf))=_
   unfold oN
   rw[ar,if_pos (by omega),e]
   exact h2
  ·obtain ⟨b3,b4⟩:=h4 (by omega)
   rw[Nat.add_comm 32 t]
   exact ⟨by omega,vl b4 b3⟩
 ·obtain ⟨_,hm⟩:=mid x 0 (by omega) (by omega)
  obtain ⟨t,h2,h3,h4⟩:=hm nf last
  refine ⟨t,H5 ?_,by omega,h4⟩
  show oN CC (x:Int) 0 (decide (((x:Int):Int)≥4294967296)) (un fun (mf:Int) (dB:Int)=>oO CC mf dB (decide ((mf:Int)≥65536)) (un nf))=_
  unfold oN
  rw[ar,if_neg (by omega)]
  rw[Nat.zero_add] at h2
  exact h2
theorem H7 {x:Nat} (h:x<2^64): ∃L:Nat,CC w5 [.int .u64 (x:Int)]=some [.int .i64 (L:Int)]∧L≤64∧(0<x→1≤L∧2^(L-1)≤x):=by
 obtain ⟨L,h1,h2⟩:=OV h
 refine ⟨L,Yf ?_,h2⟩
 unfold OF
 rw[h1]
 rfl
theorem OW {x:Nat} (h0:0<x) (h:x<1152921504606846976): ∃M:Nat,CC xb [.int .i64 (x:Int)]=some [.int .u64 (M:Int)]∧1≤M∧M≤2*x:=by
 obtain ⟨L,h1,h2,h3⟩:=H7 (x:=x) (by omega)
 obtain ⟨h4,h5⟩:=h3 h0
 have e:2^L=2*2^(L-1):=by
  obtain ⟨k,rfl⟩: ∃k,L=k+1:=⟨L-1,by omega⟩
  rw[Nat.pow_succ];simp only[Nat.add_sub_cancel];omega
 have hL:L<64:=by
  by_cases hx:L<64
  ·exact hx
  ·have:2^63≤2^(L-1):=Nat.pow_le_pow_right (by omega) (by omega)
   omega
 refine ⟨2^L,Ye ?_,Nat.pos_of_ne_zero (by simp),by omega⟩
 unfold OE
 rw[pF (A:=x) (by omega),h1]
 simp only[Option.bind_some,V.ba,V.toInt_int]
 rw[ar,if_pos (by omega),Int.toNat_natCast,uO hL]
theorem OX (r:Int): ∃R:Nat,CC xc [.int .u64 r]=some [.int .u64 (R:Int),.int .u64 (R:Int)]∧R<2^64:=by
 have h: ∀n:Int,∃R:Nat,IntKind.wrap .u64 n=(R:Int)∧R<2^64:=fun n=>⟨(IntKind.wrap .u64 n).toNat,by rw[wrap_u64];omega,by rw[wrap_u64];omega⟩
 obtain ⟨R,h1,h2⟩:=h _
 exact ⟨R,Yd (by unfold OD;rw[h1]),h2⟩
theorem rO {d:Array Ed} {i:Nat} (h:i<d.size):idx (eA d) (i:Int)=some (d[i]!).enc:=by rw[Aq,cU h]
theorem vm {d:Array Ed} {a b:Nat} {s:Int} (ha:a<d.size) (hb:b<d.size): ∃(x y:Nat) (s':Int),CC uG [.list aj (eA d),.int .i64 (a:Int),.int .i64 (b:Int),.int .i64 s]=some [.int .i64 (x:Int),.int .i64 (y:Int),.int .i64 s']∧(x=a∧y=b∨x=b∧y=a):=by
 by_cases h:aR d[b]! d[a]! <0
 ·refine ⟨b,a,_,Zf (by unfold PK;rw[rO hb,rO ha];simp only[Option.bind_some,Ed.bR,Ed.bS,Ed.bU,gB,V.ba,V.toInt_int];rw[ar,if_pos h]),.inr ⟨rfl,rfl⟩⟩
 ·refine ⟨a,b,_,Zf (by unfold PK;rw[rO hb,rO ha];simp only[Option.bind_some,Ed.bR,Ed.bS,Ed.bU,gB,V.ba,V.toInt_int];rw[ar,if_neg h]),.inl ⟨rfl,rfl⟩⟩
theorem vn {d:Array Ed} {a b c:Nat} {s:Int} (ha:a<d.size) (hb:b<d.size) (hc:c<d.size): ∃(m:Nat) (s':Int),CC xd [.list aj (eA d),.int .i64 (a:Int),.int .i64 (b:Int),.int .i64 (c:Int),.int .i64 s]=some [.int .i64 (m:Int),.int .i64 s']∧(m=a∨m=b∨m=c):=by
 obtain ⟨x1,y1,s1,e1,o1⟩:=vm (s:=s) ha hb
 obtain ⟨x2,y2,s2,e2,o2⟩:=vm (d:=d) (a:=y1) (b:=c) (s:=s1) (by omega) hc
 obtain ⟨x3,y3,s3,e3,o3⟩:=vm (d:=d) (a:=x1) (b:=x2) (s:=s2) (by omega) (by omega)
 refine ⟨y3,s3,aj5 ?_,by omega⟩
 unfold Ze
 rw[e1]
 simp only[Option.bind_some,V.ba,V.ju,V.toInt_int,List.drop_succ_cons,List.drop_zero]
 rw[e2]
 simp only[Option.bind_some,V.ba,V.ju,V.toInt_int,List.drop_succ_cons,List.drop_zero]
 rw[e3]
 rfl
theorem vo {d:Array Ed} {a:Nat} {s:Int} (h1:1≤a) (ha:a+1<d.size) (hs:d.size<1152921504606846976): ∃(m:Nat) (s':Int),CC uF [.list aj (eA d),.int .i64 (a:Int),.int .i64 s]=some [.int .i64 (m:Int),.int .i64 s']∧a≤m+1∧m≤a+1:=by
 obtain ⟨m,s',e,o⟩:=vn (d:=d) (a:=a-1) (b:=a) (c:=a+1) (s:=s) (by omega) (by omega) (by omega)
 refine ⟨m,s',aj6 ?_,by omega,by omega⟩
 unfold Zg
 simp (disch:=omega) only[eJ,bK,wrap64]
 rw[e]
 rfl
theorem vp (n:Nat):Int.tdiv (n:Int) 4=((n/4:Nat):Int):=by
 have:=divC n 4
 exact this
theorem mulC (k n:Nat):((k:Nat):Int)*(n:Int)=((k*n:Nat):Int):=(Int.natCast_mul k n).symm
theorem OY {d:Array Ed} {a b:Nat} (cP:a+12<b) (hb:b≤d.size) (hs:d.size<1152921504606846976): ∃(p:Nat) (h:Int),CC w8 [.list aj (eA d),.int .i64 (a:Int),.int .i64 (b:Int)]=some [.int .i64 (p:Int),.int .i64 h]∧a≤p∧p<b:=by
 have fin: ∀(p:Nat) (s:Int),∃h:Int,(bif (s:Int)==0 then some [V.int .i64 (p:Int),V.int .i64 1] else bif (s:Int)==12 then some [V.int .i64 (p:Int),V.int .i64 2] else some [V.int .i64 (p:Int),V.int .i64 0])=some [V.int .i64 (p:Int),V.int .i64 h]:=by
  intro p s
  rw[km]
  split
  ·exact ⟨1,rfl⟩
  ·rw[km]
   split
   ·exact ⟨2,rfl⟩
   ·exact ⟨0,rfl⟩
 have e1:IntKind.wrap .i64 ((b:Int)-(a:Int))=((b-a:Nat):Int):=by rw[fE (by omega),wrap64 (by omega) (by omega)]
 have e2:IntKind.wrap .i64 (Int.tdiv ((b-a:Nat):Int) 4)=(((b-a)/4:Nat):Int):=by rw[vp,wrap64 (by omega) (by omega)]
 have e3: ∀k:Nat,k≤3→IntKind.wrap .i64 ((a:Int)+IntKind.wrap .i64 ((k:Int)*(((b-a)/4:Nat):Int)))=((a+k*((b-a)/4):Nat):Int):=by
  intro k hk
  have qG:k*((b-a)/4)≤3*((b-a)/4):=Nat.mul_le_mul_right _ hk
  simp (disch:=omega) only[mulC,wrap64,cT]
 have vq:=e3 1 (by omega)
 have jW:=e3 2 (by omega)
 have vr:=e3 3 (by omega)
 rw[show ((1:Nat):Int)=1 from rfl] at vq
 rw[show ((2:Nat):Int)=2 from rfl] at jW
 rw[show ((3:Nat):Int)=3 from rfl] at vr
 by_cases h50:b-a≥50
 ·obtain ⟨m1,s1,q1,r1⟩:=vo (d:=d) (a:=a+1*((b-a)/4)) (s:=0) (by omega) (by omega) hs
  obtain ⟨m2,s2,q2,r2⟩:=vo (d:=d) (a:=a+2*((b-a)/4)) (s:=s1) (by omega) (by omega) hs
  obtain ⟨m3,s3,q3,r3⟩:=vo (d:=d) (a:=a+3*((b-a)/4)) (s:=s2) (by omega) (by omega) hs
  obtain ⟨m,s,q,r⟩:=vn (d:=d) (a:=m1) (b:=m2) (c:=m3) (s:=s3) (by omega) (by omega) (by omega)
  obtain ⟨h,hf⟩:=fin m s
  refine ⟨m,h,Zd ?_,by omega,by omega⟩
  unfold PJ DS DR
  rw[e1,e2,vq,jW,vr,gp (by omega),cond_true,gp (by omega),cond_true,q1]
  simp only[Option.bind_some,V.ba,V.ju,V.toInt_int,List.drop_succ_cons,List.drop_zero]
  rw[q2]
  simp only[Option.bind_some,V.ba,V.ju,V.toInt_int,List.drop_succ_cons,List.drop_zero]
  rw[q3]
  simp only[Option.bind_some,V.ba,V.ju,V.toInt_int,List.drop_succ_cons,List.drop_zero,un]
  rw[q]
  exact hf
 ·obtain ⟨m,s,q,r⟩:=vn (d:=d) (a:=a+1*((b-a)/4)) (b:=a+2*((b-a)/4)) (c:=a+3*((b-a)/4)) (s:=0) (by omega) (by omega) (by omega)
  obtain ⟨h,hf⟩:=fin m s
  refine ⟨m,h,Zd ?_,by omega,by omega⟩
  unfold PJ DS DR
  rw[e1,e2,vq,jW,vr,gp (by omega),cond_true,jS (by omega),cond_false]
  simp only[un]
  rw[q]
  exact hf
theorem OZ {a b M:Nat} (O0:1≤M) (hM:M≤2*(b-a)) (h8:8≤b-a) (hB:b<1152921504606846976): ∀(n i:Nat) (d:Array Ed) (r:Int),a+2*((b-a)/4)+2-i=n→a≤i→b≤d.size→d.size<1152921504606846976→
  ∃x y z R,Loop (Ik CC a (b-a:Nat) M) ((i:Int),eA d,r)=some (x,y,eA R,z)∧PermIn a b d R:=by
 have e2:IntKind.wrap .i64 (Int.tdiv ((b-a:Nat):Int) 4)=(((b-a)/4:Nat):Int):=by rw[vp,wrap64 (by omega) (by omega)]
 have jW:IntKind.wrap .i64 ((a:Int)+IntKind.wrap .i64 (2*(((b-a)/4:Nat):Int)))=((a+2*((b-a)/4):Nat):Int):=by
  have:=mulC 2 ((b-a)/4)
  rw[show ((2:Nat):Int)=2 from rfl] at this
  rw[this]
  simp (disch:=omega) only[wrap64,cT]
 intro n
 induction n with
 | zero=>
  intro i d r hn hi hb hs
  refine ⟨(i:Int),false,r,d,aZ ?_,permIn_refl _ _ _⟩
  simp only[Ik,DT,un]
  rw[e2,jW,bK,wrap64 (by omega) (by omega),jS (by omega),cond_false]
 | succ n ih=>
  intro i d r hn hi hb hs
  obtain ⟨R1,q1,q2⟩:=OX r
  obtain ⟨o,ho,mw⟩: ∃o:Nat,(o=if R1&&&(M-1)≥b-a then (R1&&&(M-1))-(b-a) else R1&&&(M-1))∧o<b-a:=by
   refine ⟨_,rfl,?_⟩
   have:R1&&&(M-1)≤M-1:=Nat.and_le_right
   split<;>omega
  have hand:R1&&&(M-1)≤M-1:=Nat.and_le_right
  have hP:=swp_permIn (α:=Ed) d a b i (a+o) hi (by omega) (by omega) (by omega) hb
  obtain ⟨x,y,z,R,e,hR⟩:=ih (i+1) (swp d i (a+o)) (R1:Int) (by omega) (by omega) (by rw[size_swp];exact hb) (by rw[size_swp];exact hs)
  refine ⟨x,y,z,R,(cF ?_).trans e,permIn_trans _ _ _ a b hP hR⟩
  simp only[Ik,DT,un]
  rw[e2,jW,bK,wrap64 (x:=((a+2*((b-a)/4)+1:Nat):Int)) (by omega) (by omega),gp (by omega),cond_true,q1]
  simp only[Option.bind_some,V.ba,V.ju,V.toInt_int,List.drop_succ_cons,List.drop_zero]
  have e5:IntKind.wrap .u64 ((M:Int)-1)=((M-1:Nat):Int):=by rw[eJ O0,pF (by omega)]
  rw[e5,u64_and q2 (by omega),wrap64 (x:=((R1&&&(M-1):Nat):Int)) (by omega) (by omega)]
  have fin: ∀k:Int,k=(o:Int)→(bif (decide (0≤(IntKind.wrap .i64 ((a:Int)+k))))&&(decide ((IntKind.wrap .i64 ((a:Int)+k))<((eA d).length:Int))) then
   ((eA d)[(IntKind.wrap .i64 ((a:Int)+k):Int).toNat]?).bind fun x4=>
   bif (decide (0≤(i:Int)))&&(decide ((i:Int)<((eA d).length:Int))) then
    ((eA d)[((i:Int):Int).toNat]?).bind fun x5=>
    bif (decide (0≤(i:Int)))&&(decide ((i:Int)<((eA d).length:Int))) then
    ((eA d)[((i:Int):Int).toNat]?).bind fun x6=>
    bif (decide (0≤(IntKind.wrap .i64 ((a:Int)+k))))&&(decide ((IntKind.wrap .i64 ((a:Int)+k))<(((eA d).set (((i:Int):Int).toNat) (.agg [.int .i64 ((x4.cell 0).toInt),.int .i64 ((x4.cell 1).toInt),.int .i64 ((x4.cell 2).toInt)])).length:Int))) then
     (((eA d).set (((i:Int):Int).toNat) (.agg [.int .i64 ((x4.cell 0).toInt),.int .i64 ((x4.cell 1).toInt),.int .i64 ((x4.cell 2).toInt)]))[(IntKind.wrap .i64 ((a:Int)+k):Int).toNat]?).bind fun x7=>
     some (.inl (IntKind.wrap .i64 ((i:Int)+1),((eA d).set (((i:Int):Int).toNat) (.agg [.int .i64 ((x4.cell 0).toInt),.int .i64 ((x4.cell 1).toInt),.int .i64 ((x4.cell 2).toInt)])).set ((IntKind.wrap .i64 ((a:Int)+k):Int).toNat) (.agg [.int .i64 ((x5.cell 0).toInt),.int .i64 ((x5.cell 1).toInt),.int .i64 ((x5.cell 2).toInt)]),(R1:Int)))
    else none
    else none
   else none
   else none:Option ((Int × List V × Int) ⊕ (Int × Bool × List V × Int)))=some (.inl (((i+1:Nat):Int),eA (swp d i (a+o)),(R1:Int))):=by
   intro k hk
   subst hk
   simp (disch:=omega) only[ar,cl,dp,if_pos,if_neg,wrap64,bK,cT,Int.toNat_natCast,Option.bind_some,cR,cU,Ed.bR,Ed.bS,Ed.bU,Ed.re,cS,dC,Array.size_setIfInBounds,gB,V.ba,V.toInt_int,cond_true,cond_false]
   rfl
  unfold Ij
  by_cases h:R1&&&(M-1)≥b-a
  ·rw[if_pos h] at ho
   rw[gp (by omega),cond_true]
   exact fin _ (by rw[fE (by omega),wrap64 (by omega) (by omega)];omega)
  ·rw[if_neg h] at ho
   rw[jS (by omega),cond_false]
   exact fin _ (by omega)
theorem O1 {a b:Nat} {d:Array Ed} (cP:a+12<b) (hb:b≤d.size) (hs:d.size<1152921504606846976): ∃R,CC AI [.int .i64 (a:Int),.int .i64 (b:Int),.list aj (eA d)]=some [.list aj (eA R)]∧PermIn a b d R:=by
 obtain ⟨M,q1,q2,q3⟩:=OW (x:=b-a) (by omega) (by omega)
 have e1:IntKind.wrap .i64 ((b:Int)-(a:Int))=((b-a:Nat):Int):=by rw[fE (by omega),wrap64 (by omega) (by omega)]
 have e2:IntKind.wrap .i64 (Int.tdiv ((b-a:Nat):Int) 4)=(((b-a)/4:Nat):Int):=by rw[vp,wrap64 (by omega) (by omega)]
 have jW:IntKind.wrap .i64 ((a:Int)+IntKind.wrap .i64 (2*(((b-a)/4:Nat):Int)))=((a+2*((b-a)/4):Nat):Int):=by
  have:=mulC 2 ((b-a)/4)
  rw[show ((2:Nat):Int)=2 from rfl] at this
  rw[this]
  simp (disch:=omega) only[wrap64,cT]
 obtain ⟨x,y,z,R,e,hR⟩:=OZ (a:=a) (b:=b) (M:=M) q2 q3 (by omega) (by omega) _ (a+2*((b-a)/4)-1) d (IntKind.wrap .u64 ((b-a:Nat):Int)) rfl (by omega) hb hs
 refine ⟨R,aj9 ?_,hR⟩
 unfold Zj
 rw[e1,ar,if_pos (by omega),q1]
 simp only[Option.bind_some,V.ba,V.toInt_int]
 rw[e2,jW,eJ (by omega),wrap64 (x:=((a+2*((b-a)/4)-1:Nat):Int)) (by omega) (by omega),e]
 rfl
noncomputable def jX (C:ae) (a b':Int) (cd cx:Bool) (a9 bL:Int) (fx:List V) {β:Type} (kn:(Int × Int × Int × Bool × Bool × (List V))→Option β):Option β:=
      bif decide ((a:Int)>0) then
       bif (decide (0≤(IntKind.wrap .i64 (a-1))))&&(decide ((IntKind.wrap .i64 (a-1))<(fx.length:Int))) then
       (fx[(IntKind.wrap .i64 (a-1):Int).toNat]?).bind fun dW=>
       bif (decide (0≤bL))&&(decide (bL<(fx.length:Int))) then
        (fx[(bL:Int).toNat]?).bind fun gD=>
        (C bp [.int .i64 ((dW.cell 0).toInt),.int .i64 ((dW.cell 1).toInt),.int .i64 ((dW.cell 2).toInt),.int .i64 ((gD.cell 0).toInt),.int .i64 ((gD.cell 1).toInt),.int .i64 ((gD.cell 2).toInt)]).bind fun jv=>
        bif !(decide ((((V.nth jv 0).toInt):Int)<0)) then
        (C sO [.int .i64 a,.int .i64 b',.int .i64 bL,.list aj fx]).bind fun jR=>
        kn ((V.nth jR 0).toInt,b',a9,cd,cx,(V.nth (jR.drop 1) 0).toList)
        else
        (C mM [.int .i64 a,.int .i64 b',.int .i64 bL,.list aj fx]).bind fun cb=>
        bif decide (((IntKind.wrap .i64 (((V.nth cb 0).toInt)-a)):Int)<(IntKind.wrap .i64 (b'-((V.nth cb 0).toInt)))) then
         (C gA [.int .i64 a,.int .i64 ((V.nth cb 0).toInt),.int .i64 a9,.list aj ((V.nth (cb.drop 2) 0).toList)]).bind fun lk=>
         kn (IntKind.wrap .i64 (((V.nth cb 0).toInt)+1),b',a9,decide (((IntKind.wrap .i64 (((V.nth cb 0).toInt)-a)):Int)≥(IntKind.wrap .i64 (Int.tdiv (IntKind.wrap .i64 (b'-a)) 8))),(V.nth (cb.drop 1) 0).toBool,(V.nth lk 0).toList)
        else
         (C gA [.int .i64 (IntKind.wrap .i64 (((V.nth cb 0).toInt)+1)),.int .i64 b',.int .i64 a9,.list aj ((V.nth (cb.drop 2) 0).toList)]).bind fun dz=>
         kn (a,(V.nth cb 0).toInt,a9,decide (((IntKind.wrap .i64 (b'-((V.nth cb 0).toInt))):Int)≥(IntKind.wrap .i64 (Int.tdiv (IntKind.wrap .i64 (b'-a)) 8))),(V.nth (cb.drop 1) 0).toBool,(V.nth dz 0).toList)
       else none
       else none
      else
       (C mM [.int .i64 a,.int .i64 b',.int .i64 bL,.list aj fx]).bind fun dv=>
       bif decide (((IntKind.wrap .i64 (((V.nth dv 0).toInt)-a)):Int)<(IntKind.wrap .i64 (b'-((V.nth dv 0).toInt)))) then
       (C gA [.int .i64 a,.int .i64 ((V.nth dv 0).toInt),.int .i64 a9,.list aj ((V.nth (dv.drop 2) 0).toList)]).bind fun nc=>
       kn (IntKind.wrap .i64 (((V.nth dv 0).toInt)+1),b',a9,decide (((IntKind.wrap .i64 (((V.nth dv 0).toInt)-a)):Int)≥(IntKind.wrap .i64 (Int.tdiv (IntKind.wrap .i64 (b'-a)) 8))),(V.nth (dv.drop 1) 0).toBool,(V.nth nc 0).toList)
       else
       (C gA [.int .i64 (IntKind.wrap .i64 (((V.nth dv 0).toInt)+1)),.int .i64 b',.int .i64 a9,.list aj ((V.nth (dv.drop 2) 0).toList)]).bind fun ew=>
       kn (a,(V.nth dv 0).toInt,a9,decide (((IntKind.wrap .i64 (b'-((V.nth dv 0).toInt))):Int)≥(IntKind.wrap .i64 (Int.tdiv (IntKind.wrap .i64 (b'-a)) 8))),(V.nth (dv.drop 1) 0).toBool,(V.nth ew 0).toList)
theorem rP (C:ae) (a b' dU:Int) (cd cx:Bool) (ab:List V) {β:Type} (kn:(Int × Int × Int × Bool × Bool × (List V))→Option β) (kr:(List V)→Option β):
  p5 C a b' dU cd cx ab kn kr=
 bif decide (((IntKind.wrap .i64 (b'-a)):Int)≤12) then
  (C w6 [.int .i64 a,.int .i64 b',.list aj ab]).bind fun r1=>
  kr ((V.nth r1 0).toList)
 else
  bif (dU:Int)==0 then
  (C w7 [.int .i64 a,.int .i64 b',.list aj ab]).bind fun r2=>
  kr ((V.nth r2 0).toList)
  else
  yO C a b' dU cd cx (IntKind.wrap .i64 (b'-a)) (!cd) ab (un fun (a9:Int) (oP:List V)=>
   (C w8 [.list aj oP,.int .i64 a,.int .i64 b']).bind fun r6=>
   yP C a b' a9 cd cx (IntKind.wrap .i64 (b'-a)) ((V.nth r6 0).toInt) ((V.nth (r6.drop 1) 0).toInt) ((((V.nth (r6.drop 1) 0).toInt):Int)==2) oP (un fun (bL:Int)=>un fun (vk:Int) (gC:List V)=>
    bif cd then
     bif cx then
     ni C a b' a9 cd cx (IntKind.wrap .i64 (b'-a)) bL ((vk:Int)==1) gC (cI (un fun (HK:Bool) (vu:List V)=>
      kr vu) (fun (fx:List V)=>jX C a b' cd cx a9 bL fx kn))
     else
     ni C a b' a9 cd cx (IntKind.wrap .i64 (b'-a)) bL false gC (cI (un fun (aiJ:Bool) (O2:List V)=>
      kr O2) (fun (O3:List V)=>jX C a b' cd cx a9 bL O3 kn))
    else
     ni C a b' a9 cd cx (IntKind.wrap .i64 (b'-a)) bL false gC (cI (un fun (aiK:Bool) (O4:List V)=>
      kr O4) (fun (O5:List V)=>jX C a b' cd cx a9 bL O5 kn)))):=rfl
section
variable {a b:Nat} {lim:Int} {wb wp:Bool}
theorem O6 {d:Array Ed} (cP:a+12<b) (hb:b≤d.size) (hs:d.size<1152921504606846976) (len:Int) (t:Bool): ∃(l1:Int) (d1:Array Ed),PermIn a b d d1∧∀(β:Type) (kr:(Int × List V)→Option β),yO CC a b lim wb wp len t (eA d) kr=kr (l1,eA d1):=by
 cases t with
 | true=>
  obtain ⟨R,e,hR⟩:=O1 cP hb hs
  refine ⟨IntKind.wrap .i64 (lim-1),R,hR,fun β kr=> ?_⟩
  unfold yO
  rw[cond_true,e]
  rfl
 | false=>exact ⟨lim,d,permIn_refl _ _ _,fun β kr=>rfl⟩
theorem O7 {d:Array Ed} (cP:a+12<b) (hb:b≤d.size) (hs:d.size<1152921504606846976) (len h:Int) (t:Bool) {p:Nat} (h1:a≤p) (h2:p<b): ∃(p2:Nat) (h2:Int) (d1:Array Ed),a≤p2∧p2<b∧PermIn a b d d1∧∀(β:Type) (kr:(Int × Int × List V)→Option β),yP CC a b lim wb wp len p h t (eA d) kr=kr ((p2:Int),h2,eA d1):=by
 cases t with
 | true=>
  refine ⟨b-1-(p-a),1,reverseRange d a b,by omega,by omega,reverseRange_holds d a b (by omega) hb,fun β kr=> ?_⟩
  unfold yP
  rw[cond_true,N8 (by omega) hb hs]
  simp (disch:=omega) only[Option.bind_some,V.ba,V.jM,eJ,fE,wrap64]
 | false=>exact ⟨p,h,d,h1,h2,permIn_refl _ _ _,fun β kr=>rfl⟩
theorem O8 {d:Array Ed} (cP:a+12<b) (hb:b≤d.size) (hs:d.size<1152921504606846976) (hB:Below ag a b d) (len p:Int) (t:Bool): ∃d1:Array Ed,PermIn a b d d1∧
  ((∀(β:Type) (kr:((Bool × List V) ⊕ List V)→Option β),ni CC a b lim wb wp len p t (eA d) kr=kr (.inr (eA d1)))∨
  (SortedIn ag a b d1∧∀(β:Type) (kr:((Bool × List V) ⊕ List V)→Option β),ni CC a b lim wb wp len p t (eA d) kr=kr (.inl (true,eA d1)))):=by
 cases t with
 | true=>
  have hp:=partialInsertionSort_holds (lt:=ag) nd d a b (by omega) hb hB
  refine ⟨_,hp.1,?_⟩
  cases h:(partialInsertionSort ag d a b).2 with
  | true=>
   refine .inr ⟨hp.2 h,fun β kr=> ?_⟩
   unfold ni
   rw[cond_true,C6 (by omega) hb hs,h]
   rfl
  | false=>
   refine .inl fun β kr=> ?_
   unfold ni
   rw[cond_true,C6 (by omega) hb hs,h]
   rfl
 | false=>exact ⟨d,permIn_refl _ _ _,.inl fun β kr=>rfl⟩
end
def rQ (a b:Nat) (d:Array Ed):Prop:= ∀(lim:Int) (wb wp:Bool),∃R,Loop (Zk CC) ((a:Int),(b:Int),lim,wb,wp,eA d)=some (eA R)∧PermIn a b d R∧SortedIn ag a b R
theorem rQ.call {a b:Nat} {d:Array Ed} (h:rQ a b d) (lim:Int): ∃R,CC gA [.int .i64 (a:Int),.int .i64 (b:Int),.int .i64 lim,.list aj (eA d)]=some [.list aj (eA R)]∧PermIn a b d R∧SortedIn ag a b R:=by
 obtain ⟨R,e,h1,h2⟩:=h lim true true
 refine ⟨R,ake ?_,h1,h2⟩
 unfold Zm
 rw[e]
 rfl
theorem O9 {a b p:Nat} {d:Array Ed} (cP:a+12<b) (hb:b≤d.size) (hs:d.size<1152921504606846976) (hB:Below ag a b d) (h1:a≤p) (h2:p<b)
  (ih: ∀(a2 b2:Nat) (d2:Array Ed),b2-a2<b-a→a2≤b2→b2≤d2.size→d2.size<1152921504606846976→Below ag a2 b2 d2→rQ a2 b2 d2) (wb wp:Bool) (lim:Int):
  ∃(a2 b2:Nat) (ll ln:Bool) (d2:Array Ed),b2-a2<b-a∧a2≤b2∧b2≤d2.size∧d2.size<1152921504606846976∧Below ag a2 b2 d2∧
   (∀R,PermIn a2 b2 d2 R→SortedIn ag a2 b2 R→PermIn a b d R∧SortedIn ag a b R)∧
   ∀(β:Type) (kn:(Int × Int × Int × Bool × Bool × (List V))→Option β),jX CC a b wb wp lim p (eA d) kn=kn ((a2:Int),(b2:Int),lim,ll,ln,eA d2):=by
 have part: ∃(a2 b2:Nat) (ll ln:Bool) (d2:Array Ed),b2-a2<b-a∧a2≤b2∧b2≤d2.size∧d2.size<1152921504606846976∧Below ag a2 b2 d2∧
   (∀R,PermIn a2 b2 d2 R→SortedIn ag a2 b2 R→PermIn a b d R∧SortedIn ag a b R)∧
   ∀(β:Type) (kn:(Int × Int × Int × Bool × Bool × (List V))→Option β),
    ((CC mM [.int .i64 (a:Int),.int .i64 (b:Int),.int .i64 (p:Int),.list aj (eA d)]).bind fun cb=>
        bif decide (((IntKind.wrap .i64 (((V.nth cb 0).toInt)-(a:Int))):Int)<(IntKind.wrap .i64 ((b:Int)-((V.nth cb 0).toInt)))) then
         (CC gA [.int .i64 (a:Int),.int .i64 ((V.nth cb 0).toInt),.int .i64 lim,.list aj ((V.nth (cb.drop 2) 0).toList)]).bind fun lk=>
         kn (IntKind.wrap .i64 (((V.nth cb 0).toInt)+1),(b:Int),lim,decide (((IntKind.wrap .i64 (((V.nth cb 0).toInt)-(a:Int))):Int)≥(IntKind.wrap .i64 (Int.tdiv (IntKind.wrap .i64 ((b:Int)-(a:Int))) 8))),(V.nth (cb.drop 1) 0).toBool,(V.nth lk 0).toList)
        else
         (CC gA [.int .i64 (IntKind.wrap .i64 (((V.nth cb 0).toInt)+1)),.int .i64 (b:Int),.int .i64 lim,.list aj ((V.nth (cb.drop 2) 0).toList)]).bind fun dz=>
         kn ((a:Int),(V.nth cb 0).toInt,lim,decide (((IntKind.wrap .i64 ((b:Int)-((V.nth cb 0).toInt))):Int)≥(IntKind.wrap .i64 (Int.tdiv (IntKind.wrap .i64 ((b:Int)-(a:Int))) 8))),(V.nth (cb.drop 1) 0).toBool,(V.nth dz 0).toList))=kn ((a2:Int),(b2:Int),lim,ll,ln,eA d2):=by
  obtain ⟨mid,ap,d4,hx⟩: ∃mid ap d4,partition ag d a b p=(mid,ap,d4):=⟨_,_,_,rfl⟩
  obtain ⟨g1,g2,gF,Pb,Pc,Pd,Pe⟩:=round_part nd (partition_holds ag) h1 h2 hb hB hx
  have hc:=Om (a:=a) (b:=b) (pivot:=p) (d:=d) h2 (by omega) hb hs
  rw[hx] at hc
  by_cases hl:mid-a<b-mid
  ·obtain ⟨L,e,l1,l2⟩:=(ih a mid d4 (by omega) g1 (by rw[gF];omega) (by rw[gF];exact hs) Pb).call lim
   obtain ⟨vw,jw⟩:=Pd _ l1 l2
   refine ⟨mid+1,b,decide (((IntKind.wrap .i64 ((mid:Int)-(a:Int))):Int)≥(IntKind.wrap .i64 (Int.tdiv (IntKind.wrap .i64 ((b:Int)-(a:Int))) 8))),ap,L,by omega,by omega,by rw[l1.1,gF];exact hb,by rw[l1.1,gF];exact hs,vw,jw,fun β kn=> ?_⟩
   ·rw[hc]
    simp only[Option.bind_some,V.ba,V.ju,V.toInt_int,V.iS,V.jM,List.drop_succ_cons,List.drop_zero]
    rw[ar,if_pos (by rw[fE g1,fE (by omega),wrap64 (by omega) (by omega),wrap64 (by omega) (by omega)];omega),e]
    simp only[Option.bind_some,V.ba,V.jM]
    rw[bK,wrap64 (x:=((mid+1:Nat):Int)) (by omega) (by omega)]
  ·obtain ⟨L,e,l1,l2⟩:=(ih (mid+1) b d4 (by omega) (by omega) (by rw[gF];exact hb) (by rw[gF];exact hs) Pc).call lim
   obtain ⟨vw,jw⟩:=Pe _ l1 l2
   refine ⟨a,mid,decide (((IntKind.wrap .i64 ((b:Int)-(mid:Int))):Int)≥(IntKind.wrap .i64 (Int.tdiv (IntKind.wrap .i64 ((b:Int)-(a:Int))) 8))),ap,L,by omega,by omega,by rw[l1.1,gF];omega,by rw[l1.1,gF];exact hs,vw,jw,fun β kn=> ?_⟩
   ·rw[hc]
    simp only[Option.bind_some,V.ba,V.ju,V.toInt_int,V.iS,V.jM,List.drop_succ_cons,List.drop_zero]
    rw[ar,if_neg (by rw[fE g1,fE (by omega),wrap64 (by omega) (by omega),wrap64 (by omega) (by omega)];omega),bK,wrap64 (x:=((mid+1:Nat):Int)) (by omega) (by omega),e]
    simp only[Option.bind_some,V.ba,V.jM]
 by_cases ha:0<a
 ·by_cases hc:aR d[a-1]! d[p]! <0
  ·obtain ⟨a2,b2,ll,ln,d2,q1,q2,q3,q4,q5,q6,q7⟩:=part
   refine ⟨a2,b2,ll,ln,d2,q1,q2,q3,q4,q5,q6,fun β kn=> ?_⟩
   rw[←q7 β kn]
   unfold jX
   rw[ar,if_pos (by omega),eJ ha,wrap64 (by omega) (by omega),ey (i:=a-1) (by omega),ez (by omega),ey (i:=p) (by omega),ez (by omega)]
   simp only[Ed.bR,Ed.bS,Ed.bU,gB,Option.bind_some,V.ba,V.toInt_int]
   rw[dp,ar,if_pos hc]
  ·obtain ⟨mid,d4,hx⟩: ∃mid d4,partitionEqual ag d a b p=(mid,d4):=⟨_,_,rfl⟩
   obtain ⟨g1,qk,gF,Pf,jw⟩:=round_eq nd (partitionEqual_holds ag) ha h1 h2 hb hB (by rw[td,←propext (xo _ _)];exact hc) hx
   have he:=Oo (a:=a) (b:=b) (pivot:=p) (d:=d) h2 (by omega) hb hs
   rw[hx] at he
   refine ⟨mid,b,wb,wp,d4,by omega,qk,by rw[gF];exact hb,by rw[gF];exact hs,Pf,jw,fun β kn=> ?_⟩
   unfold jX
   rw[ar,if_pos (by omega),eJ ha,wrap64 (by omega) (by omega),ey (i:=a-1) (by omega),ez (by omega),ey (i:=p) (by omega),ez (by omega)]
   simp only[Ed.bR,Ed.bS,Ed.bU,gB,Option.bind_some,V.ba,V.toInt_int]
   rw[dp,ar,if_neg hc,he]
   rfl
 ·obtain ⟨a2,b2,ll,ln,d2,q1,q2,q3,q4,q5,q6,q7⟩:=part
  refine ⟨a2,b2,ll,ln,d2,q1,q2,q3,q4,q5,q6,fun β kn=> ?_⟩
  rw[←q7 β kn]
  unfold jX
  rw[ar,if_neg (by omega)]
theorem Yl: ∀(n a b:Nat) (d:Array Ed),b-a≤n→a≤b→b≤d.size→d.size<1152921504606846976→Below ag a b d→rQ a b d:=by
 intro n
 induction n with
 | zero=>
  intro a b d hn cP hb hs hB lim wb wp
  have hi:=insertionSort_holds (lt:=ag) nd d a b cP hb
  refine ⟨_,aZ ?_,hi⟩
  show p5 CC a b lim wb wp (eA d) (fun y=>some (Sum.inl y)) (fun r=>some (Sum.inr r))=_
  rw[rP,ar,if_pos (by rw[fE cP,wrap64 (by omega) (by omega)];omega),Cz hb hs (by omega)]
  rfl
 | succ n ih=>
  intro a b d hn cP hb hs hB lim wb wp
  by_cases h12:b-a≤12
  ·have hi:=insertionSort_holds (lt:=ag) nd d a b cP hb
   refine ⟨_,aZ ?_,hi⟩
   show p5 CC a b lim wb wp (eA d) (fun y=>some (Sum.inl y)) (fun r=>some (Sum.inr r))=_
   rw[rP,ar,if_pos (by rw[fE cP,wrap64 (by omega) (by omega)];omega),Cz hb hs (by omega)]
   rfl
  ·have oQ:a+12<b:=by omega
   have oy: ¬(((IntKind.wrap .i64 ((b:Int)-(a:Int))):Int)≤12):=by rw[fE cP,wrap64 (by omega) (by omega)];omega
   by_cases h0:lim=0
   ·have hi:=heapSort_holds (lt:=ag) nd d a b cP hb
    refine ⟨_,aZ ?_,hi⟩
    show p5 CC a b lim wb wp (eA d) (fun y=>some (Sum.inl y)) (fun r=>some (Sum.inr r))=_
    rw[rP,ar,if_neg oy,km,if_pos h0,N6 (by omega) hb hs]
    rfl
   ·obtain ⟨l1,d1,s1,k1⟩:=O6 (lim:=lim) (wb:=wb) (wp:=wp) oQ hb hs (IntKind.wrap .i64 ((b:Int)-(a:Int))) (!wb)
    have b1:b≤d1.size:=by rw[s1.1];exact hb
    have z1:d1.size<1152921504606846976:=by rw[s1.1];exact hs
    obtain ⟨p,h,c1,p1,p2⟩:=OY oQ b1 z1
    obtain ⟨q,h2,d2,q1,q2,s2,k2⟩:=O7 (lim:=l1) (wb:=wb) (wp:=wp) oQ b1 z1 (IntKind.wrap .i64 ((b:Int)-(a:Int))) h (h==2) p1 p2
    have b2:b≤d2.size:=by rw[s2.1];exact b1
    have z2:d2.size<1152921504606846976:=by rw[s2.1];exact z1
    have B2:Below ag a b d2:=(hB.perm hb s1).perm b1 s2
    obtain ⟨t,ht⟩: ∃t:Bool,t=(bif wb then (bif wp then (h2==1) else false) else false):=⟨_,rfl⟩
    obtain ⟨d3,s3,k3⟩:=O8 (lim:=l1) (wb:=wb) (wp:=wp) oQ b2 z2 B2 (IntKind.wrap .i64 ((b:Int)-(a:Int))) (q:Int) t
    have b3:b≤d3.size:=by rw[s3.1];exact b2
    have z3:d3.size<1152921504606846976:=by rw[s3.1];exact z2
    have B3:Below ag a b d3:=B2.perm b2 s3
    have P3:PermIn a b d d3:=permIn_trans _ _ _ a b (permIn_trans _ _ _ a b s1 s2) s3
    have step: ∀(β:Type) (kn:(Int × Int × Int × Bool × Bool × (List V))→Option β) (kr:(List V)→Option β),p5 CC a b lim wb wp (eA d) kn kr=
      ni CC a b l1 wb wp (IntKind.wrap .i64 ((b:Int)-(a:Int))) (q:Int) t (eA d2) (cI (un fun (HK:Bool) (vu:List V)=>kr vu) (fun (fx:List V)=>jX CC a b wb wp l1 q fx kn)):=by
     intro β kn kr
     rw[rP,ar,if_neg oy,km,if_neg h0,k1]
     simp only[un]
     rw[c1]
     simp only[Option.bind_some,V.ba,V.ju,V.toInt_int,List.drop_succ_cons,List.drop_zero]
     rw[k2]
     simp only[un]
     rw[ht]
     cases wb
     ·rfl
     ·cases wp
      ·rfl
      ·rfl
    rcases k3 with k3|⟨Pg,k3⟩
    ·obtain ⟨a4,b4,Ph,Pj,d4,r1,r2,r3,r4,r5,r6,r7⟩:=O9 oQ b3 z3 B3 q1 q2 (fun a2 b2 d2 aX h1 h2 h3 h4=>ih a2 b2 d2 (by omega) h1 h2 h3 h4) wb wp l1
     obtain ⟨R,e,e1,e2⟩:=ih a4 b4 d4 (by omega) r2 r3 r4 r5 l1 Ph Pj
     obtain ⟨f1,f2⟩:=r6 R e1 e2
     refine ⟨R,(cF ?_).trans e,permIn_trans _ _ _ a b P3 f1,f2⟩
     show p5 CC a b lim wb wp (eA d) (fun y=>some (Sum.inl y)) (fun r=>some (Sum.inr r))=_
     rw[step,k3]
     exact r7 _ (fun y=>some (Sum.inl y))
    ·refine ⟨d3,aZ ?_,P3,Pg⟩
     show p5 CC a b lim wb wp (eA d) (fun y=>some (Sum.inl y)) (fun r=>some (Sum.inr r))=_
     rw[step,k3]
     rfl
theorem akg (l:List Ed) (hs:l.length<1152921504606846976): ∃R:List Ed,CC KK [.list aj (l.map Ed.enc)]=some [.list aj (R.map Ed.enc)]∧R.Perm l∧R.Pairwise (fun x y=> ¬y.lt x):=by
 obtain ⟨L,e1,_⟩:=H7 (x:=l.length) (by omega)
 obtain ⟨R,e2,h1,h2⟩:=(Yl _ 0 l.toArray.size l.toArray (Nat.le_refl _) (Nat.zero_le _) (Nat.le_refl _) (by simpa using hs) (.inl rfl)).call (L:Int)
 have a8:R.size=l.length:=by rw[h1.1];simp
 refine ⟨R.toList,akf ?_,?_,?_⟩
 ·unfold Zn
  rw[List.length_map,pF (A:=l.length) (by omega),e1]
  simp only[Option.bind_some,V.ba,V.toInt_int]
  have e3:eA l.toArray=l.map Ed.enc:=by simp[oJ]
  rw[e3,show ((l.toArray.size:Nat):Int)=(l.length:Int) by simp,show ((0:Nat):Int)=0 from rfl] at e2
  rw[e2]
  rfl
 ·have h3:=h1.2.2
  rw[show l.toArray.size=R.size from h1.1.symm,Array.extract_size,h1.1,Array.extract_size] at h3
  exact h3
 ·rw[List.pairwise_iff_getElem]
  intro i j hi hj ua
  have h3:=h2 i j (Nat.zero_le _) ua (by simpa[←a8] using hj)
  rw[td] at h3
  have eo:i<R.size:=by simpa using hi
  have gK:j<R.size:=by simpa using hj
  rw[getElem!_pos R i eo,getElem!_pos R j gK] at h3
  simpa using h3
end Go.AM
set_option maxRecDepth 100000
namespace Go.AM
open Go.Proofs
noncomputable abbrev tk:Code:=ch Tryd.prog (aq.aO 78)
noncomputable def Im (C:ae) (p:Int) (row t31:List V) (t32 t33:Int) (t42:Bool) (bc bn:Int) (bA bz:List V) (dJ dK kq jP bH bx bI bD:Int) (gq dt:List V) {β:Type} (kr:(Int)→Option β):Option β:=
 bif t42 then
  bif decide (0≤p) then
  kr (IntKind.wrap .u64 ((BitVec.ofInt (IntKind.bits .u64) bD|||BitVec.ofInt (IntKind.bits .u64) (IntKind.wrap .u64 (1*2^(min p.toNat (IntKind.bits .u64))))).toNat))
  else none
 else
  kr bD
noncomputable def DU (C:ae) (p:Int) (t31:List V) (t32 t33:Int) (t49:List V) (t50 bc bn:Int) (bA bz:List V) (dJ dK kq jP bH bx bI bD:Int) (gq:List V) (t51:Int) (dt:List V) {β:Type} (kn:(Int × (List V))→Option β) (kr:(Int × Bool × (List V))→Option β):Option β:=
 bif decide ((t51:Int)<t50) then
  (idx t49 t51).bind fun x5=>
  bif Nat.ble ((dt.length+([.agg [.int .i64 p,.int .i64 t51,.int .i64 x5.toInt]]:List V).length)*24) cg then
  kn (IntKind.wrap .i64 (t51+1),dt++([.agg [.int .i64 p,.int .i64 t51,.int .i64 x5.toInt]]:List V))
  else none
 else
  kr (t51,decide ((t51:Int)<t50),dt)
noncomputable def Io (C:ae) (p:Int) (t31:List V) (t32 t33:Int) (t49:List V) (t50 bc bn:Int) (bA bz:List V) (dJ dK kq jP bH bx bI bD:Int) (gq:List V):(Int × (List V))→Option ((Int × (List V)) ⊕ (Int × Bool × (List V))):=un fun t51 dt=>DU C p t31 t32 t33 t49 t50 bc bn bA bz dJ dK kq jP bH bx bI bD gq t51 dt (fun y=>some (.inl y)) (fun r=>some (.inr r))
noncomputable def DV (C:ae) (t31:List V) (t32 bc bn:Int) (bA bz:List V) (dJ dK kq jP bH bx bI:Int) (gq:List V) (t33 bD:Int) (dt:List V) {β:Type} (kn:(Int × Int × (List V))→Option β) (kr:(Int × Bool × Int × (List V))→Option β):Option β:=
 bif decide ((t33:Int)<t32) then
  (idx t31 t33).bind fun x2=>
  (idx bA t33).bind fun x3=>
  Im C t33 x2.toList t31 t32 t33 x3.toBool bc bn bA bz dJ dK kq jP bH bx bI bD gq dt (fun (pH:Int)=>
   (Loop (Io C t33 t31 t32 t33 x2.toList (x2.toList.length:Int) bc bn bA bz dJ dK kq jP bH bx bI pH gq) (0,dt)).bind (un fun (nJ:Int)=>un fun (mO:Bool) (PL:List V)=>
    kn (IntKind.wrap .i64 (t33+1),pH,PL)))
 else
  kr (t33,decide ((t33:Int)<t32),bD,dt)
noncomputable def PM (C:ae) (t31:List V) (t32 bc bn:Int) (bA bz:List V) (dJ dK kq jP bH bx bI:Int) (gq:List V):(Int × Int × (List V))→Option ((Int × Int × (List V)) ⊕ (Int × Bool × Int × (List V))):=un fun t33=>un fun bD dt=>DV C t31 t32 bc bn bA bz dJ dK kq jP bH bx bI gq t33 bD dt (fun y=>some (.inl y)) (fun r=>some (.inr r))
noncomputable def Zo (C:ae):b6:=fun β n ds k=>
 bif Nat.beq n 687 then iq Lo [[1,2,3,4,5,7,8,9,10,11,12,13,14,15,16,17,0,19,20]] (@Im C) ds k else
 bif Nat.beq n 209 then bd Lp [false,false,false,false,false,false,true,false,false,false,false,false,false,false,false,false,false,false,false,false,true] [[1,2,3,4,5,6,0,0,8,9,10,11,12,13,14,15,16,17,18,19,20,0]] (@DU C) ds k else
 bif Nat.beq n 129 then bd Lq [false,false,true,false,false,false,false,false,false,false,false,false,false,false,true,false,true] [[1,2,0,0,4,5,6,7,8,9,10,11,12,13,14,0,16,0]] (@DV C) ds k else
 none
abbrev PN (C:ae) (b:bY):Prop:=bZ Tryd.prog aq C (Zo C) 78 (cm Tryd.prog (aq.aO 78)) (aq.sin 78).aW.length b
theorem akh (C:ae):PN C (.cond 42 (an [1,1,1,1,0,1,0,0,1,1,0,0,1,0,1,0] tk) (an [1,1,1,1,0,1,0,0,1,1,0,0,1,0,1,1] tk)):=
 iT Lo [[1,2,3,4,5,7,8,9,10,11,12,13,14,15,16,17,0,19,20]] (@Im C) (by kernel_rfl) (aI (bs:=[]) (by kernel_rfl) ao) (aI (bs:=[]) (by kernel_rfl) ao) (fun ds=>by kernel_rfl) (fun i β k=>by kernel_rfl) (fun β ds k=>by kernel_rfl)
theorem aki (C:ae):PN C (.loop (an [1,1,1,1,0,1,0,0,1,1,0,0,1,1,1,0,0] tk)):=
 bh Lp [false,false,false,false,false,false,true,false,false,false,false,false,false,false,false,false,false,false,false,false,true] [[1,2,3,4,5,6,0,0,8,9,10,11,12,13,14,15,16,17,18,19,20,0]] (@DU C) (by kernel_rfl) (aI (bs:=[]) (by kernel_rfl) ao) (fun ds=>by kernel_rfl) (fun i x=>by kernel_rfl) (fun i x β k=>by kernel_rfl) (fun β ds k=>by kernel_rfl)
theorem akj (C:ae):PN C (.loop (an [1,1,1,1,0,1,0,0] tk)):=
 bh Lq [false,false,true,false,false,false,false,false,false,false,false,false,false,false,true,false,true] [[1,2,0,0,4,5,6,7,8,9,10,11,12,13,14,0,16,0]] (@DV C) (by kernel_rfl) (aI (bs:=[.cond 42 (an [1,1,1,1,0,1,0,0,1,1,0,0,1,0,1,0] tk) (an [1,1,1,1,0,1,0,0,1,1,0,0,1,0,1,1] tk),.loop (an [1,1,1,1,0,1,0,0,1,1,0,0,1,1,1,0,0] tk)]) (by kernel_rfl) (aU (akh C) (aU (aki C) ao))) (fun ds=>by kernel_rfl) (fun i x=>by kernel_rfl) (fun i x β k=>by kernel_rfl) (fun β ds k=>by kernel_rfl)
noncomputable def PO (C:ae) (aJ aP:Int) (aF aM:List V):Option (List V):=
 (C py [.int .i64 aJ,.int .i64 aP,.list aD aF,.list aG aM]).bind fun r1=>
 bif (((V.nth r1 0).toInt):Int) != 0 then
  some [.int .i64 0,.int .i64 0,.int .u64 0,.int .u64 0,.int .i64 ((V.nth r1 0).toInt),.list aj ([]:List V)]
 else
  bif decide (((aF.length:Int):Int)>64) then
  some [.int .i64 0,.int .i64 0,.int .u64 0,.int .u64 0,.int .i64 3,.list aj ([]:List V)]
  else
  bif decide (0≤aP) then
   (Loop (PM C aM (aM.length:Int) aJ aP aF aM 0 0 0 0 aJ (aF.length:Int) (IntKind.wrap .u64 (1*2^(min aP.toNat (IntKind.bits .u64)))) ([]:List V)) (0,0,([]:List V))).bind (un fun (mT:Int)=>un fun (Ns:Bool)=>un fun (akk:Int) (akl:List V)=>
    some [.int .i64 aJ,.int .i64 (aF.length:Int),.int .u64 (IntKind.wrap .u64 (1*2^(min aP.toNat (IntKind.bits .u64)))),.int .u64 akk,.int .i64 0,.list aj akl])
  else none
theorem Zp {aJ aP:Int} {aF aM:List V} {r:Option (List V)} (h:PO CC aJ aP aF aM=r):CC AA [.int .i64 aJ,.int .i64 aP,.list aD aF,.list aG aM]=r:=
 bf (key:=78) (L:=Zo CC) (bs:=[.loop (an [1,1,1,1,0,1,0,0] tk)]) (by kernel_rfl) (aU (akj CC) ao) (Eq.trans (by kernel_rfl) h)
noncomputable abbrev Zq:Code:=ch Tryd.prog (aq.aO 80)
noncomputable def DW (C:ae) (t20:List V) (t21 dJ dK kq jP Zr Zs Zt Zu:Int) (dx:List V) (t22:Int) (gq:List V) {β:Type} (kn:(Int × (List V))→Option β) (kr:(Int × Bool × (List V))→Option β):Option β:=
 bif decide ((t22:Int)<t21) then
  (idx t20 t22).bind fun x2=>
  bif Nat.ble ((gq.length+([.agg [.int .i64 ((x2.cell 2).toInt),.int .i64 ((x2.cell 1).toInt),.int .i64 ((x2.cell 0).toInt)]]:List V).length)*24) cg then
  kn (IntKind.wrap .i64 (t22+1),gq++([.agg [.int .i64 ((x2.cell 2).toInt),.int .i64 ((x2.cell 1).toInt),.int .i64 ((x2.cell 0).toInt)]]:List V))
  else none
 else
  kr (t22,decide ((t22:Int)<t21),gq)
noncomputable def PQ (C:ae) (t20:List V) (t21 dJ dK kq jP Zr Zs Zt Zu:Int) (dx:List V):(Int × (List V))→Option ((Int × (List V)) ⊕ (Int × Bool × (List V))):=un fun t22 gq=>DW C t20 t21 dJ dK kq jP Zr Zs Zt Zu dx t22 gq (fun y=>some (.inl y)) (fun r=>some (.inr r))
noncomputable def Zv (C:ae):b6:=fun β n ds k=>
 bif Nat.beq n 81 then bd Lr [false,false,true,false,false,false,false,false,false,false,false,false,true] [[1,2,0,0,4,5,6,7,8,9,10,11,12,0]] (@DW C) ds k else
 none
abbrev akm (C:ae) (b:bY):Prop:=bZ Tryd.prog aq C (Zv C) 80 (cm Tryd.prog (aq.aO 80)) (aq.sin 80).aW.length b
theorem akn (C:ae):akm C (.loop (an [1,1,1,0,1,0,0] Zq)):=
 bh Lr [false,false,true,false,false,false,false,false,false,false,false,false,true] [[1,2,0,0,4,5,6,7,8,9,10,11,12,0]] (@DW C) (by kernel_rfl) (aI (bs:=[]) (by kernel_rfl) ao) (fun ds=>by kernel_rfl) (fun i x=>by kernel_rfl) (fun i x β k=>by kernel_rfl) (fun β ds k=>by kernel_rfl)
noncomputable def Zw (C:ae) (dS eN dB e9:Int) (ee:List V):Option (List V):=
 (C AE [.int .i64 dS,.int .i64 eN,.int .u64 dB,.int .u64 e9,.list aj ee]).bind fun r1=>
 bif (((V.nth r1 0).toInt):Int) != 0 then
  some [.int .i64 0,.int .i64 0,.int .u64 0,.int .u64 0,.list aj ([]:List V)]
 else
  (Loop (PQ C ee (ee.length:Int) 0 0 0 0 dS eN e9 dB ([]:List V)) (0,([]:List V))).bind (un fun (jN:Int)=>un fun (iX:Bool) (b_5:List V)=>
   (C KK [.list aj b_5]).bind fun r6=>
   some [.int .i64 dS,.int .i64 eN,.int .u64 e9,.int .u64 dB,.list aj ((V.nth r6 0).toList)])
theorem ako {dS eN dB e9:Int} {ee:List V} {r:Option (List V)} (h:Zw CC dS eN dB e9 ee=r):CC Gl [.int .i64 dS,.int .i64 eN,.int .u64 dB,.int .u64 e9,.list aj ee]=r:=
 bf (key:=80) (L:=Zv CC) (bs:=[.loop (an [1,1,1,0,1,0,0] Zq)]) (by kernel_rfl) (aU (akn CC) ao) (Eq.trans (by kernel_rfl) h)
noncomputable def PR (C:ae) (aJ aP:Int) (aF aM:List V):Option (List V):=
 (C sN [.int .i64 aJ,.int .i64 aP,.list aD aF,.list aG aM]).bind fun r1=>
 bif (((V.nth (r1.drop 2) 0).toInt):Int) != 0 then
  some [.int .i64 0,.int .i64 0,.int .i64 ((V.nth (r1.drop 2) 0).toInt),.list aD ([]:List V),.list aG ([]:List V)]
 else
  (C AA [.int .i64 ((V.nth r1 0).toInt),.int .i64 ((V.nth (r1.drop 1) 0).toInt),.list aD ((V.nth (r1.drop 3) 0).toList),.list aG ((V.nth ((r1.drop 3).drop 1) 0).toList)]).bind fun r2=>
  bif (((V.nth (r2.drop 4) 0).toInt):Int) != 0 then
  some [.int .i64 0,.int .i64 0,.int .i64 ((V.nth (r2.drop 4) 0).toInt),.list aD ([]:List V),.list aG ([]:List V)]
  else
  (C Gl [.int .i64 ((V.nth r2 0).toInt),.int .i64 ((V.nth (r2.drop 1) 0).toInt),.int .u64 ((V.nth ((r2.drop 1).drop 1) 0).toInt),.int .u64 ((V.nth (((r2.drop 1).drop 1).drop 1) 0).toInt),.list aj ((V.nth (r2.drop 5) 0).toList)]).bind fun r3=>
  (C wZ [.int .i64 ((V.nth r3 0).toInt),.int .i64 ((V.nth (r3.drop 1) 0).toInt),.int .u64 ((V.nth ((r3.drop 1).drop 1) 0).toInt),.int .u64 ((V.nth (((r3.drop 1).drop 1).drop 1) 0).toInt),.list aj ((V.nth (r3.drop 4) 0).toList)]).bind fun r4=>
  some [.int .i64 ((V.nth r4 0).toInt),.int .i64 ((V.nth (r4.drop 1) 0).toInt),.int .i64 ((V.nth (r4.drop 2) 0).toInt),.list aD ((V.nth (r4.drop 3) 0).toList),.list aG ((V.nth ((r4.drop 3).drop 1) 0).toList)]
theorem Zx {aJ aP:Int} {aF aM:List V} {r:Option (List V)} (h:PR CC aJ aP aF aM=r):CC wY [.int .i64 aJ,.int .i64 aP,.list aD aF,.list aG aM]=r:=
 bf (key:=46) (L:=dq) (bs:=[]) (by kernel_rfl) ao (Eq.trans (by kernel_rfl) h)
theorem akp {a:Da} {off p:Nat}:kZ (kz a off p):=by
 unfold kz tab kZ
 rw[List.pairwise_map]
 refine List.Pairwise.imp ?_ List.pairwise_lt_range
 intro x y h
 show (eQ (p+off) x (a.nx p x+off)).lt (eQ (p+off) y (a.nx p y+off))
 exact .inr ⟨rfl,.inl (Int.ofNat_lt.2 h)⟩
theorem PS {a:Da} {off:Nat}: ∀n,kZ (fm n (kz a off))
 | 0=>List.Pairwise.nil
 | n+1=>by
  rw[yu]
  refine List.pairwise_append.2 ⟨PS n,akp,fun e he f hf=> ?_⟩
  obtain ⟨p,hp,he⟩:=Pw.1 he
  obtain ⟨x,_,rfl⟩:=ry.1 he
  obtain ⟨y,_,rfl⟩:=ry.1 hf
  unfold Ed.lt eQ
  simp only
  omega
theorem akq {a:Da}:pT (dh a 0)=dh a 0:=NT (HS _) (PS _) fun _=>u4
def yQ (m:Da):Nf:=⟨m.L,m.n,2^m.st,ei 0 m.fin 0 m.n,dh m 0⟩
section
variable {m:Da} (hm:m.Ok)
include hm
theorem akr (hs:m.n≤64):te m.L m.n (2^m.st) (ei 0 m.fin 0 m.n) (dh m 0) where
 l1:=hm.l1
 l6:=hm.l6
 pK:=hs
 st:=Nat.pow_lt_pow_right (by omega) hm.s
 fin:=yv (Nat.two_pow_pos _) (by omega)
 E:=fun e he=>PE hm (by omega) he
 len:=by
  have h1:=vB hm (off:=0) (n:=m.n)
  unfold dh
  omega
theorem aks (hs:m.n≤64):Nat6 (yQ m) m.L m.n:=by
 have h:=nR (akr hm hs)
 unfold dD at h
 rw[akq] at h
 exact h
theorem akt (hs:m.n≤64):CC AA (eI m)=some [.int .i64 (m.L:Int),.int .i64 (m.n:Int),.int .u64 ((2^m.st:Nat):Int),.int .u64 (ei 0 m.fin 0 m.n:Int),.int .i64 0,.list aj ((dh m 0).map Ed.enc)]:=by
 have h6:=hm.l6
 have cK:=hm.s
 refine Zp ?_
 unfold PO
 refine bs (uU hm) (bF rfl ?_)
 rw[Da.pO]
 refine bF (decide_eq_false (by omega)) ?_
 refine bT (decide_eq_true (by omega)) ?_
 rw[Int.toNat_natCast,uO (by omega),show m.cQ.length=m.n from ft]
 refine bs (tf m.n (fun i=>((i:Int),(ei 0 m.fin 0 i:Int),(fm i (kz m 0)).map Ed.enc)) ((m.n:Int),false,(ei 0 m.fin 0 m.n:Int),(dh m 0).map Ed.enc) rfl (fun p hp=> ?_) ?_) ?_
 ·have hlen:=vB hm (off:=0) (n:=p)
  have aX:=yv (f:=m.fin) (off:=0) (fin:=0) (k:=64) (by omega) (n:=p) (by omega)
  have key: ∀{c1 c2 c3 c4 c5 c6 c7 c8:Int} {l1:List V},Loop (Io CC (p:Int) m.cQ (m.n:Int) (p:Int) (gN m.L (m.nx p)).toList ((gN m.L (m.nx p)).toList.length:Int) (m.L:Int) (m.st:Int) m.dg m.cQ c1 c2 c3 c4 c5 c6 c7 c8 l1) (0,(fm p (kz m 0)).map Ed.enc)=some ((m.L:Int),false,(fm p (kz m 0)++kz m 0 p).map Ed.enc):=by
   intro c1 c2 c3 c4 c5 c6 c7 c8 l1
   rw[show (gN m.L (m.nx p)).toList=tab m.L fun x=>nV (m.nx p x) from rfl,ft]
   refine tf m.L (fun i=>((i:Int),(fm p (kz m 0)++tab i fun x=>eQ (p+0) x (m.nx p x+0)).map Ed.enc)) _ (by rw[Nl,List.append_nil];rfl) (fun x hx=> ?_) ?_
   ·simp only[Io,DU,un]
    refine bT (er hx) ?_
    refine bs (pN hx) ?_
    refine bT (cap (by rw[List.length_map,List.length_append,ft];simp;omega) (by omega)) ?_
    rw[show (nV (m.nx p x)).toInt=((m.nx p x:Nat):Int) from rfl,YC,dI (by omega),rv,←List.append_assoc]
    rfl
   ·simp only[Io,DU,un]
    refine bF (bM (Nat.le_refl _)) ?_
    rw[bM (Nat.le_refl _)]
    rfl
  simp only[PM,DV,un]
  refine bT (er hp) ?_
  refine bs (pN hp) ?_
  refine bs (pN hp) ?_
  unfold Im
  rw[V.iS]
  cases hf:m.fin p with
  | true=>
   refine bT rfl (bT (decide_eq_true (by omega)) ?_)
   rw[Int.toNat_natCast,uO (by omega),u64_or aX (Nat.pow_lt_pow_right (by omega) (by omega)),show ei 0 m.fin 0 (p+1)=ei 0 m.fin 0 p|||2^p from if_pos hf]
   refine bs key ?_
   simp only[un]
   rw[dI (by omega),yu]
  | false=>
   refine bF rfl ?_
   rw[show ei 0 m.fin 0 (p+1)=ei 0 m.fin 0 p from if_neg (by rw[hf];simp)]
   refine bs key ?_
   simp only[un]
   rw[dI (by omega),yu]
 ·simp only[PM,DV,un]
  refine bF (bM (Nat.le_refl _)) ?_
  rw[bM (Nat.le_refl _)]
  rfl
 ·rfl
theorem aku (hs:64<m.n):CC AA (eI m)=some [.int .i64 0,.int .i64 0,.int .u64 0,.int .u64 0,.int .i64 3,.list aj []]:=by
 refine Zp ?_
 unfold PO
 refine bs (uU hm) (bF rfl ?_)
 rw[Da.pO]
 exact bT (decide_eq_true (by omega)) rfl
theorem akv (hs:m.n≤64):CC Gl (kS (yQ m) [])=some (kS (Dv m) []):=by
 have h6:=aks hm hs
 have hl:=vB hm (off:=0) (n:=m.n)
 refine ako ?_
 unfold Zw
 have hv:=M0 _ h6.ok
 rw[h6.code] at hv
 refine bs hv (bF rfl ?_)
 have hll:(dh m 0).length≤m.n*6:=hl
 refine bs (tf (dh m 0).length (fun i=>((i:Int),(((dh m 0).take i).map Ed.rev).map Ed.enc)) (((dh m 0).length:Int),false,((dh m 0).map Ed.rev).map Ed.enc) rfl (fun i hi=> ?_) ?_) ?_
 ·have rZ:((dh m 0).take i).length≤i:=List.length_take_le _ _
  simp only[PQ,DW,un]
  refine bT (decide_eq_true (show (i:Int)<(((yQ m).E.map Ed.enc).length:Int) by rw[List.length_map];show (i:Int)<((dh m 0).length:Int);omega)) ?_
  refine bs (GX (E:=(yQ m).E) hi) ?_
  have e1:(yQ m).E.getD i default=(dh m 0)[i]:=Vb hi
  rw[e1,Ed.bR,Ed.bS,Ed.bU]
  refine bT (cap (by simp;omega) (by omega)) ?_
  rw[dI (by omega),List.take_succ_eq_append_getElem hi,List.map_append,List.map_append]
  rfl
 ·simp only[PQ,DW,un]
  have e2:decide (((dh m 0).length:Int)<(((yQ m).E.map Ed.enc).length:Int))=false:=decide_eq_false (by rw[List.length_map];show¬((dh m 0).length:Int)<((dh m 0).length:Int);omega)
  refine bF e2 ?_
  rw[e2,List.take_length]
 ·simp only[un]
  obtain ⟨R,e,hp,hr⟩:=akg ((dh m 0).map Ed.rev) (by rw[List.length_map];omega)
  refine bs e ?_
  have hn:((dh m 0).map Ed.rev).Nodup:=by
   have:=ahw (PS (a:=m) (off:=0) m.n)
   rw[List.Nodup,List.pairwise_map]
   exact this.imp fun {x y} cP e=>cP (by have:=congrArg Ed.rev e;simpa using this)
  have hR:R=pT ((dh m 0).map Ed.rev):=NT (ahx hp hn hr) (HS _) fun x=>by rw[u4,hp.mem_iff]
  rw[hR]
  rfl
end
section
variable {a:Da} (h:a.Ok)
include h
theorem akw (hs:(minD a).n≤64):CC wY (eI a)=some (kX (iC (Dv (minD a)) a.L (minD a).n) (vy (Dv (minD a)) a.L (minD a).n)):=by
 have hm:=lp h
 have hl:=Yo (nR (YS hm hs))
 rw[ng h] at hl
 refine Zx ?_
 unfold PR
 refine bs (yw h) (bF rfl ?_)
 refine bs (akt hm hs) (bF rfl ?_)
 refine bs (akv hm hs) ?_
 unfold Dv
 rw[ng h]
 refine bs hl ?_
 rfl
theorem akx (hs:64<(minD a).n):CC wY (eI a)=some (kX zD 3):=by
 have hm:=lp h
 refine Zx ?_
 unfold PR
 refine bs (yw h) (bF rfl ?_)
 refine bs (aku hm hs) (bT rfl ?_)
 rfl
theorem aky:yz (CC wY (eI a)) a.L (minD a).n fun w=>a.acc a.st w.reverse=true:=by
 have hm:=lp h
 have hL:=ng h
 by_cases hs:(minD a).n≤64
 ·have hr:=YS hm hs
  have he:=akw h hs
  unfold Dv at he
  rw[←hL] at he⊢
  refine yz.of hr he fun w hw=> ?_
  rw[ajx hm hw,pY h (hL▸hw.rev)]
 ·exact .inr ⟨akx h (by omega),by omega⟩
end
noncomputable def Zy (C:ae) (s:List UInt8) (n:Int):Option (List V):=
 bif (decide (0≤(if n<(s.length:Int) then n else (s.length:Int))))&&(decide ((if n<(s.length:Int) then n else (s.length:Int))≤(s.length:Int))) then
  some [.str ((s.drop 0).take (((if n<(s.length:Int) then n else (s.length:Int):Int).toNat)-0))]
 else none
theorem akz {s:List UInt8} {n:Int} {r:Option (List V)} (h:Zy CC s n=r):CC Ax [.str s,.int .i64 n]=r:=
 bf (key:=42) (L:=dq) (bs:=[]) (by kernel_rfl) ao (Eq.trans (by kernel_rfl) h)
theorem rW {w:List UInt8} {L:Int}:cC w L↔1≤L∧L≤6∧w.length≤2048∧∀b∈w,0≤(b.toNat:Int)-97∧(b.toNat:Int)-97<L:=by
 unfold cC
 refine and_congr Iff.rfl (and_congr Iff.rfl (and_congr Iff.rfl ⟨fun h b hb=> ?_,fun h i hi=> ?_⟩))
 ·obtain ⟨i,hi,rfl⟩:=List.mem_iff_getElem.1 hb
  have:=h i hi
  unfold eH at this
  rwa [fj hi] at this
 ·unfold eH
  rw[fj hi]
  exact h _ (List.getElem_mem hi)
theorem cC.part {w v:List UInt8} {L:Int} (h:cC w L) (hl:v.length≤w.length) (hm: ∀b∈v,b∈w):cC v L:=by
 obtain ⟨h1,h2,h3,h4⟩:=rW.1 h
 exact rW.2 ⟨h1,h2,by omega,fun b hb=>h4 b (hm b hb)⟩
theorem cC.left {u v:List UInt8} {L:Int} (h:cC (u++v) L):cC u L:=h.part (by simp) fun b hb=>List.mem_append_left _ hb
theorem cC.right {u v:List UInt8} {L:Int} (h:cC (u++v) L):cC v L:=h.part (by simp) fun b hb=>List.mem_append_right _ hb
theorem cC.app {u v:List UInt8} {L:Int} (h1:cC u L) (h2:cC v L) (hl:u.length+v.length≤2048):cC (u++v) L:=by
 obtain ⟨a1,a2,_,a4⟩:=rW.1 h1
 obtain ⟨_,_,_,b4⟩:=rW.1 h2
 refine rW.2 ⟨a1,a2,by rw[List.length_append];exact hl,fun b hb=> ?_⟩
 rcases List.mem_append.1 hb with hb|hb
 ·exact a4 b hb
 ·exact b4 b hb
theorem Zz (s:List UInt8) (n:Nat):CC Ax [.str s,.int .i64 (n:Int)]=some [.str (s.take n)]:=by
 refine akz ?_
 unfold Zy
 by_cases h:(n:Int)<(s.length:Int)
 ·rw[if_pos h]
  refine bT (Bool.and_eq_true_iff.2 ⟨decide_eq_true (by omega),decide_eq_true (by omega)⟩) ?_
  simp
 ·rw[if_neg h]
  refine bT (Bool.and_eq_true_iff.2 ⟨decide_eq_true (by omega),decide_eq_true (by omega)⟩) ?_
  rw[Int.toNat_natCast,List.drop_zero,Nat.sub_zero,List.take_length,List.take_of_length_le (by omega)]
section
variable {a b:Da} (ha:a.Ok) (hb:b.Ok) (hL:a.L=b.L)
include ha hb hL
end
noncomputable abbrev ZA:Code:=ch Tryd.prog (aq.aO 47)
noncomputable def DX (C:ae) (w:List UInt8) (i:Int) (yR:List V) {β:Type} (kn:(Int × (List V))→Option β) (kr:(Int × Bool × (List V))→Option β):Option β:=
 bif decide ((i:Int)<(w.length:Int)) then
  (bif decide (0≤i) then (w[(i:Int).toNat]?).map fun b=>V.int .u8 b.toNat else none).bind fun x1=>
  bif (decide (0≤(IntKind.wrap .i64 ((IntKind.wrap .i64 ((w.length:Int)-1))-i))))&&(decide ((IntKind.wrap .i64 ((IntKind.wrap .i64 ((w.length:Int)-1))-i))<(yR.length:Int))) then
  (yR[(IntKind.wrap .i64 ((IntKind.wrap .i64 ((w.length:Int)-1))-i):Int).toNat]?).bind fun x2=>
  kn (IntKind.wrap .i64 (i+1),yR.set ((IntKind.wrap .i64 ((IntKind.wrap .i64 ((w.length:Int)-1))-i):Int).toNat) (.int .u8 x1.toInt))
  else none
 else
  kr (i,decide ((i:Int)<(w.length:Int)),yR)
noncomputable def DY (C:ae) (w:List UInt8):(Int × (List V))→Option ((Int × (List V)) ⊕ (Int × Bool × (List V))):=un fun i yR=>DX C w i yR (fun y=>some (.inl y)) (fun r=>some (.inr r))
noncomputable def ZB (C:ae):b6:=fun β n ds k=>
 bif Nat.beq n 49 then bd Lg [false,true,true] [[1,0,0,0]] (@DX C) ds k else
 none
abbrev akA (C:ae) (b:bY):Prop:=bZ Tryd.prog aq C (ZB C) 47 (cm Tryd.prog (aq.aO 47)) (aq.sin 47).aW.length b
theorem akB (C:ae):akA C (.loop (an [1,1,0,1,0,0] ZA)):=
 bh Lg [false,true,true] [[1,0,0,0]] (@DX C) (by kernel_rfl) (aI (bs:=[]) (by kernel_rfl) ao) (fun ds=>by kernel_rfl) (fun i x=>by kernel_rfl) (fun i x β k=>by kernel_rfl) (fun β ds k=>by kernel_rfl)
noncomputable def ZC (C:ae) (w:List UInt8):Option (List V):=
 bif (decide (0≤(w.length:Int)))&&((decide ((w.length:Int)≤(w.length:Int)))&&(Nat.ble ((((w.length:Int):Int).toNat)*1) cg)) then
  (Loop (DY C w) (0,List.replicate (((w.length:Int):Int).toNat) (V.int .u8 0))).bind (un fun (i_3:Int)=>un fun (iX:Bool) (akC:List V)=>
   some [.str (kA akC)])
 else none
theorem akD {w:List UInt8} {r:Option (List V)} (h:ZC CC w=r):CC Gd [.str w]=r:=
 bf (key:=47) (L:=ZB CC) (bs:=[.loop (an [1,1,0,1,0,0] ZA)]) (by kernel_rfl) (aU (akB CC) ao) (Eq.trans (by kernel_rfl) h)
theorem akE {w:List UInt8} {i:Nat} (h:i<w.length):(bif decide (0≤(i:Int)) then (w[((i:Nat):Int).toNat]?).map (fun b=>V.int .u8 b.toNat) else none)=some (.int .u8 (w[i].toNat:Int)):=by
 rw[Bu h,fj h]
def DZ (b:UInt8):V:= .int .u8 (b.toNat:Int)
theorem akF (w:List UInt8):kA (w.map DZ)=w:=by
 unfold kA
 rw[List.map_map]
 conv=>rhs;rw[←List.map_id w]
 apply List.map_congr_left
 intro b _
 simp[DZ]
theorem akG {w:List UInt8} (hl:w.length≤1000000):CC Gd [.str w]=some [.str w.reverse]:=by
 refine akD ?_
 unfold ZC
 rw[cl,ar,if_pos (by omega),cl,ar,if_pos (by omega),FX,if_pos (by rw[xn];omega)]
 have:=Ar (step:=DY CC w) (fun i=>((i:Int),List.replicate (w.length-i) (V.int .u8 0)++((w.take i).reverse.map DZ))) w.length (r:=((w.length:Int),false,w.reverse.map DZ)) ?_ ?_
 ·simp only[Int.toNat_natCast]
  simp only[Nat.sub_zero,List.take_zero,List.reverse_nil,List.map_nil,List.append_nil] at this
  rw[show Loop (DY CC w) (0,List.replicate w.length (V.int .u8 0))=_ from this]
  simp only[Option.bind_some,un,akF]
 ·intro i hi
  simp only[DY,DX,un]
  rw[ar,if_pos (by omega),akE hi]
  simp only[Option.bind_some,V.toInt_int]
  have e1:IntKind.wrap .i64 (IntKind.wrap .i64 ((w.length:Int)-1)-(i:Int))=((w.length-i-1:Nat):Int):=by
   rw[wrap64 (x:=(w.length:Int)-1) (by omega) (by omega),wrap64 (by omega) (by omega)];omega
  obtain ⟨d,hd⟩: ∃d,w.length-i=d+1:=⟨w.length-i-1,by omega⟩
  have lC:w.length-(i+1)=d:=by omega
  rw[e1,hd,lC]
  simp only[Nat.add_sub_cancel]
  rw[cl,ar,if_pos (by omega),ar,if_pos (by simp only[List.length_append,List.length_replicate];omega),Int.toNat_natCast]
  have hg:(List.replicate (d+1) (V.int .u8 0)++((w.take i).reverse.map DZ))[d]? =some (V.int .u8 0):=by
   rw[List.getElem?_append_left (by simp)];simp
  rw[hg]
  simp only[Option.bind_some]
  rw[bK,wrap64 (by omega) (by omega),List.set_append_left _ _ (by simp),List.replicate_succ',List.set_append_right _ _ (by simp),←List.take_append_getElem hi,List.length_replicate,Nat.sub_self,List.reverse_append,List.map_append]
  simp only[List.set_cons_zero,List.reverse_cons,List.reverse_nil,List.nil_append,List.map_cons,List.map_nil,List.append_assoc,List.singleton_append]
  rfl
 ·simp only[DY,DX,un]
  rw[jS (by omega),cond_false,Nat.sub_self,List.take_length]
  rfl
theorem akH {w:List UInt8} {L:Int}:cC w.reverse L↔cC w L:=by
 rw[rW,rW,List.length_reverse]
 simp only[List.mem_reverse]
theorem ZD {w:List UInt8}:lets w.reverse=(lets w).reverse:=by simp[lets,List.map_reverse]
theorem WT.PT {P:Program} {t:TypeId} {x:V} (hu:P.underlying t=some (.int .i64)) (h:WT P t x): ∃n:Int,x= .int .i64 n∧ -9223372036854775808≤n∧n≤9223372036854775807:=by
 obtain ⟨n,rfl,h1,h2⟩:=h.eM hu
 have e1:IntKind.min .i64= -9223372036854775808:=by decide
 have e2:IntKind.max .i64=9223372036854775807:=by decide
 rw[e1] at h1
 rw[e2] at h2
 exact ⟨n,rfl,h1,h2⟩
theorem akI {α:Type} {l:List α} (h:l.length=4): ∃a b c d,l=[a,b,c,d]:=by
 match l,h with
 | [a,b,c,d],_=>exact ⟨a,b,c,d,rfl⟩
theorem akJ {x:V} (h:fF Tryd.prog aG x): ∃r:List Int,x=kT r∧(r.length≤maxLen∧∀q∈r,-9223372036854775808≤q∧q≤9223372036854775807):=by
 have hu:Tryd.prog.underlying aG=some (.slice bt):=by kernel_rfl
 have hi:Tryd.prog.underlying bt=some (.int .i64):=by kernel_rfl
 obtain ⟨es,rfl,e1,e2⟩:=WT.FY hu (fF.one (by kernel_rfl) h)
 obtain ⟨r,rfl,hr⟩:=FZ (f:=iV) (p:=fun q=> -9223372036854775808≤q∧q≤9223372036854775807) fun y hy=>WT.PT hi (fF.one (by kernel_rfl) (e2 y hy))
 exact ⟨r,rfl,by simpa using e1,hr⟩
def Df.enc (d:Df):V:= .agg (rY d [])
theorem Z3 {t:TypeId} {x:V} (ha:bG Tryd.prog t=true) (he:aY Tryd.prog t=[bt,bt,KH,KI]) (h:fF Tryd.prog t x): ∃d:Df,x=d.enc∧d.Ok:=by
 obtain ⟨xs,rfl,hl,hx⟩:=fF.kH ha h
 rw[he] at hl
 obtain ⟨a,b,c,d,rfl⟩:=akI hl
 have hu:Tryd.prog.underlying bt=some (.int .i64):=by kernel_rfl
 have hb:Tryd.prog.underlying aD=some .bool:=by kernel_rfl
 have hv:Tryd.prog.underlying KH=some (.slice aD):=by kernel_rfl
 have hw:Tryd.prog.underlying KI=some (.slice aG):=by kernel_rfl
 obtain ⟨L,rfl,l1,l2⟩:=WT.PT hu (hx 0 bt a (by rw[he];rfl) rfl)
 obtain ⟨S,rfl,s1,s2⟩:=WT.PT hu (hx 1 bt b (by rw[he];rfl) rfl)
 obtain ⟨fs,rfl,f1,f2⟩:=WT.FY hv (hx 2 KH c (by rw[he];rfl) rfl)
 obtain ⟨ns,rfl,n1,n2⟩:=WT.FY hw (hx 3 KI d (by rw[he];rfl) rfl)
 obtain ⟨F,rfl⟩:=Tn (f:=V.bool) fun y hy=>WT.jF hb (fF.one (by kernel_rfl) (f2 y hy))
 obtain ⟨N,rfl,hN⟩:=FZ (f:=kT) fun y hy=>akJ (n2 y hy)
 exact ⟨⟨L,S,F,N⟩,rfl,l1,l2,s1,s2,by simpa using f1,by simpa using n1,hN⟩
def vD (l:List (List UInt8)):V:= .list qY (l.map V.str)
theorem Z4 {t:TypeId} {x:V} (hu:Tryd.prog.underlying t=some (.slice qY)) (hn:bG Tryd.prog t=false) (h:fF Tryd.prog t x): ∃l:List (List UInt8),x=vD l∧l.length≤maxLen∧∀w∈l,w.length≤maxLen:=by
 have hs:Tryd.prog.underlying qY=some .string:=by kernel_rfl
 obtain ⟨es,rfl,e1,e2⟩:=WT.FY hu (fF.one hn h)
 obtain ⟨l,rfl,hl⟩:=FZ (f:=V.str) (p:=fun w=>w.length≤maxLen) fun y hy=>fF.str hs (e2 y hy)
 exact ⟨l,rfl,by simpa using e1,hl⟩
noncomputable def ZE (C:ae) (aJ aP:Int) (aF aM:List V) (w:List UInt8):Option (List V):=
 (C sN [.int .i64 aJ,.int .i64 aP,.list aD aF,.list aG aM]).bind fun r1=>
 bif (((V.nth (r1.drop 2) 0).toInt):Int) != 0 then
  some [.int .i64 0,.int .i64 0,.int .i64 ((V.nth (r1.drop 2) 0).toInt),.list aD ([]:List V),.list aG ([]:List V)]
 else
  (C uC [.str w,.int .i64 aJ]).bind fun r2=>
  bif !((V.nth r2 0).toBool) then
  some [.int .i64 0,.int .i64 0,.int .i64 1,.list aD ([]:List V),.list aG ([]:List V)]
  else
  (C uD [.int .i64 ((V.nth r1 0).toInt),.int .i64 ((V.nth (r1.drop 1) 0).toInt),.list aD ((V.nth (r1.drop 3) 0).toList),.list aG ((V.nth ((r1.drop 3).drop 1) 0).toList),.int .i64 ((V.nth (r1.drop 1) 0).toInt),.str w]).bind fun r3=>
  (C qT [.int .i64 ((V.nth r1 0).toInt),.int .i64 ((V.nth r3 0).toInt),.list aD ((V.nth (r1.drop 3) 0).toList),.list aG ((V.nth ((r1.drop 3).drop 1) 0).toList)]).bind fun r4=>
  some [.int .i64 ((V.nth r4 0).toInt),.int .i64 ((V.nth (r4.drop 1) 0).toInt),.int .i64 0,.list aD ((V.nth (r4.drop 2) 0).toList),.list aG ((V.nth ((r4.drop 2).drop 1) 0).toList)]
theorem akK {aJ aP:Int} {aF aM:List V} {w:List UInt8} {r:Option (List V)} (h:ZE CC aJ aP aF aM w=r):CC F9 [.int .i64 aJ,.int .i64 aP,.list aD aF,.list aG aM,.str w]=r:=
 bf (key:=32) (L:=dq) (bs:=[]) (by kernel_rfl) ao (Eq.trans (by kernel_rfl) h)
noncomputable abbrev ZF:Code:=ch Tryd.prog (aq.aO 33)
noncomputable def D0 (C:ae) (w:List UInt8) (t30 nW nX gm gn:Int) (gq dt dL cD:List V) (t31:Int) (yS:List V) {β:Type} (kn:(Int × (List V))→Option β) (kr:(Int × Bool × (List V))→Option β):Option β:=
 bif decide ((t31:Int)<t30) then
  (C uD [.int .i64 gm,.int .i64 gn,.list aD dL,.list aG cD,.int .i64 t31,.str w]).bind fun r3=>
  bif (decide (0≤((V.nth r3 0).toInt)))&&(decide (((V.nth r3 0).toInt)<(dL.length:Int))) then
  (dL[((V.nth r3 0).toInt:Int).toNat]?).bind fun x4=>
  bif (decide (0≤t31))&&(decide (t31<(yS.length:Int))) then
   (yS[(t31:Int).toNat]?).bind fun x5=>
   kn (IntKind.wrap .i64 (t31+1),yS.set ((t31:Int).toNat) (.bool x4.toBool))
  else none
  else none
 else
  kr (t31,decide ((t31:Int)<t30),yS)
noncomputable def Ip (C:ae) (w:List UInt8) (t30 nW nX gm gn:Int) (gq dt dL cD:List V):(Int × (List V))→Option ((Int × (List V)) ⊕ (Int × Bool × (List V))):=un fun t31 yS=>D0 C w t30 nW nX gm gn gq dt dL cD t31 yS (fun y=>some (.inl y)) (fun r=>some (.inr r))
noncomputable def ZG (C:ae):b6:=fun β n ds k=>
 bif Nat.beq n 129 then bd K8 [false,false,true,false,false,false,false,true,false,false,false,false] [[1,2,0,0,4,5,6,7,0,9,10,11,12]] (@D0 C) ds k else
 none
abbrev akL (C:ae) (b:bY):Prop:=bZ Tryd.prog aq C (ZG C) 33 (cm Tryd.prog (aq.aO 33)) (aq.sin 33).aW.length b
theorem akM (C:ae):akL C (.loop (an [1,1,1,1,1,0,1,0,0] ZF)):=
 bh K8 [false,false,true,false,false,false,false,true,false,false,false,false] [[1,2,0,0,4,5,6,7,0,9,10,11,12]] (@D0 C) (by kernel_rfl) (aI (bs:=[]) (by kernel_rfl) ao) (fun ds=>by kernel_rfl) (fun i x=>by kernel_rfl) (fun i x β k=>by kernel_rfl) (fun β ds k=>by kernel_rfl)
noncomputable def ZH (C:ae) (aJ aP:Int) (aF aM:List V) (w:List UInt8):Option (List V):=
 (C sN [.int .i64 aJ,.int .i64 aP,.list aD aF,.list aG aM]).bind fun r1=>
 bif (((V.nth (r1.drop 2) 0).toInt):Int) != 0 then
  some [.int .i64 0,.int .i64 0,.int .i64 ((V.nth (r1.drop 2) 0).toInt),.list aD ([]:List V),.list aG ([]:List V)]
 else
  (C uC [.str w,.int .i64 aJ]).bind fun r2=>
  bif !((V.nth r2 0).toBool) then
  some [.int .i64 0,.int .i64 0,.int .i64 1,.list aD ([]:List V),.list aG ([]:List V)]
  else
  bif (decide (0≤(((V.nth (r1.drop 3) 0).toList).length:Int)))&&((decide ((((V.nth (r1.drop 3) 0).toList).length:Int)≤(((V.nth (r1.drop 3) 0).toList).length:Int)))&&(Nat.ble ((((((V.nth (r1.drop 3) 0).toList).length:Int):Int).toNat)*1) cg)) then
   (Loop (Ip C w ((List.replicate (((((V.nth (r1.drop 3) 0).toList).length:Int):Int).toNat) (V.bool false)).length:Int) 0 0 ((V.nth r1 0).toInt) ((V.nth (r1.drop 1) 0).toInt) ([]:List V) ([]:List V) ((V.nth (r1.drop 3) 0).toList) ((V.nth ((r1.drop 3).drop 1) 0).toList)) (0,List.replicate (((((V.nth (r1.drop 3) 0).toList).length:Int):Int).toNat) (V.bool false))).bind (un fun (nJ:Int)=>un fun (mO:Bool) (akN:List V)=>
    (C qT [.int .i64 ((V.nth r1 0).toInt),.int .i64 ((V.nth (r1.drop 1) 0).toInt),.list aD akN,.list aG ((V.nth ((r1.drop 3).drop 1) 0).toList)]).bind fun r9=>
    some [.int .i64 ((V.nth r9 0).toInt),.int .i64 ((V.nth (r9.drop 1) 0).toInt),.int .i64 0,.list aD ((V.nth (r9.drop 2) 0).toList),.list aG ((V.nth ((r9.drop 2).drop 1) 0).toList)])
  else none
theorem akO {aJ aP:Int} {aF aM:List V} {w:List UInt8} {r:Option (List V)} (h:ZH CC aJ aP aF aM w=r):CC Ga [.int .i64 aJ,.int .i64 aP,.list aD aF,.list aG aM,.str w]=r:=
 bf (key:=33) (L:=ZG CC) (bs:=[.loop (an [1,1,1,1,1,0,1,0,0] ZF)]) (by kernel_rfl) (aU (akM CC) ao) (Eq.trans (by kernel_rfl) h)
noncomputable abbrev yT:Code:=ch Tryd.prog (aq.aO 17)
noncomputable def D1 (C:ae) (cZ t33:List V) (t34 bc bn:Int) (bA bz:List V) (nW nX gm gn:Int) (gq dt dL cD:List V) (t35:Int) {β:Type} (kn:Int→Option β) (kr:((Int × Int × Int × (List V) × (List V)) ⊕ (Int × Bool))→Option β):Option β:=
 bif decide ((t35:Int)<t34) then
  (idx t33 t35).bind fun x2=>
  (C uC [.str x2.toStr,.int .i64 bc]).bind fun r3=>
  bif !((V.nth r3 0).toBool) then
  kr (.inl (1,0,0,([]:List V),([]:List V)))
  else
  kn (IntKind.wrap .i64 (t35+1))
 else
  kr (.inr (t35,decide ((t35:Int)<t34)))
noncomputable def PU (C:ae) (cZ t33:List V) (t34 bc bn:Int) (bA bz:List V) (nW nX gm gn:Int) (gq dt dL cD:List V):(Int)→Option ((Int) ⊕ ((Int × Int × Int × (List V) × (List V)) ⊕ (Int × Bool))):=fun t35=>D1 C cZ t33 t34 bc bn bA bz nW nX gm gn gq dt dL cD t35 (fun y=>some (.inl y)) (fun r=>some (.inr r))
noncomputable def D2 (C:ae) (cZ:List V) (q t55 t56:Int) (t62:List V) (t63 nW nX gm gn yU yV:Int) (dt dL cD cv cY:List V) (t64:Int) (rows:List V) {β:Type} (kn:(Int × (List V))→Option β) (kr:(Int × Bool × (List V))→Option β):Option β:=
 bif decide ((t64:Int)<t63) then
  (idx t62 t64).bind fun dH=>
  (C uD [.int .i64 gm,.int .i64 gn,.list aD cD,.list aG cv,.int .i64 q,.str dH.toStr]).bind fun fw=>
  bif (decide (0≤t64))&&(decide (t64<(rows.length:Int))) then
  (rows[(t64:Int).toNat]?).bind fun dW=>
  kn (IntKind.wrap .i64 (t64+1),rows.set ((t64:Int).toNat) (.int .i64 ((V.nth fw 0).toInt)))
  else none
 else
  kr (t64,decide ((t64:Int)<t63),rows)
noncomputable def PV (C:ae) (cZ:List V) (q t55 t56:Int) (t62:List V) (t63 nW nX gm gn yU yV:Int) (dt dL cD cv cY:List V):(Int × (List V))→Option ((Int × (List V)) ⊕ (Int × Bool × (List V))):=un fun t64 rows=>D2 C cZ q t55 t56 t62 t63 nW nX gm gn yU yV dt dL cD cv cY t64 rows (fun y=>some (.inl y)) (fun r=>some (.inr r))
noncomputable def D3 (C:ae) (cZ:List V) (t55 nW nX gm gn yU yV:Int) (gq dt dL cD:List V) (t56:Int) (cv:List V) {β:Type} (kn:(Int × (List V))→Option β) (kr:(Int × Bool × (List V))→Option β):Option β:=
 bif decide ((t56:Int)<t55) then
  bif (decide (0≤(cZ.length:Int)))&&((decide ((cZ.length:Int)≤(cZ.length:Int)))&&(Nat.ble ((((cZ.length:Int):Int).toNat)*8) cg)) then
  (Loop (PV C cZ t56 t55 t56 cZ (cZ.length:Int) nW nX gm gn yU yV gq dt dL cD cv) (0,List.replicate (((cZ.length:Int):Int).toNat) (V.int .i64 0))).bind (un fun (uS:Int)=>un fun (aiN:Bool) (ZI:List V)=>
   bif Nat.ble ((cv.length+([.list bt ZI]:List V).length)*24) cg then
    kn (IntKind.wrap .i64 (t56+1),cv++([.list bt ZI]:List V))
   else none)
  else none
 else
  kr (t56,decide ((t56:Int)<t55),cv)
noncomputable def Iq (C:ae) (cZ:List V) (t55 nW nX gm gn yU yV:Int) (gq dt dL cD:List V):(Int × (List V))→Option ((Int × (List V)) ⊕ (Int × Bool × (List V))):=un fun t56 cv=>D3 C cZ t55 nW nX gm gn yU yV gq dt dL cD t56 cv (fun y=>some (.inl y)) (fun r=>some (.inr r))
noncomputable def ZJ (C:ae):b6:=fun β n ds k=>
 bif Nat.beq n 113 then bd K4 [false,false,false,true,false,false,false,false,false,false,false,false,false,false,false,false] [[0,0,0,0,0],[1,2,3,0,0,5,6,7,8,9,10,11,12,13,14,15,16]] (@D1 C) ds k else
 bif Nat.beq n 289 then bd K5 [false,false,false,false,false,false,true,false,false,false,false,false,false,true,false,false,false,false,false] [[1,2,3,4,5,6,0,0,8,9,10,11,12,13,0,15,16,17,18,19]] (@D2 C) ds k else
 bif Nat.beq n 225 then bd K6 [false,false,true,false,false,false,false,false,false,false,false,false,false,true] [[1,2,0,0,4,5,6,7,8,9,10,11,12,13,0]] (@D3 C) ds k else
 none
abbrev PW (C:ae) (b:bY):Prop:=bZ Tryd.prog aq C (ZJ C) 17 (cm Tryd.prog (aq.aO 17)) (aq.sin 17).aW.length b
theorem akP (C:ae):PW C (.loop (an [1,1,1,1,0,1,0,0] yT)):=
 bh K4 [false,false,false,true,false,false,false,false,false,false,false,false,false,false,false,false] [[0,0,0,0,0],[1,2,3,0,0,5,6,7,8,9,10,11,12,13,14,15,16]] (@D1 C) (by kernel_rfl) (aI (bs:=[]) (by kernel_rfl) ao) (fun ds=>by kernel_rfl) (fun i x=>by kernel_rfl) (fun i x β k=>by kernel_rfl) (fun β ds k=>by kernel_rfl)
theorem akQ (C:ae):PW C (.loop (an [1,1,1,1,1,1,0,1,0,0,1,1,0,0,1,1,0,1,0,0] yT)):=
 bh K5 [false,false,false,false,false,false,true,false,false,false,false,false,false,true,false,false,false,false,false] [[1,2,3,4,5,6,0,0,8,9,10,11,12,13,0,15,16,17,18,19]] (@D2 C) (by kernel_rfl) (aI (bs:=[]) (by kernel_rfl) ao) (fun ds=>by kernel_rfl) (fun i x=>by kernel_rfl) (fun i x β k=>by kernel_rfl) (fun β ds k=>by kernel_rfl)
theorem akR (C:ae):PW C (.loop (an [1,1,1,1,1,1,0,1,0,0] yT)):=
 bh K6 [false,false,true,false,false,false,false,false,false,false,false,false,false,true] [[1,2,0,0,4,5,6,7,8,9,10,11,12,13,0]] (@D3 C) (by kernel_rfl) (aI (bs:=[.loop (an [1,1,1,1,1,1,0,1,0,0,1,1,0,0,1,1,0,1,0,0] yT)]) (by kernel_rfl) (aU (akQ C) ao)) (fun ds=>by kernel_rfl) (fun i x=>by kernel_rfl) (fun i x β k=>by kernel_rfl) (fun β ds k=>by kernel_rfl)
noncomputable def ZK (C:ae) (aJ aP:Int) (aF aM cZ:List V):Option (List V):=
 (C sN [.int .i64 aJ,.int .i64 aP,.list aD aF,.list aG aM]).bind fun r1=>
 bif (((V.nth (r1.drop 2) 0).toInt):Int) != 0 then
  some [.int .i64 0,.int .i64 0,.int .i64 ((V.nth (r1.drop 2) 0).toInt),.list aD ([]:List V),.list aG ([]:List V)]
 else
  bif decide (((cZ.length:Int):Int)<1) then
  some [.int .i64 0,.int .i64 0,.int .i64 1,.list aD ([]:List V),.list aG ([]:List V)]
  else
  bif decide (((cZ.length:Int):Int)>6) then
   some [.int .i64 0,.int .i64 0,.int .i64 1,.list aD ([]:List V),.list aG ([]:List V)]
  else
   (Loop (PU C cZ cZ (cZ.length:Int) aJ aP aF aM 0 0 ((V.nth r1 0).toInt) ((V.nth (r1.drop 1) 0).toInt) ([]:List V) ([]:List V) ((V.nth (r1.drop 3) 0).toList) ((V.nth ((r1.drop 3).drop 1) 0).toList)) 0).bind (cI (un fun (iX:Int)=>un fun (akS:Int)=>un fun (akT:Int)=>un fun (b_7:List V) (PL:List V)=>
    some [.int .i64 akS,.int .i64 akT,.int .i64 iX,.list aD b_7,.list aG PL]) (un fun (mT:Int) (Ns:Bool)=>
    (Loop (Iq C cZ (((V.nth (r1.drop 3) 0).toList).length:Int) 0 0 ((V.nth r1 0).toInt) ((V.nth (r1.drop 1) 0).toInt) (cZ.length:Int) ((V.nth (r1.drop 1) 0).toInt) ([]:List V) ([]:List V) ((V.nth (r1.drop 3) 0).toList) ((V.nth ((r1.drop 3).drop 1) 0).toList)) (0,([]:List V))).bind (un fun (aiR:Int)=>un fun (NR:Bool) (BF:List V)=>
     (C qT [.int .i64 (cZ.length:Int),.int .i64 ((V.nth (r1.drop 1) 0).toInt),.list aD ((V.nth (r1.drop 3) 0).toList),.list aG BF]).bind fun dv=>
     some [.int .i64 ((V.nth dv 0).toInt),.int .i64 ((V.nth (dv.drop 1) 0).toInt),.int .i64 0,.list aD ((V.nth (dv.drop 2) 0).toList),.list aG ((V.nth ((dv.drop 2).drop 1) 0).toList)])))
theorem akU {aJ aP:Int} {aF aM cZ:List V} {r:Option (List V)} (h:ZK CC aJ aP aF aM cZ=r):CC F8 [.int .i64 aJ,.int .i64 aP,.list aD aF,.list aG aM,.list qY cZ]=r:=
 bf (key:=17) (L:=ZJ CC) (bs:=[.loop (an [1,1,1,1,0,1,0,0] yT),.loop (an [1,1,1,1,1,1,0,1,0,0] yT)]) (by kernel_rfl) (aU (akP CC) (aU (akR CC) ao)) (Eq.trans (by kernel_rfl) h)
noncomputable abbrev ZL:Code:=ch Tryd.prog (aq.aO 20)
noncomputable def D4 (C:ae) (bu:Int) (empty:Bool) (t25:List V) (t26 t27:Int) {β:Type} (kn:Int→Option β) (kr:((Bool) ⊕ (Int × Bool))→Option β):Option β:=
 bif decide ((t27:Int)<t26) then
  (idx t25 t27).bind fun x3=>
  (C wX [.str x3.toStr,.int .i64 bu]).bind fun r4=>
  bif !((V.nth r4 0).toBool) then
  kr (.inl false)
  else
  bif !empty then
   bif x3.toStr==[] then
   kr (.inl false)
   else
   kn (IntKind.wrap .i64 (t27+1))
  else
   kn (IntKind.wrap .i64 (t27+1))
 else
  kr (.inr (t27,decide ((t27:Int)<t26)))
noncomputable def PX (C:ae) (bu:Int) (empty:Bool) (t25:List V) (t26:Int):(Int)→Option ((Int) ⊕ ((Bool) ⊕ (Int × Bool))):=fun t27=>D4 C bu empty t25 t26 t27 (fun y=>some (.inl y)) (fun r=>some (.inr r))
noncomputable def ZM (C:ae):b6:=fun β n ds k=>
 bif Nat.beq n 65 then bd K7 [false,false,false,false,true] [[0],[1,2,3,4,0,0]] (@D4 C) ds k else
 none
abbrev akV (C:ae) (b:bY):Prop:=bZ Tryd.prog aq C (ZM C) 20 (cm Tryd.prog (aq.aO 20)) (aq.sin 20).aW.length b
theorem akW (C:ae):akV C (.loop (an [1,1,0,1,0,0] ZL)):=
 bh K7 [false,false,false,false,true] [[0],[1,2,3,4,0,0]] (@D4 C) (by kernel_rfl) (aI (bs:=[]) (by kernel_rfl) ao) (fun ds=>by kernel_rfl) (fun i x=>by kernel_rfl) (fun i x β k=>by kernel_rfl) (fun β ds k=>by kernel_rfl)
noncomputable def PY (C:ae) (cZ:List V) (many bu:Int) (empty:Bool):Option (List V):=
 (C uB [.int .i64 bu]).bind fun r1=>
 bif !((V.nth r1 0).toBool) then
  some [.bool false]
 else
  bif ((cZ.length:Int):Int) != many then
  some [.bool false]
  else
  (C uB [.int .i64 many]).bind fun r2=>
  bif !((V.nth r2 0).toBool) then
   some [.bool false]
  else
   (Loop (PX C bu empty cZ (cZ.length:Int)) 0).bind (cI (fun (lP:Bool)=>
    some [.bool lP]) (un fun (nJ:Int) (mO:Bool)=>
    some [.bool true]))
theorem ZN {cZ:List V} {many bu:Int} {empty:Bool} {r:Option (List V)} (h:PY CC cZ many bu empty=r):CC Aw [.list qY cZ,.int .i64 many,.int .i64 bu,.bool empty]=r:=
 bf (key:=20) (L:=ZM CC) (bs:=[.loop (an [1,1,0,1,0,0] ZL)]) (by kernel_rfl) (aU (akW CC) ao) (Eq.trans (by kernel_rfl) h)
end Go.AM
set_option maxRecDepth 100000
namespace Go.AM
open Go.Proofs
namespace Da
def jy (a:Da) (f:Nat→Bool):Da:=⟨a.L,a.st,tab a.n f,a.N⟩
def p6 (a:Da) (s:Nat):Da:=⟨a.L,s,a.F,a.N⟩
def pre (a:Da) (k:Nat) (g:Nat→List Nat):Da:=⟨k,a.st,a.F,tab a.n fun q=>tab k fun x=>a.run q (g x)⟩
theorem yW {a:Da} {f:Nat→Bool}:(a.jy f).n=a.n:=by simp[jy,n]
theorem ZO {a:Da} {f:Nat→Bool} {q:Nat} (h:q<a.n):(a.jy f).fin q=f q:=by
 show (tab a.n f).getD q false=f q
 exact rq h
theorem Ok.jy {a:Da} (h:a.Ok) {f:Nat→Bool}:(a.jy f).Ok:=⟨h.l1,h.l6,by rw[yW];exact h.nN,fun r hr=>by rw[yW];exact h.row r hr,by rw[yW];exact h.s,by rw[yW];exact h.eP⟩
theorem Ok.p6 {a:Da} (h:a.Ok) {s:Nat} (hs:s<a.n):(a.p6 s).Ok:=⟨h.l1,h.l6,h.nN,h.row,hs,h.eP⟩
theorem akX {a:Da} {f:Nat→Bool} {q:Nat} {w:List Nat}:(a.jy f).run q w=a.run q w:=rfl
theorem akY {a:Da} (h:a.Ok) {f:Nat→Bool} {q:Nat} (hq:q<a.n) {w:List Nat} (hw:WL a.L w):(a.jy f).acc q w=f (a.run q w):=by
 unfold acc
 rw[akX,ZO (h.pL w hq hw)]
theorem akZ {a:Da} {f:Nat→Bool}:(a.jy f).dg=bV a.n f:=by
 unfold dg bV
 rw[yW]
 exact fa fun q hq=>by rw[ZO hq]
theorem ak0 {a:Da} {f:Nat→Bool}:(a.jy f).cQ=a.cQ:=by unfold cQ;rw[yW];rfl
theorem ak1 {a:Da} {k:Nat} {g:Nat→List Nat}:(a.pre k g).n=a.n:=rfl
theorem ZP {a:Da} {k:Nat} {g:Nat→List Nat} {q x:Nat} (hq:q<a.n) (hx:x<k):(a.pre k g).nx q x=a.run q (g x):=by
 show ((tab a.n fun q=>tab k fun x=>a.run q (g x)).getD q []).getD x 0=_
 rw[rq hq,rq hx]
theorem Ok.pre {a:Da} (h:a.Ok) {k:Nat} {g:Nat→List Nat} (h1:1≤k) (h6:k≤6) (hg: ∀x,x<k→WL a.L (g x)):(a.pre k g).Ok:=⟨h1,h6,by simp[Da.pre,n],fun r hr=>by
 obtain ⟨q,hq,rfl⟩:=ry.1 hr
 refine ⟨by simp[Da.pre],fun s hs=> ?_⟩
 obtain ⟨x,hx,rfl⟩:=ry.1 hs
 exact h.pL _ hq (hg x hx),h.s,h.eP⟩
theorem ZQ {a:Da} (h:a.Ok) {k:Nat} {g:Nat→List Nat} (hg: ∀x,x<k→WL a.L (g x)): ∀(w:List Nat) {q:Nat},q<a.n→WL k w→(a.pre k g).run q w=a.run q (w.flatMap g)
 | [],_,_,_=>rfl
 | x::w,q,hq,hw=>by
  rw[VA,ZP hq hw.head,ZQ h hg w (h.pL _ hq (hg x hw.head)) hw.tail,List.flatMap_cons,M9]
theorem ak2 {a:Da} (h:a.Ok) {k:Nat} {g:Nat→List Nat} (hg: ∀x,x<k→WL a.L (g x)) {w:List Nat} {q:Nat} (hq:q<a.n) (hw:WL k w):(a.pre k g).acc q w=a.acc q (w.flatMap g):=by
 show (a.pre k g).fin ((a.pre k g).run q w)=_
 rw[ZQ h hg w hq hw];rfl
end Da
section
variable {a:Da} (h:a.Ok) {w:List UInt8}
include h
theorem ak3 (hw:cC w (a.L:Int)):CC F9 (lS a [.str w])=some (kX (minD ((minD a).p6 ((minD a).run (minD a).st (lets w)))) 0):=by
 have hm:=lp h
 have mE:cC w ((minD a).L:Int):=by rw[ng h];exact hw
 refine akK ?_
 unfold ZE
 refine bs (yw h) (bF rfl ?_)
 refine bs (Hf w a.L) (bF (by simp[hw]) ?_)
 have hr:=Hh hm hm.s w
 rw[if_pos mE] at hr
 refine bs hr ?_
 refine bs (Cc (hm.p6 (hm.pL (lets w) hm.s mE.WL))) ?_
 rfl
theorem ak4 (hw:cC w (a.L:Int)):CC Ga (lS a [.str w])=some (kX (minD ((minD a).jy fun q=>(minD a).fin ((minD a).run q (lets w)))) 0):=by
 have hm:=lp h
 have hn:=hm.eP
 have mE:cC w ((minD a).L:Int):=by rw[ng h];exact hw
 refine akO ?_
 unfold ZH
 refine bs (yw h) (bF rfl ?_)
 refine bs (Hf w a.L) (bF (by simp[hw]) ?_)
 have e0:(V.nth ((kX (minD a) 0).drop 3) 0).toList=(minD a).dg:=rfl
 rw[e0,Da.pO]
 refine bT (mU (by omega) (by omega)) ?_
 rw[Int.toNat_natCast,nM,ft]
 have key: ∀{k1 k2:Int} {l1 l2:List V},Loop (Ip CC w ((minD a).n:Int) k1 k2 ((minD a).L:Int) ((minD a).st:Int) l1 l2 (minD a).dg (minD a).cQ) (0,(tab (minD a).n fun _=>V.bool false))=some (((minD a).n:Int),false,(bV (minD a).n fun q=>(minD a).fin ((minD a).run q (lets w)))):=by
  intro k1 k2 l1 l2
  refine (fu (minD a).n (fun i=>((i:Int),(tab (minD a).n fun q=>if q<i then V.bool ((minD a).fin ((minD a).run q (lets w))) else V.bool false))) _ (fun q hq=> ?_) ?_)
  ·have hr:=Hh hm hq w
   rw[if_pos mE] at hr
   simp only[Ip,D0,un]
   refine bT (er hq) ?_
   refine bs hr ?_
   refine (fQ (i:=(minD a).run q (lets w)) (hm.pL (lets w) hq mE.WL)).trans ?_
   refine (fQ (i:=q) hq).trans ?_
   rw[dI (by omega),Int.toNat_natCast]
   exact congrArg (fun x=>some (Sum.inl (((q+1:Nat):Int),x))) (xR (f:=fun q=>V.bool ((minD a).fin ((minD a).run q (lets w)))) rfl)
  ·simp only[Ip,D0,un]
   refine bF (bM (Nat.le_refl _)) ?_
   rw[bM (Nat.le_refl _)]
   exact congrArg (fun x=>some (Sum.inr (((minD a).n:Int),false,x))) (Cp (f:=fun q=>V.bool ((minD a).fin ((minD a).run q (lets w)))))
 refine bs key ?_
 have hM:=Cc (hm.jy (f:=fun q=>(minD a).fin ((minD a).run q (lets w))))
 unfold eI lS at hM
 rw[Da.akZ,Da.ak0] at hM
 refine bs hM ?_
 rfl
end
section
variable {d:Df} (h:d.Ok) (hv:d.val≠0)
include h hv
end
theorem Ir {l:List (List UInt8)} {i:Nat} (h:i<l.length):idx (l.map V.str) (i:Int)=some (.str (l.getD i [])):=Bq h
def tm (l:List (List UInt8)) (L:Int):Prop:= ∀i,i<l.length→cC (l.getD i []) L
instance (l:List (List UInt8)) (L:Int):Decidable (tm l L):=by unfold tm;infer_instance
theorem ak5 {l:List (List UInt8)} (hl:l.length≤maxLen) {L:Int}:CC Aw [vD l,.int .i64 (l.length:Int),.int .i64 L,.bool true]=some [.bool (decide (1≤L∧L≤6∧1≤l.length∧l.length≤6∧tm l L))]:=by
 refine ZN ?_
 unfold PY
 refine bs (AX L) ?_
 by_cases h1:1≤L∧L≤6
 case neg=>
  refine bT (by simp[h1]) ?_
  rw[decide_eq_false fun h=>h1 ⟨h.1,h.2.1⟩]
 refine bF (by simp[h1]) ?_
 rw[List.length_map]
 refine bF (by simp) ?_
 refine bs (AX _) ?_
 by_cases h2:1≤l.length∧l.length≤6
 case neg=>
  refine bT (by simp;omega) ?_
  rw[decide_eq_false fun h=>h2 ⟨h.2.2.1,h.2.2.2.1⟩]
 refine bF (by simp;omega) ?_
 refine bs (rh (fun i=>cC (l.getD i []) L) l.length (fun i=>(i:Int)) (.inl false:Bool ⊕ (Int × Bool)) (.inr ((l.length:Int),false)) (fun i hi=> ?_) ?_) ?_
 ·simp only[PX,D4]
  refine bT (er hi) ?_
  refine bs (Ir hi) ?_
  refine bs (xy _ L) ?_
  by_cases h3:cC (l.getD i []) L
  ·refine bF (show (!(decide (cC (l.getD i []) L)))=false by rw[decide_eq_true h3];rfl) ?_
   rw[if_pos h3]
   refine bF rfl ?_
   rw[dI (by omega)]
  ·refine bT (show (!(decide (cC (l.getD i []) L)))=true by rw[decide_eq_false h3];rfl) ?_
   rw[if_neg h3]
 ·simp only[PX,D4]
  refine bF (bM (Nat.le_refl _)) ?_
  rw[bM (Nat.le_refl _)]
 ·by_cases h3: ∀i,i<l.length→cC (l.getD i []) L
  ·rw[if_pos h3,decide_eq_true ⟨h1.1,h1.2,h2.1,h2.2,h3⟩];rfl
  ·rw[if_neg h3,decide_eq_false fun h=>h3 h.2.2.2.2];rfl
def g9 (l:List (List UInt8)) (x:Nat):List Nat:=lets (l.getD x [])
theorem ZR {m:Da} {l:List (List UInt8)}:(m.pre l.length (g9 l)).dg=m.dg∧(m.pre l.length (g9 l)).cQ=tab m.n fun q=>gN l.length fun x=>m.run q (g9 l x):=by
 refine ⟨rfl,?_⟩
 unfold Da.cQ
 rw[Da.ak1]
 refine fa fun q hq=> ?_
 unfold gN
 exact congrArg _ (fa fun x hx=>by rw[Da.ZP hq (show x<l.length from hx)])
section
variable {a:Da} (h:a.Ok) {l:List (List UInt8)}
include h
theorem ak6 (hl:l.length≤6) (aw:tm l (a.L:Int)) {k1 k2 k3 k4:Int} {l1 l2:List V}:
  Loop (Iq CC (l.map V.str) ((minD a).n:Int) k1 k2 ((minD a).L:Int) ((minD a).st:Int) k3 k4 l1 l2 (minD a).dg (minD a).cQ) (0,([]:List V))=some (((minD a).n:Int),false,tab (minD a).n fun q=>gN l.length fun x=>(minD a).run q (g9 l x)):=by
 have hm:=lp h
 have hn:=hm.eP
 refine (fu (minD a).n (fun i=>((i:Int),(tab i fun q=>gN l.length fun x=>(minD a).run q (g9 l x)))) _ (fun q hq=> ?_) ?_)
 ·simp only[Iq,D3,un]
  refine bT (er hq) ?_
  rw[List.length_map]
  refine bT (mU (by omega) (by omega)) ?_
  rw[Int.toNat_natCast,nM]
  refine bs (fu l.length (fun t=>((t:Int),(tab l.length fun x=>if x<t then nV ((minD a).run q (g9 l x)) else V.int .i64 0))) ((l.length:Int),false,(tab l.length fun x=>nV ((minD a).run q (g9 l x)))) (fun t ht=> ?_) ?_) ?_
  ·have mE:cC (l.getD t []) ((minD a).L:Int):=by rw[ng h];exact aw t ht
   have hr:=Hh hm hq (l.getD t [])
   rw[if_pos mE] at hr
   simp only[PV,D2,un]
   refine bT (er ht) ?_
   refine bs (Ir ht) ?_
   refine bs hr ?_
   refine (fQ (i:=t) ht).trans ?_
   rw[dI (by omega),Int.toNat_natCast]
   exact congrArg (fun x=>some (Sum.inl (((t+1:Nat):Int),x))) (xR (f:=fun x=>nV ((minD a).run q (g9 l x))) rfl)
  ·simp only[PV,D2,un]
   refine bF (bM (Nat.le_refl _)) ?_
   rw[bM (Nat.le_refl _)]
   exact congrArg (fun x=>some (Sum.inr ((l.length:Int),false,x))) (Cp (f:=fun x=>nV ((minD a).run q (g9 l x))))
  ·simp only[un]
   refine bT (cap (by rw[ft];simp;omega) (by omega)) ?_
   rw[dI (by omega),rv]
   rfl
 ·simp only[Iq,D3,un]
  refine bF (bM (Nat.le_refl _)) ?_
  rw[bM (Nat.le_refl _)]
theorem ak7 (h1:1≤l.length) (hl:l.length≤6) (aw:tm l (a.L:Int)):CC F8 (lS a [vD l])=some (kX (minD ((minD a).pre l.length (g9 l))) 0):=by
 have hm:=lp h
 refine akU ?_
 unfold ZK
 refine bs (yw h) (bF rfl ?_)
 rw[List.length_map]
 refine bF (decide_eq_false (by omega)) (bF (decide_eq_false (by omega)) ?_)
 refine bs (fu l.length (fun i=>(i:Int)) (.inr ((l.length:Int),false)) (fun i hi=> ?_) ?_) ?_
 ·simp only[PU,D1]
  refine bT (er hi) ?_
  refine bs (Ir hi) ?_
  refine bs (Hf _ _) ?_
  refine bF (show (!(decide (cC (l.getD i []) (a.L:Int))))=false by rw[decide_eq_true (aw i hi)];rfl) ?_
  rw[dI (by omega)]
 ·simp only[PU,D1]
  refine bF (bM (Nat.le_refl _)) ?_
  rw[bM (Nat.le_refl _)]
 ·simp only[cI,un]
  have e0:((V.nth ((kX (minD a) 0).drop 3) 0).toList).length=(minD a).n:=by show (minD a).dg.length=_;simp
  rw[e0]
  refine bs (ak6 h hl aw) ?_
  have hM:=Cc (hm.pre (k:=l.length) (g:=g9 l) h1 hl fun x hx=>by rw[ng h];exact (aw x hx).WL)
  unfold eI lS at hM
  rw[ZR.1,ZR.2] at hM
  refine bs hM ?_
  rfl
end
end Go.AM
set_option maxRecDepth 100000
namespace Go.AM
open Go.Proofs
def eW:Da:=⟨2,0,[false,true],[[1,0],[0,1]]⟩
def nj:Da:=⟨2,0,[false,true],[[1,0],[1,1]]⟩
theorem D5:eW.Ok:=⟨by decide,by decide,by decide,by decide,by decide,by decide⟩
theorem Is:nj.Ok:=⟨by decide,by decide,by decide,by decide,by decide,by decide⟩
theorem ak8:eW.Canon eW.L (eW.acc eW.st) where
 ok:=D5
 hL:=rfl
 st:=rfl
 num:=⟨by decide,by decide,by decide⟩
 red:=fun p q hp hq h=>by
  have h0:=h [] WL.nil
  have hp':p<2:=hp
  have ca:q<2:=hq
  have: ∀p,p<2→∀q,q<2→eW.acc p []=eW.acc q []→p=q:=by decide
  exact this p hp' q ca h0
 lR:=fun _ _=>rfl
theorem ak9:nj.Canon nj.L (nj.acc nj.st) where
 ok:=Is
 hL:=rfl
 st:=rfl
 num:=⟨by decide,by decide,by decide⟩
 red:=fun p q hp hq h=>by
  have h0:=h [] WL.nil
  have hp':p<2:=hp
  have ca:q<2:=hq
  have: ∀p,p<2→∀q,q<2→nj.acc p []=nj.acc q []→p=q:=by decide
  exact this p hp' q ca h0
 lR:=fun _ _=>rfl
theorem ZS:minD eW=eW:=(B9 D5 ak8).symm
theorem ala:iZ (yx eW) 2 2=nj:=by kernel_rfl
theorem ZT: ¬iB (yx eW) 2 2:=by
 have:=xN (nR (YO D5 (by decide))) (2^2)
 exact fun h=>absurd (Nat.lt_of_lt_of_le h this) (by decide)
theorem alb:iC (yx eW) 2 2=nj:=by
 unfold iC
 rw[if_neg ZT,ala]
 exact (B9 Is ak9).symm
noncomputable def ZU (C:ae):Option (List V):=
 (C Gf []).bind fun r1=>
 (C Ge [.int .i64 ((V.nth r1 0).toInt),.int .i64 ((V.nth (r1.drop 1) 0).toInt),.list aD ((V.nth (r1.drop 2) 0).toList),.list aG ((V.nth ((r1.drop 2).drop 1) 0).toList)]).bind fun r2=>
 bif (((V.nth (r2.drop 2) 0).toInt):Int)==0 then
  bif ((((V.nth (r2.drop 3) 0).toList).length:Int):Int)==2 then
  (C mL [.int .i64 ((V.nth r2 0).toInt),.int .i64 ((V.nth (r2.drop 1) 0).toInt),.list aD ((V.nth (r2.drop 3) 0).toList),.list aG ((V.nth ((r2.drop 3).drop 1) 0).toList),.str [98,97,97]]).bind fun r3=>
  bif (V.nth r3 0).toBool then
   (C mL [.int .i64 ((V.nth r2 0).toInt),.int .i64 ((V.nth (r2.drop 1) 0).toInt),.list aD ((V.nth (r2.drop 3) 0).toList),.list aG ((V.nth ((r2.drop 3).drop 1) 0).toList),.str [98,98]]).bind fun r4=>
   some [.bool (!((V.nth r4 0).toBool))]
  else
   some [.bool false]
  else
  some [.bool false]
 else
  some [.bool false]
theorem alc {r:Option (List V)} (h:ZU CC=r):CC qS []=r:=
 bf (key:=19) (L:=dq) (bs:=[]) (by kernel_rfl) ao (Eq.trans (by kernel_rfl) h)
noncomputable def ald (C:ae):Option (List V):=
 some [.int .i64 2,.int .i64 0,.list aD ([.bool false,.bool true]:List V),.list aG ([.list bt ([.int .i64 1,.int .i64 0]:List V),.list bt ([.int .i64 0,.int .i64 1]:List V)]:List V)]
theorem ale {r:Option (List V)} (h:ald CC=r):CC Gf []=r:=
 bf (key:=59) (L:=dq) (bs:=[]) (by kernel_rfl) ao (Eq.trans (by kernel_rfl) h)
def ZV:List Ed:=[⟨0,0,1⟩,⟨0,1,0⟩,⟨1,0,0⟩,⟨1,1,1⟩,⟨0,0,0⟩,⟨0,1,0⟩,⟨1,0,1⟩,⟨1,1,1⟩]
def PZ:List Ed:=[⟨0,0,0⟩,⟨0,0,1⟩,⟨0,1,0⟩,⟨0,1,0⟩,⟨1,0,0⟩,⟨1,0,1⟩,⟨1,1,1⟩,⟨1,1,1⟩]
def It:List Ed:=[⟨0,0,0⟩,⟨0,0,1⟩,⟨0,1,0⟩,⟨1,0,0⟩,⟨1,0,1⟩,⟨1,1,1⟩]
theorem alf:dh eW 0++jY 2 2=ZV:=by decide
theorem alg:CC Gp [.list aj (ZV.map Ed.enc)]=some [.list aj (PZ.map Ed.enc)]:=ac5 (N:=40) (n:=40) (by kernel_rfl)
theorem alh:yx eW=⟨2,2,1,2,It⟩:=by kernel_rfl
theorem ali:CC Az (aN 2 2 (2^eW.st) (ei 0 eW.fin 0 2) (dh eW 0++jY 2 2))=some (Yp nj 0 ⟨2,2,1,2,It⟩):=by
 obtain ⟨b,e2⟩:=ahG (l:=PZ) (by decide)
 have hc:jU PZ=It:=by decide
 rw[hc] at e2
 have e3:=Yo (nR (YO D5 (by decide)))
 rw[show dD eW.L eW.n (2^eW.st) (ei 0 eW.fin 0 eW.n) (dh eW 0++jY eW.L eW.n)=yx eW from rfl,show eW.L=2 from rfl,show eW.n=2 from rfl,alb,show vy (yx eW) 2 2=0 from if_neg ZT,alh] at e3
 rw[alf]
 refine aiM ?_
 unfold Yn
 refine bs alg ?_
 refine bs e2 ?_
 cases b
 ·refine bF rfl ?_
  refine bs e3 ?_
  rfl
 ·refine bT rfl ?_
  refine bs e3 ?_
  rfl
theorem yX:CC qS []=some [.bool true]:=by
 have h1:CC Gf []=some (eI eW):=ale rfl
 have h2:=ajs D5 (X:=nj) (e:=0) (n:=⟨2,2,1,2,It⟩) (by rw[ZS];decide) (by rw[ZS];exact ali)
 refine alc ?_
 unfold ZU
 refine bs h1 ?_
 refine bs h2 ?_
 refine bT rfl (bT (by decide) ?_)
 refine bs (pP Is (w:=[98,97,97]) (by decide)) ?_
 refine bT (by decide) ?_
 refine bs (pP Is (w:=[98,98]) (by decide)) ?_
 rw[show nj.acc nj.st (lets [98,98])=false by decide]
 rfl
noncomputable abbrev ZW:Code:=ch Tryd.prog (aq.aO 12)
noncomputable def D6 (C:ae) (w:List UInt8) (cZ:List V) (bc bn:Int) (bA bz:List V) (v:List UInt8) (i:Int) {β:Type} (kn:((List UInt8) × Int)→Option β) (kr:((List UInt8) × Int × Bool)→Option β):Option β:=
 bif decide ((i:Int)<(w.length:Int)) then
  (bif decide (0≤i) then (w[(i:Int).toNat]?).map fun b=>V.int .u8 b.toNat else none).bind fun nP=>
  (idx cZ (IntKind.wrap .i64 (IntKind.wrap .u8 (nP.toInt-97)))).bind fun B0=>
  bif Nat.ble (v.length+B0.toStr.length) mj then
  kn (v++B0.toStr,IntKind.wrap .i64 (i+1))
  else none
 else
  kr (v,i,decide ((i:Int)<(w.length:Int)))
noncomputable def Iu (C:ae) (w:List UInt8) (cZ:List V) (bc bn:Int) (bA bz:List V):((List UInt8) × Int)→Option (((List UInt8) × Int) ⊕ ((List UInt8) × Int × Bool)):=un fun v i=>D6 C w cZ bc bn bA bz v i (fun y=>some (.inl y)) (fun r=>some (.inr r))
noncomputable def ZX (C:ae):b6:=fun β n ds k=>
 bif Nat.beq n 209 then bd K0 [false,false,true,true,false,false,false,false] [[1,2,0,0,0,5,6,7,8]] (@D6 C) ds k else
 none
abbrev alj (C:ae) (b:bY):Prop:=bZ Tryd.prog aq C (ZX C) 12 (cm Tryd.prog (aq.aO 12)) (aq.sin 12).aW.length b
theorem alk (C:ae):alj C (.loop (an [1,1,1,1,1,1,1,1,1,0,1,0,0] ZW)):=
 bh K0 [false,false,true,true,false,false,false,false] [[1,2,0,0,0,5,6,7,8]] (@D6 C) (by kernel_rfl) (aI (bs:=[]) (by kernel_rfl) ao) (fun ds=>by kernel_rfl) (fun i x=>by kernel_rfl) (fun i x β k=>by kernel_rfl) (fun β ds k=>by kernel_rfl)
noncomputable def D7 (C:ae) (aJ aP:Int) (aF aM:List V) (u w:List UInt8) (cZ:List V):Option (List V):=
 (C Ax [.str u,.int .i64 8]).bind fun r1=>
 (C Ax [.str w,.int .i64 8]).bind fun r2=>
 (C Gc [.int .i64 aJ,.int .i64 aP,.list aD aF,.list aG aM,.int .i64 6]).bind fun r3=>
 bif !((V.nth r3 0).toBool) then
  (C qS []).bind fun r4=>
  some [.bool ((V.nth r4 0).toBool)]
 else
  (C wX [.str ((V.nth r1 0).toStr),.int .i64 aJ]).bind fun r5=>
  bif !((V.nth r5 0).toBool) then
  (C qS []).bind fun r6=>
  some [.bool ((V.nth r6 0).toBool)]
  else
  (C wX [.str ((V.nth r2 0).toStr),.int .i64 aJ]).bind fun r7=>
  bif !((V.nth r7 0).toBool) then
   (C qS []).bind fun r8=>
   some [.bool ((V.nth r8 0).toBool)]
  else
   (C wY [.int .i64 aJ,.int .i64 aP,.list aD aF,.list aG aM]).bind fun r9=>
   (C F9 [.int .i64 aJ,.int .i64 aP,.list aD aF,.list aG aM,.str ((V.nth r1 0).toStr)]).bind fun D8=>
   (C Ga [.int .i64 aJ,.int .i64 aP,.list aD aF,.list aG aM,.str ((V.nth r1 0).toStr)]).bind fun lh=>
   bif (((V.nth (r9.drop 2) 0).toInt):Int) != 0 then
   some [.bool false]
   else
   bif (((V.nth (D8.drop 2) 0).toInt):Int) != 0 then
    some [.bool false]
   else
    bif (((V.nth (lh.drop 2) 0).toInt):Int) != 0 then
    some [.bool false]
    else
    (C Gd [.str ((V.nth r2 0).toStr)]).bind fun fw=>
    (C mL [.int .i64 ((V.nth r9 0).toInt),.int .i64 ((V.nth (r9.drop 1) 0).toInt),.list aD ((V.nth (r9.drop 3) 0).toList),.list aG ((V.nth ((r9.drop 3).drop 1) 0).toList),.str ((V.nth fw 0).toStr)]).bind fun NQ=>
    (C mL [.int .i64 aJ,.int .i64 aP,.list aD aF,.list aG aM,.str ((V.nth r2 0).toStr)]).bind fun r14=>
    bif !(((V.nth NQ 0).toBool)==((V.nth r14 0).toBool)) then
     some [.bool false]
    else
     (C mL [.int .i64 ((V.nth D8 0).toInt),.int .i64 ((V.nth (D8.drop 1) 0).toInt),.list aD ((V.nth (D8.drop 3) 0).toList),.list aG ((V.nth ((D8.drop 3).drop 1) 0).toList),.str ((V.nth r2 0).toStr)]).bind fun jv=>
     bif Nat.ble (((V.nth r1 0).toStr).length+((V.nth r2 0).toStr).length) mj then
     (C mL [.int .i64 aJ,.int .i64 aP,.list aD aF,.list aG aM,.str (((V.nth r1 0).toStr)++((V.nth r2 0).toStr))]).bind fun jR=>
     bif !(((V.nth jv 0).toBool)==((V.nth jR 0).toBool)) then
      some [.bool false]
     else
      (C mL [.int .i64 ((V.nth lh 0).toInt),.int .i64 ((V.nth (lh.drop 1) 0).toInt),.list aD ((V.nth (lh.drop 3) 0).toList),.list aG ((V.nth ((lh.drop 3).drop 1) 0).toList),.str ((V.nth r2 0).toStr)]).bind fun cb=>
      bif Nat.ble (((V.nth r2 0).toStr).length+((V.nth r1 0).toStr).length) mj then
      (C mL [.int .i64 aJ,.int .i64 aP,.list aD aF,.list aG aM,.str (((V.nth r2 0).toStr)++((V.nth r1 0).toStr))]).bind fun lk=>
      bif !(((V.nth cb 0).toBool)==((V.nth lk 0).toBool)) then
       some [.bool false]
      else
       (C Aw [.list qY cZ,.int .i64 aJ,.int .i64 aJ,.bool true]).bind fun dz=>
       bif !((V.nth dz 0).toBool) then
       (C qS []).bind fun dv=>
       some [.bool ((V.nth dv 0).toBool)]
       else
       (Loop (Iu C ((V.nth r2 0).toStr) cZ aJ aP aF aM) ([],0)).bind (un fun (ZY:List UInt8)=>un fun (alM:Int) (NA:Bool)=>
        (C F8 [.int .i64 aJ,.int .i64 aP,.list aD aF,.list aG aM,.list qY cZ]).bind fun D9=>
        bif (((V.nth (D9.drop 2) 0).toInt):Int)==0 then
         bif decide (((ZY.length:Int):Int)>2048) then
         (C qS []).bind fun r27=>
         some [.bool ((V.nth r27 0).toBool)]
         else
         (C mL [.int .i64 ((V.nth D9 0).toInt),.int .i64 ((V.nth (D9.drop 1) 0).toInt),.list aD ((V.nth (D9.drop 3) 0).toList),.list aG ((V.nth ((D9.drop 3).drop 1) 0).toList),.str ((V.nth r2 0).toStr)]).bind fun r28=>
         (C mL [.int .i64 aJ,.int .i64 aP,.list aD aF,.list aG aM,.str ZY]).bind fun r29=>
         bif ((V.nth r28 0).toBool)==((V.nth r29 0).toBool) then
          (C qS []).bind fun oL=>
          some [.bool ((V.nth oL 0).toBool)]
         else
          some [.bool false]
        else
         some [.bool false])
      else none
     else none
theorem Iv {aJ aP:Int} {aF aM:List V} {u w:List UInt8} {cZ:List V} {r:Option (List V)} (h:D7 CC aJ aP aF aM u w cZ=r):CC KE [.int .i64 aJ,.int .i64 aP,.list aD aF,.list aG aM,.str u,.str w,.list qY cZ]=r:=
 bf (key:=12) (L:=ZX CC) (bs:=[.loop (an [1,1,1,1,1,1,1,1,1,0,1,0,0] ZW)]) (by kernel_rfl) (aU (alk CC) ao) (Eq.trans (by kernel_rfl) h)
theorem alm {l:List (List UInt8)} (hl:l.length≤maxLen) {L:Nat} (hL:1≤L∧L≤6):CC Aw [vD l,.int .i64 (L:Int),.int .i64 (L:Int),.bool true]=some [.bool (decide (l.length=L∧tm l (L:Int)))]:=by
 by_cases h:l.length=L
 ·have:=ak5 hl (L:=(L:Int))
  rw[h] at this
  rw[this]
  refine congrArg (fun b=>some [V.bool b]) (decide_eq_decide.2 ?_)
  rw[h]
  constructor
  ·rintro ⟨_,_,_,_,h5⟩;exact ⟨rfl,h5⟩
  ·rintro ⟨_,h5⟩;exact ⟨by omega,by omega,by omega,by omega,h5⟩
 ·refine ZN ?_
  unfold PY
  refine bs (AX _) (bF (by simp;omega) ?_)
  rw[List.length_map]
  refine bT (by rw[bne_iff_ne];omega) ?_
  rw[decide_eq_false fun hh=>h hh.1]
def nY (l:List (List UInt8)) (w:List Nat):List UInt8:=w.flatMap fun x=>l.getD x []
theorem ZZ {l:List (List UInt8)} (h: ∀x,(l.getD x []).length≤2048): ∀w:List Nat,(nY l w).length≤w.length*2048
 | []=>by simp[nY]
 | x::w=>by
  have ih:=ZZ h w
  have:=h x
  unfold nY at*
  rw[List.flatMap_cons,List.length_append,List.length_cons]
  omega
theorem aln {l:List (List UInt8)} (w:List Nat):lets (nY l w)=w.flatMap (g9 l):=by
 unfold nY lets g9
 rw[List.map_flatMap]
 rfl
theorem alo {l:List (List UInt8)} {L:Nat} (aw:tm l (L:Int)) (hlen:l.length=L) {w:List UInt8} (hw:cC w (L:Int)) (h8:w.length≤8) {c1 c2:Int} {l1 l2:List V}:
  Loop (Iu CC w (l.map V.str) c1 c2 l1 l2) (([]:List UInt8),0)=some (nY l (lets w),(w.length:Int),false):=by
 have lB: ∀x,(l.getD x []).length≤2048:=fun x=>by
  rcases Nat.lt_or_ge x l.length with c|c
  ·exact (aw x c).2.2.1
  ·rw[List.getD_eq_getElem?_getD,List.getElem?_eq_none c];simp
 refine tf w.length (fun i=>(nY l ((lets w).take i),(i:Int))) _ (by rw[List.take_zero];rfl) (fun i hi=> ?_) ?_
 ·have h1:=hw.2.2.2 i hi
  have h2:=Wg hw hi
  have h3:=No hi h1.1
  have h4:=ZZ lB ((lets w).take i)
  have h5:((lets w).take i).length≤i:=List.length_take_le _ _
  have h6:=lB ((lets w).getD i 0)
  simp only[Iu,D6,un]
  refine bT (er hi) ?_
  refine bs (Bu hi) ?_
  have e:IntKind.wrap .i64 (IntKind.wrap .u8 ((V.int .u8 ((w.getD i 0).toNat:Int)).toInt-97))=(((lets w).getD i 0:Nat):Int):=by
   rw[V.toInt_int,He h1.1,wrap64 (by omega) (by have:= @Nn w i;omega),h3]
  rw[e]
  refine bs (Ir (by omega)) ?_
  refine bT (by rw[Nat.ble_eq,V.Ks];unfold mj;omega) ?_
  rw[dI (by omega),List.take_succ_eq_append_getElem (by rw[rA];exact hi)]
  unfold nY
  rw[List.flatMap_append,List.flatMap_singleton,V.Ks,←fj (l:=lets w) (d:=0) (by rw[rA];exact hi)]
 ·simp only[Iu,D6,un]
  refine bF (bM (Nat.le_refl _)) ?_
  rw[bM (Nat.le_refl _),List.take_of_length_le (by rw[rA];omega)]
theorem Z5 (d:Df) (hd:d.Ok) (u0 w0:List UInt8) (l:List (List UInt8)) (hl:l.length≤maxLen):CC KE (rY d [.str u0,.str w0,vD l])=some [.bool true]:=by
 have hU:=Zz u0 8
 have hW:=Zz w0 8
 have lu:(u0.take 8).length≤8:=List.length_take_le _ _
 have lw:(w0.take 8).length≤8:=List.length_take_le _ _
 generalize u0.take 8=u at hU lu
 generalize w0.take 8=w at hW lw
 have hB:=ajf hd 6
 by_cases h4:(d.F.length:Int)≤6∧d.val=0
 case neg=>
  rw[decide_eq_false h4] at hB
  refine Iv ?_
  unfold D7
  refine bs hU (bs hW ?_)
  refine bs hB (bT rfl ?_)
  exact bs yX rfl
 rw[decide_eq_true h4] at hB
 obtain ⟨a,ha,rfl⟩:=afb h4.2
 have n1:(a.n:Int)≤6:=h4.1
 have n3:=YG ha
 have hm:=lp ha
 have Ea:=ng ha
 rw[ha.leaves] at*
 by_cases hu:cC u (a.L:Int)
 case neg=>
  refine Iv ?_
  unfold D7
  refine bs hU (bs hW ?_)
  refine bs hB (bF rfl ?_)
  refine bs (xy u a.L) (bT (by rw[V.ba,V.iS,decide_eq_false hu];rfl) ?_)
  exact bs yX rfl
 by_cases hw:cC w (a.L:Int)
 case neg=>
  refine Iv ?_
  unfold D7
  refine bs hU (bs hW ?_)
  refine bs hB (bF rfl ?_)
  refine bs (xy u a.L) (bF (by rw[V.ba,V.iS,decide_eq_true hu];rfl) ?_)
  refine bs (xy w a.L) (bT (by rw[V.ba,V.iS,decide_eq_false hw];rfl) ?_)
  exact bs yX rfl
 obtain ⟨r,hr,rr,_⟩:=(aky ha).small (by omega)
 have wl:=hw.WL
 have ul:=hu.WL
 have cX:=hm.pL (lets u) hm.s (by rw[Ea];exact ul)
 have kL:=hm.p6 cX
 have kR:=hm.jy (f:=fun q=>(minD a).fin ((minD a).run q (lets u)))
 have qL:=PH kL
 have qR:=PH kR
 have wr:cC w.reverse (r.L:Int):=by rw[rr.hL];exact akH.2 hw
 have huw:=hu.app hw (by omega)
 have hwu:=hw.app hu (by omega)
 have bl:Nat.ble (u.length+w.length) mj=true:=by rw[Nat.ble_eq];unfold mj;omega
 have bl2:Nat.ble (w.length+u.length) mj=true:=by rw[Nat.ble_eq];unfold mj;omega
 have P0:WL (minD a).L (lets w):=by rw[Ea];exact wl
 have wLq:cC w ((minD ((minD a).p6 ((minD a).run (minD a).st (lets u)))).L:Int):=by rw[qL.hL];show cC w ((minD a).L:Int);rw[Ea];exact hw
 have wRq:cC w ((minD ((minD a).jy fun q=>(minD a).fin ((minD a).run q (lets u)))).L:Int):=by rw[qR.hL];show cC w ((minD a).L:Int);rw[Ea];exact hw
 have t1:r.acc r.st (lets w.reverse)=a.acc a.st (lets w):=rr.acc (by rw[ZD];exact wl.rev) (by rw[ZD,List.reverse_reverse])
 have t2:(minD ((minD a).p6 ((minD a).run (minD a).st (lets u)))).acc (minD ((minD a).p6 ((minD a).run (minD a).st (lets u)))).st (lets w)=a.acc a.st (lets (u++w)):=by
  rw[pY kL P0,Wf,←pY ha (WL.app.2 ⟨ul,wl⟩),Da.VB]
  rfl
 have t3:(minD ((minD a).jy fun q=>(minD a).fin ((minD a).run q (lets u)))).acc (minD ((minD a).jy fun q=>(minD a).fin ((minD a).run q (lets u)))).st (lets w)=a.acc a.st (lets (w++u)):=by
  rw[pY kR P0,show ((minD a).jy fun q=>(minD a).fin ((minD a).run q (lets u))).st=(minD a).st from rfl,Da.akY hm hm.s P0,Wf,←pY ha (WL.app.2 ⟨wl,ul⟩),Da.VB]
  rfl
 refine Iv ?_
 unfold D7
 refine bs hU (bs hW ?_)
 refine bs hB (bF rfl ?_)
 refine bs (xy u a.L) (bF (by rw[V.ba,V.iS,decide_eq_true hu];rfl) ?_)
 refine bs (xy w a.L) (bF (by rw[V.ba,V.iS,decide_eq_true hw];rfl) ?_)
 refine bs hr ?_
 refine bs (ak3 ha hu) ?_
 refine bs (ak4 ha hu) ?_
 refine bF rfl (bF rfl (bF rfl ?_))
 refine bs (akG (by simp[V.Ks];omega)) ?_
 refine bs (pP rr.ok wr) ?_
 refine bs (pP ha hw) ?_
 refine bF (show (!(r.acc r.st (lets w.reverse)==a.acc a.st (lets w)))=false by rw[t1];simp) ?_
 refine bs (pP (lp kL) wLq) ?_
 refine bT bl ?_
 refine bs (pP ha huw) ?_
 refine bF (show (!((minD ((minD a).p6 ((minD a).run (minD a).st (lets u)))).acc (minD ((minD a).p6 ((minD a).run (minD a).st (lets u)))).st (lets w)==a.acc a.st (lets (u++w))))=false by rw[t2];simp) ?_
 refine bs (pP (lp kR) wRq) ?_
 refine bT bl2 ?_
 refine bs (pP ha hwu) ?_
 refine bF (show (!((minD ((minD a).jy fun q=>(minD a).fin ((minD a).run q (lets u)))).acc (minD ((minD a).jy fun q=>(minD a).fin ((minD a).run q (lets u)))).st (lets w)==a.acc a.st (lets (w++u))))=false by rw[t3];simp) ?_
 refine bs (alm hl ⟨ha.l1,ha.l6⟩) ?_
 by_cases hi:l.length=a.L∧tm l (a.L:Int)
 case neg=>
  refine bT (by rw[V.ba,V.iS,decide_eq_false hi];rfl) ?_
  exact bs yX rfl
 refine bF (by rw[V.ba,V.iS,decide_eq_true hi];rfl) ?_
 have h1:=ha.l1
 have h6:=ha.l6
 refine bs (alo hi.2 hi.1 hw lw) ?_
 simp only[un]
 refine bs (ak7 ha (by omega) (by omega) hi.2) ?_
 refine bT rfl ?_
 by_cases hv:(nY l (lets w)).length>2048
 ·refine bT (decide_eq_true (by omega)) ?_
  exact bs yX rfl
 refine bF (decide_eq_false (by omega)) ?_
 have hg: ∀x,x<l.length→WL (minD a).L (g9 l x):=fun x hx=>by rw[Ea];exact (hi.2 x hx).WL
 have kP:=hm.pre (k:=l.length) (g:=g9 l) (by omega) (by omega) hg
 have qP:=PH kP
 have wP:cC w ((minD ((minD a).pre l.length (g9 l))).L:Int):=by rw[qP.hL];show cC w (l.length:Int);rw[hi.1];exact hw
 have hV:cC (nY l (lets w)) (a.L:Int):=by
  refine rW.2 ⟨by omega,by omega,by omega,fun b hb=> ?_⟩
  obtain ⟨x,hx,hb⟩:=List.mem_flatMap.1 hb
  have jI:=wl x hx
  exact (rW.1 (hi.2 x (by omega))).2.2.2 b hb
 have Z0:WL l.length (lets w):=by rw[hi.1];exact wl
 have t4:(minD ((minD a).pre l.length (g9 l))).acc (minD ((minD a).pre l.length (g9 l))).st (lets w)=a.acc a.st (lets (nY l (lets w))):=by
  rw[pY kP Z0,show ((minD a).pre l.length (g9 l)).st=(minD a).st from rfl,Da.ak2 hm hg hm.s Z0,←aln,pY ha hV.WL]
 refine bs (pP (lp kP) wP) ?_
 refine bs (pP ha hV) ?_
 refine bT (show ((minD ((minD a).pre l.length (g9 l))).acc (minD ((minD a).pre l.length (g9 l))).st (lets w)==a.acc a.st (lets (nY l (lets w))))=true by rw[t4];simp) ?_
 exact bs yX rfl
end Go.AM
