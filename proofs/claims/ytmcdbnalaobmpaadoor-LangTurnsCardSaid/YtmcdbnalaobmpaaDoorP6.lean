/-
  Functions of vE program, lifted to plain data.
-/
import Derived.Test.YtmcdbnalaobmpaaDoorP5
set_option linter.unusedVariables false
set_option linter.unusedSimpArgs false
set_option maxRecDepth 100000
set_option maxHeartbeats 4000000
namespace Go.AM.SL
open Go.AM Go.Proofs Go.Sort
theorem m7 (p:Ed→Bool) (d:Array Ed) (j i:Nat):scanUp p d j i=if i≤j then (if p d[i]! =true then scanUp p d j (i+1) else i) else i:=by
 conv=>lhs;rw[scanUp]
 by_cases h:i≤j
 ·rw[if_pos h];simp only[h,decide_true,Bool.true_and]
 ·rw[if_neg h,if_neg (by simp[h])]
theorem ve (p:Ed→Bool) (d:Array Ed) (i j:Nat):scanDown p d i (j+1)=if i≤j+1 then (if p d[j+1]! =true then scanDown p d i j else j+1) else j+1:=by
 conv=>lhs;rw[scanDown]
 by_cases h:i≤j+1
 ·rw[if_pos h];simp only[h,decide_true,Bool.true_and]
 ·rw[if_neg h,if_neg (by simp[h])]
theorem rJ (d:Array Ed) (b i:Nat):scanSorted ag d b i=if i<b then (if aR d[i]! d[i-1]! <0 then i else scanSorted ag d b (i+1)) else i:=by
 conv=>lhs;rw[scanSorted]
 by_cases h:i<b
 ·rw[if_pos h];simp only[h,decide_true,Bool.true_and,jb]
  by_cases h2:aR d[i]! d[i-1]! <0
  ·rw[if_neg (not_not_intro h2),if_pos h2]
  ·rw[if_pos h2,if_neg h2]
 ·rw[if_neg h,if_neg (by simp[h])]
theorem CX (j:Nat) (d:Array Ed):shiftDown ag (j+1) d=if aR d[j+1]! d[j]! <0 then shiftDown ag j (swp d (j+1) j) else d:=by
 conv=>lhs;rw[shiftDown]
 simp only[jb]
 by_cases h2:aR d[j+1]! d[j]! <0
 ·rw[if_neg (not_not_intro h2),if_pos h2]
 ·rw[if_pos h2,if_neg h2]
theorem rK (b j:Nat) (d:Array Ed):shiftUp ag b j d=if j<b then (if aR d[j]! d[j-1]! <0 then shiftUp ag b (j+1) (swp d j (j-1)) else d) else d:=by
 conv=>lhs;rw[shiftUp]
 simp only[jb]
 by_cases h:j<b
 ·rw[if_pos h,if_pos h]
  by_cases h2:aR d[j]! d[j-1]! <0
  ·rw[if_neg (not_not_intro h2),if_pos h2]
  ·rw[if_pos h2,if_neg h2]
 ·rw[if_neg h,if_neg h]
theorem Oh {a:Nat}: ∀(n i j:Nat) (d:Array Ed),j+1-i≤n→(partLoop ag a i j d).2.size=d.size∧(partLoop ag a i j d).1≤j:=by
 intro n
 induction n with
 | zero=>
  intro i j d hn
  have h1:=scanUp_ge (fun x=>ag x d[a]!) d j i
  have h2:=scanDown_le (fun x=> !ag x d[a]!) d (scanUp (fun x=>ag x d[a]!) d j i) j
  rw[partLoop_eq,if_pos (by omega)]
  exact ⟨rfl,h2⟩
 | succ n ih=>
  intro i j d hn
  rw[partLoop_eq]
  have h1:=scanUp_ge (fun x=>ag x d[a]!) d j i
  have h2:=scanDown_le (fun x=> !ag x d[a]!) d (scanUp (fun x=>ag x d[a]!) d j i) j
  split
  ·exact ⟨rfl,h2⟩
  ·obtain ⟨h3,h4⟩:=ih (scanUp (fun x=>ag x d[a]!) d j i+1) (scanDown (fun x=> !ag x d[a]!) d (scanUp (fun x=>ag x d[a]!) d j i) j-1) (swp d (scanUp (fun x=>ag x d[a]!) d j i) (scanDown (fun x=> !ag x d[a]!) d (scanUp (fun x=>ag x d[a]!) d j i) j)) (by omega)
   exact ⟨by rw[h3,size_swp],by omega⟩
theorem ey {β:Type} {d:Array Ed} {i:Nat} {x y:Option β} (h:i<d.size):(bif (decide (0≤(i:Int)))&&(decide ((i:Int)<((eA d).length:Int))) then x else y)=x:=by
 rw[cR,cl,ar,if_pos (by omega),ar,if_pos (by omega)]
theorem rL {β:Type} {d:Array Ed} {i k:Nat} {v:V} {x y:Option β} (h:i<d.size):(bif (decide (0≤(i:Int)))&&(decide ((i:Int)<(((eA d).set k v).length:Int))) then x else y)=x:=by
 rw[List.length_set,cR,cl,ar,if_pos (by omega),ar,if_pos (by omega)]
theorem ez {β:Type} {d:Array Ed} {i:Nat} {f:V→Option β} (h:i<d.size):((eA d)[(i:Int).toNat]?).bind f=f (d[i]!).enc:=by
 rw[Int.toNat_natCast,cU h];rfl
theorem rM {β:Type} {d:Array Ed} {i k:Nat} {v:V} {x:Option β} (h:i<d.size):(((eA d).set k v)[(i:Int).toNat]?).bind (fun _=>x)=x:=by
 rw[Int.toNat_natCast,List.getElem?_eq_getElem (by rw[List.length_set,cR];exact h)];rfl
theorem jd {β:Type} {d:Array Ed} {i:Nat} {f:V→Option β} (h:i<d.size):((eA d)[i]?).bind f=f (d[i]!).enc:=by
 rw[cU h];rfl
theorem vf {β:Type} {d:Array Ed} {i k:Nat} {v:V} {x:Option β} (h:i<d.size):(((eA d).set k v)[i]?).bind (fun _=>x)=x:=by
 rw[List.getElem?_eq_getElem (by rw[List.length_set,cR];exact h)];rfl
theorem Oi {a j:Nat} {d:Array Ed} (ha:a<d.size) (hj:j<d.size) (hs:d.size<1152921504606846976): ∀(n i:Nat),j+1-i=n→i≤d.size→
  ∃t,Loop (CF CC a j (eA d)) (i:Int)=some (((scanUp (fun x=>ag x d[a]!) d j i:Nat):Int),t):=by
 intro n
 induction n with
 | zero=>
  intro i hn hi
  rw[m7,if_neg (by omega)]
  exact ⟨false,aZ (by simp (disch:=omega) only[CF,CE,ar,if_neg])⟩
 | succ n ih=>
  intro i hn hi
  obtain ⟨t,h⟩:=ih (i+1) (by omega) (by omega)
  rw[m7,if_pos (by omega)]
  have e:CF CC a j (eA d) (i:Int)=if aR d[i]! d[a]! <0 then some (.inl ((i+1:Nat):Int)) else some (.inr ((i:Int),decide (aR d[i]! d[a]! <0))):=by
   simp (disch:=omega) only[CF,CE,ar,cl,dp,if_pos,if_neg,wrap64,bK,cT,Int.toNat_natCast,Option.bind_some,cR,cU,Ed.bR,Ed.bS,Ed.bU,Ed.re,cS,dC,Array.size_setIfInBounds,gO,V.ba,V.toInt_int,cond_true,cond_false]
  simp only[jV]
  by_cases h2:aR d[i]! d[a]! <0
  ·rw[if_pos h2] at e
   rw[if_pos h2]
   exact ⟨t,(cF e).trans h⟩
  ·rw[if_neg h2] at e
   rw[if_neg h2]
   exact ⟨_,aZ e⟩
theorem CY {a j:Nat} {d:Array Ed} (ha:a<d.size) (hj:j<d.size) (hs:d.size<1152921504606846976): ∀(n i:Nat),j+1-i=n→i≤d.size→
  ∃t,Loop (CI CC a j (eA d)) (i:Int)=some (((scanUp (fun x=>ag x d[a]!) d j i:Nat):Int),t):=by
 intro n
 induction n with
 | zero=>
  intro i hn hi
  rw[m7,if_neg (by omega)]
  exact ⟨false,aZ (by simp (disch:=omega) only[CI,CG,ar,if_neg])⟩
 | succ n ih=>
  intro i hn hi
  obtain ⟨t,h⟩:=ih (i+1) (by omega) (by omega)
  rw[m7,if_pos (by omega)]
  have e:CI CC a j (eA d) (i:Int)=if aR d[i]! d[a]! <0 then some (.inl ((i+1:Nat):Int)) else some (.inr ((i:Int),decide (aR d[i]! d[a]! <0))):=by
   simp (disch:=omega) only[CI,CG,ar,cl,dp,if_pos,if_neg,wrap64,bK,cT,Int.toNat_natCast,Option.bind_some,cR,cU,Ed.bR,Ed.bS,Ed.bU,Ed.re,cS,dC,Array.size_setIfInBounds,gO,V.ba,V.toInt_int,cond_true,cond_false]
  simp only[jV]
  by_cases h2:aR d[i]! d[a]! <0
  ·rw[if_pos h2] at e
   rw[if_pos h2]
   exact ⟨t,(cF e).trans h⟩
  ·rw[if_neg h2] at e
   rw[if_neg h2]
   exact ⟨_,aZ e⟩
theorem CZ {a i:Nat} {d:Array Ed} (ha:a<d.size) (hi:1≤i) (hs:d.size<1152921504606846976): ∀(j:Nat),j<d.size→
  ∃t,Loop (ya CC a i (eA d)) (j:Int)=some (((scanDown (fun x=> !ag x d[a]!) d i j:Nat):Int),t)
 | 0,hj=>⟨false,aZ (by simp (disch:=omega) only[ya,xZ,ar,if_neg];rfl)⟩
 | j+1,hj=>by
  obtain ⟨t,h⟩:=CZ ha hi hs j (by omega)
  rw[ve]
  by_cases h1:i≤j+1
  ·rw[if_pos h1]
   have e:ya CC a i (eA d) ((j+1:Nat):Int)=if aR d[j+1]! d[a]! <0 then some (.inr (((j+1:Nat):Int),!decide (aR d[j+1]! d[a]! <0))) else some (.inl (j:Int)):=by
    simp (disch:=omega) only[ya,xZ,ar,cl,dp,if_pos,if_neg,wrap64,bK,cT,Int.toNat_natCast,Option.bind_some,cR,cU,Ed.bR,Ed.bS,Ed.bU,Ed.re,cS,dC,Array.size_setIfInBounds,gO,V.ba,V.toInt_int,cond_true,cond_false,me]
   simp only[jb]
   by_cases h2:aR d[j+1]! d[a]! <0
   ·rw[if_pos h2] at e
    rw[if_neg (not_not_intro h2)]
    exact ⟨_,aZ e⟩
   ·rw[if_neg h2] at e
    rw[if_pos h2]
    exact ⟨t,(cF e).trans h⟩
  ·rw[if_neg h1]
   exact ⟨false,aZ (by simp (disch:=omega) only[ya,xZ,ar,if_neg])⟩
theorem vg {a i:Nat} {d:Array Ed} (ha:a<d.size) (hi:1≤i) (hs:d.size<1152921504606846976): ∀(j:Nat),j<d.size→
  ∃t,Loop (yc CC a i (eA d)) (j:Int)=some (((scanDown (fun x=> !ag x d[a]!) d i j:Nat):Int),t)
 | 0,hj=>⟨false,aZ (by simp (disch:=omega) only[yc,yb,ar,if_neg];rfl)⟩
 | j+1,hj=>by
  obtain ⟨t,h⟩:=vg ha hi hs j (by omega)
  rw[ve]
  by_cases h1:i≤j+1
  ·rw[if_pos h1]
   have e:yc CC a i (eA d) ((j+1:Nat):Int)=if aR d[j+1]! d[a]! <0 then some (.inr (((j+1:Nat):Int),!decide (aR d[j+1]! d[a]! <0))) else some (.inl (j:Int)):=by
    simp (disch:=omega) only[yc,yb,ar,cl,dp,if_pos,if_neg,wrap64,bK,cT,Int.toNat_natCast,Option.bind_some,cR,cU,Ed.bR,Ed.bS,Ed.bU,Ed.re,cS,dC,Array.size_setIfInBounds,gO,V.ba,V.toInt_int,cond_true,cond_false,me]
   simp only[jb]
   by_cases h2:aR d[j+1]! d[a]! <0
   ·rw[if_pos h2] at e
    rw[if_neg (not_not_intro h2)]
    exact ⟨_,aZ e⟩
   ·rw[if_neg h2] at e
    rw[if_pos h2]
    exact ⟨t,(cF e).trans h⟩
  ·rw[if_neg h1]
   exact ⟨false,aZ (by simp (disch:=omega) only[yc,yb,ar,if_neg])⟩
theorem C2 {a j:Nat} {d:Array Ed} (ha:a<d.size) (hj:j<d.size) (hs:d.size<1152921504606846976): ∀(n i:Nat),j+1-i=n→i≤d.size→
  ∃t,Loop (CM CC a j (eA d)) (i:Int)=some (((scanUp (fun x=> !ag d[a]! x) d j i:Nat):Int),t):=by
 intro n
 induction n with
 | zero=>
  intro i hn hi
  rw[m7,if_neg (by omega)]
  exact ⟨false,aZ (by simp (disch:=omega) only[CM,CL,ar,if_neg])⟩
 | succ n ih=>
  intro i hn hi
  obtain ⟨t,h⟩:=ih (i+1) (by omega) (by omega)
  rw[m7,if_pos (by omega)]
  have e:CM CC a j (eA d) (i:Int)=if aR d[a]! d[i]! <0 then some (.inr ((i:Int),!decide (aR d[a]! d[i]! <0))) else some (.inl ((i+1:Nat):Int)):=by
   simp (disch:=omega) only[CM,CL,ar,cl,dp,if_pos,if_neg,wrap64,bK,cT,Int.toNat_natCast,Option.bind_some,cR,cU,Ed.bR,Ed.bS,Ed.bU,Ed.re,cS,dC,Array.size_setIfInBounds,gO,V.ba,V.toInt_int,cond_true,cond_false]
  simp only[jb]
  by_cases h2:aR d[a]! d[i]! <0
  ·rw[if_pos h2] at e
   rw[if_neg (not_not_intro h2)]
   exact ⟨_,aZ e⟩
  ·rw[if_neg h2] at e
   rw[if_pos h2]
   exact ⟨t,(cF e).trans h⟩
theorem vh {a i:Nat} {d:Array Ed} (ha:a<d.size) (hi:1≤i) (hs:d.size<1152921504606846976): ∀(j:Nat),j<d.size→
  ∃t,Loop (yg CC a i (eA d)) (j:Int)=some (((scanDown (fun x=>ag d[a]! x) d i j:Nat):Int),t)
 | 0,hj=>⟨false,aZ (by simp (disch:=omega) only[yg,yf,ar,if_neg];rfl)⟩
 | j+1,hj=>by
  obtain ⟨t,h⟩:=vh ha hi hs j (by omega)
  rw[ve]
  by_cases h1:i≤j+1
  ·rw[if_pos h1]
   have e:yg CC a i (eA d) ((j+1:Nat):Int)=if aR d[a]! d[j+1]! <0 then some (.inl (j:Int)) else some (.inr (((j+1:Nat):Int),decide (aR d[a]! d[j+1]! <0))):=by
    simp (disch:=omega) only[yg,yf,ar,cl,dp,if_pos,if_neg,wrap64,bK,cT,Int.toNat_natCast,Option.bind_some,cR,cU,Ed.bR,Ed.bS,Ed.bU,Ed.re,cS,dC,Array.size_setIfInBounds,gO,V.ba,V.toInt_int,cond_true,cond_false,me]
   simp only[jV]
   by_cases h2:aR d[a]! d[j+1]! <0
   ·rw[if_pos h2] at e
    rw[if_pos h2]
    exact ⟨t,(cF e).trans h⟩
   ·rw[if_neg h2] at e
    rw[if_neg h2]
    exact ⟨_,aZ e⟩
  ·rw[if_neg h1]
   exact ⟨false,aZ (by simp (disch:=omega) only[yg,yf,ar,if_neg])⟩
theorem Oj {a:Nat}: ∀(n i j:Nat) (d:Array Ed),j+1-i≤n→1≤i→i≤d.size→a<d.size→j<d.size→d.size<1152921504606846976→
  ∃x z,Loop (yd CC a) ((i:Int),(j:Int),eA d)=some (x,(((partLoop ag a i j d).1:Nat):Int),z,eA (partLoop ag a i j d).2):=by
 intro n
 induction n with
 | zero=>
  intro i j d hn h1 h2 ha hj hs
  obtain ⟨t3,e3⟩:=CY (a:=a) ha hj hs _ i rfl h2
  have g1:=scanUp_ge (fun x=>ag x d[a]!) d j i
  have g2:=scanDown_le (fun x=> !ag x d[a]!) d (scanUp (fun x=>ag x d[a]!) d j i) j
  obtain ⟨t4,e4⟩:=vg (a:=a) (i:=scanUp (fun x=>ag x d[a]!) d j i) ha (by omega) hs j hj
  rw[partLoop_eq,if_pos (by omega)]
  refine ⟨((scanUp (fun x=>ag x d[a]!) d j i:Nat):Int),true,aZ ?_⟩
  simp only[yd,CJ,un]
  rw[e3]
  simp only[Option.bind_some,un]
  rw[e4]
  simp (disch:=omega) only[Option.bind_some,un,gp,cond_true]
 | succ n ih=>
  intro i j d hn h1 h2 ha hj hs
  obtain ⟨t3,e3⟩:=CY (a:=a) ha hj hs _ i rfl h2
  have g1:=scanUp_ge (fun x=>ag x d[a]!) d j i
  have g2:=scanDown_le (fun x=> !ag x d[a]!) d (scanUp (fun x=>ag x d[a]!) d j i) j
  obtain ⟨t4,e4⟩:=vg (a:=a) (i:=scanUp (fun x=>ag x d[a]!) d j i) ha (by omega) hs j hj
  rw[partLoop_eq]
  have f:yd CC a ((i:Int),(j:Int),eA d)=yd CC a ((i:Int),(j:Int),eA d):=rfl
  conv at f=>rhs;simp only[yd,CJ,un];rw[e3];simp only[Option.bind_some,un];rw[e4];simp only[Option.bind_some,un]
  generalize kJ:scanUp (fun x=>ag x d[a]!) d j i=i2 at*
  generalize b8:scanDown (fun x=> !ag x d[a]!) d i2 j=j2 at*
  by_cases h:i2>j2
  ·rw[if_pos h]
   refine ⟨(i2:Int),true,aZ (f.trans ?_)⟩
   simp (disch:=omega) only[Option.bind_some,gp,cond_true]
  ·rw[if_neg h]
   obtain ⟨x,z,e⟩:=ih (i2+1) (j2-1) (swp d i2 j2) (by omega) (by omega) (by rw[size_swp];omega) (by rw[size_swp];omega) (by rw[size_swp];omega) (by rw[size_swp];omega)
   refine ⟨x,z,(cF (f.trans ?_)).trans e⟩
   simp (disch:=omega) only[ar,cl,dp,if_pos,if_neg,wrap64,bK,cT,Int.toNat_natCast,Option.bind_some,cR,cU,Ed.bR,Ed.bS,Ed.bU,Ed.re,cS,dC,Array.size_setIfInBounds,gO,V.ba,V.toInt_int,cond_true,cond_false,eJ]
   rfl
theorem Ol (d:Array Ed) (a b pivot:Nat):partition ag d a b pivot=
  if scanUp (fun x=>ag x (swp d a pivot)[a]!) (swp d a pivot) (b-1) (a+1)>scanDown (fun x=> !ag x (swp d a pivot)[a]!) (swp d a pivot) (scanUp (fun x=>ag x (swp d a pivot)[a]!) (swp d a pivot) (b-1) (a+1)) (b-1) then
   (scanDown (fun x=> !ag x (swp d a pivot)[a]!) (swp d a pivot) (scanUp (fun x=>ag x (swp d a pivot)[a]!) (swp d a pivot) (b-1) (a+1)) (b-1),true,swp (swp d a pivot) (scanDown (fun x=> !ag x (swp d a pivot)[a]!) (swp d a pivot) (scanUp (fun x=>ag x (swp d a pivot)[a]!) (swp d a pivot) (b-1) (a+1)) (b-1)) a)
  else
   ((partLoop ag a (scanUp (fun x=>ag x (swp d a pivot)[a]!) (swp d a pivot) (b-1) (a+1)+1) (scanDown (fun x=> !ag x (swp d a pivot)[a]!) (swp d a pivot) (scanUp (fun x=>ag x (swp d a pivot)[a]!) (swp d a pivot) (b-1) (a+1)) (b-1)-1) (swp (swp d a pivot) (scanUp (fun x=>ag x (swp d a pivot)[a]!) (swp d a pivot) (b-1) (a+1)) (scanDown (fun x=> !ag x (swp d a pivot)[a]!) (swp d a pivot) (scanUp (fun x=>ag x (swp d a pivot)[a]!) (swp d a pivot) (b-1) (a+1)) (b-1)))).1,false,
    swp (partLoop ag a (scanUp (fun x=>ag x (swp d a pivot)[a]!) (swp d a pivot) (b-1) (a+1)+1) (scanDown (fun x=> !ag x (swp d a pivot)[a]!) (swp d a pivot) (scanUp (fun x=>ag x (swp d a pivot)[a]!) (swp d a pivot) (b-1) (a+1)) (b-1)-1) (swp (swp d a pivot) (scanUp (fun x=>ag x (swp d a pivot)[a]!) (swp d a pivot) (b-1) (a+1)) (scanDown (fun x=> !ag x (swp d a pivot)[a]!) (swp d a pivot) (scanUp (fun x=>ag x (swp d a pivot)[a]!) (swp d a pivot) (b-1) (a+1)) (b-1)))).2
    (partLoop ag a (scanUp (fun x=>ag x (swp d a pivot)[a]!) (swp d a pivot) (b-1) (a+1)+1) (scanDown (fun x=> !ag x (swp d a pivot)[a]!) (swp d a pivot) (scanUp (fun x=>ag x (swp d a pivot)[a]!) (swp d a pivot) (b-1) (a+1)) (b-1)-1) (swp (swp d a pivot) (scanUp (fun x=>ag x (swp d a pivot)[a]!) (swp d a pivot) (b-1) (a+1)) (scanDown (fun x=> !ag x (swp d a pivot)[a]!) (swp d a pivot) (scanUp (fun x=>ag x (swp d a pivot)[a]!) (swp d a pivot) (b-1) (a+1)) (b-1)))).1 a):=rfl
theorem m8 (d:Array Ed) (i j:Nat):eA ((d.setIfInBounds i d[j]!).setIfInBounds j d[i]!)=eA (swp d i j):=rfl
theorem Om {a b pivot:Nat} {d:Array Ed} (hp:pivot<b) (cP:a<b) (hb:b≤d.size) (hs:d.size<1152921504606846976):
  CC oC [.int .i64 (a:Int),.int .i64 (b:Int),.int .i64 (pivot:Int),.list aj (eA d)]=
   some [.int .i64 ((partition ag d a b pivot).1:Int),.bool (partition ag d a b pivot).2.1,.list aj (eA (partition ag d a b pivot).2.2)]:=by
 refine ah8 ?_
 unfold XZ
 have z1:(swp d a pivot).size=d.size:=size_swp ..
 obtain ⟨t1,e1⟩:=Oi (a:=a) (j:=b-1) (d:=swp d a pivot) (by omega) (by omega) (by omega) _ (a+1) rfl (by omega)
 have g1:=scanUp_ge (fun x=>ag x (swp d a pivot)[a]!) (swp d a pivot) (b-1) (a+1)
 have g2:=scanDown_le (fun x=> !ag x (swp d a pivot)[a]!) (swp d a pivot) (scanUp (fun x=>ag x (swp d a pivot)[a]!) (swp d a pivot) (b-1) (a+1)) (b-1)
 obtain ⟨t2,e2⟩:=CZ (a:=a) (i:=scanUp (fun x=>ag x (swp d a pivot)[a]!) (swp d a pivot) (b-1) (a+1)) (d:=swp d a pivot) (by omega) (by omega) (by omega) (b-1) (by omega)
 have e0:=Ol d a b pivot
 rw[ey (i:=pivot) (by omega),ez (by omega),ey (i:=a) (by omega),ez (by omega),ey (i:=a) (by omega),ez (by omega),rL (i:=pivot) (by omega),rM (by omega)]
 simp only[Ed.bR,Ed.bS,Ed.bU,Ed.re,Int.toNat_natCast,cS,m8]
 simp (disch:=omega) only[eJ,bK,wrap64]
 rw[e1]
 simp only[Option.bind_some,un]
 rw[e2]
 simp only[Option.bind_some,un]
 generalize kJ:scanUp (fun x=>ag x (swp d a pivot)[a]!) (swp d a pivot) (b-1) (a+1)=i2 at*
 generalize b8:scanDown (fun x=> !ag x (swp d a pivot)[a]!) (swp d a pivot) i2 (b-1)=j2 at*
 generalize swp d a pivot=d1 at*
 by_cases h:i2>j2
 ·rw[if_pos h] at e0
  rw[e0,ar,if_pos (by omega)]
  rw[ey (i:=a) (by omega)];(first|rw[ez (by omega)]|rw[jd (by omega)]);rw[ey (i:=j2) (by omega)];(first|rw[ez (by omega)]|rw[jd (by omega)]);rw[ey (i:=j2) (by omega)];(first|rw[ez (by omega)]|rw[jd (by omega)]);rw[rL (i:=a) (by omega)];(first|rw[rM (by omega)]|rw[vf (by omega)])
  simp only[Ed.bR,Ed.bS,Ed.bU,Ed.re,Int.toNat_natCast,cS,m8]
 ·rw[if_neg h] at e0
  rw[e0,ar,if_neg (by omega)]
  have z2:(swp d1 i2 j2).size=d1.size:=size_swp ..
  obtain ⟨x,z,e5⟩:=Oj (a:=a) _ (i2+1) (j2-1) (swp d1 i2 j2) (Nat.le_refl _) (by omega) (by omega) (by omega) (by omega) (by omega)
  obtain ⟨q1,q2⟩:=Oh (a:=a) _ (i2+1) (j2-1) (swp d1 i2 j2) (Nat.le_refl _)
  rw[ey (i:=j2) (by omega)];(first|rw[ez (by omega)]|rw[jd (by omega)]);rw[ey (i:=i2) (by omega)];(first|rw[ez (by omega)]|rw[jd (by omega)]);rw[ey (i:=i2) (by omega)];(first|rw[ez (by omega)]|rw[jd (by omega)]);rw[rL (i:=j2) (by omega)];(first|rw[rM (by omega)]|rw[vf (by omega)])
  simp only[Ed.bR,Ed.bS,Ed.bU,Ed.re,Int.toNat_natCast,cS,m8]
  simp (disch:=omega) only[eJ,bK,wrap64]
  rw[e5]
  generalize partLoop ag a (i2+1) (j2-1) (swp d1 i2 j2)=r at*
  simp only[Option.bind_some,un]
  rw[ey (i:=a) (by omega)];(first|rw[ez (by omega)]|rw[jd (by omega)]);rw[ey (i:=r.1) (by omega)];(first|rw[ez (by omega)]|rw[jd (by omega)]);rw[ey (i:=r.1) (by omega)];(first|rw[ez (by omega)]|rw[jd (by omega)]);rw[rL (i:=a) (by omega)];(first|rw[rM (by omega)]|rw[vf (by omega)])
  simp only[Ed.bR,Ed.bS,Ed.bU,Ed.re,Int.toNat_natCast,cS,m8]
theorem On {a:Nat}: ∀(n i j:Nat) (d:Array Ed),j+1-i≤n→1≤i→i≤d.size→a<d.size→j<d.size→d.size<1152921504606846976→
  ∃x z,Loop (yh CC a) ((i:Int),(j:Int),eA d)=some ((((partEqLoop ag a i j d).1:Nat):Int),x,z,eA (partEqLoop ag a i j d).2):=by
 intro n
 induction n with
 | zero=>
  intro i j d hn h1 h2 ha hj hs
  obtain ⟨t3,e3⟩:=C2 (a:=a) ha hj hs _ i rfl h2
  have g1:=scanUp_ge (fun x=> !ag d[a]! x) d j i
  have g2:=scanDown_le (fun x=>ag d[a]! x) d (scanUp (fun x=> !ag d[a]! x) d j i) j
  obtain ⟨t4,e4⟩:=vh (a:=a) (i:=scanUp (fun x=> !ag d[a]! x) d j i) ha (by omega) hs j hj
  rw[partEqLoop_eq,if_pos (by omega)]
  refine ⟨((scanDown (fun x=>ag d[a]! x) d (scanUp (fun x=> !ag d[a]! x) d j i) j:Nat):Int),true,aZ ?_⟩
  simp only[yh,CN,un]
  rw[e3]
  simp only[Option.bind_some,un]
  rw[e4]
  simp (disch:=omega) only[Option.bind_some,un,gp,cond_true]
 | succ n ih=>
  intro i j d hn h1 h2 ha hj hs
  obtain ⟨t3,e3⟩:=C2 (a:=a) ha hj hs _ i rfl h2
  have g1:=scanUp_ge (fun x=> !ag d[a]! x) d j i
  have g2:=scanDown_le (fun x=>ag d[a]! x) d (scanUp (fun x=> !ag d[a]! x) d j i) j
  obtain ⟨t4,e4⟩:=vh (a:=a) (i:=scanUp (fun x=> !ag d[a]! x) d j i) ha (by omega) hs j hj
  rw[partEqLoop_eq]
  have f:yh CC a ((i:Int),(j:Int),eA d)=yh CC a ((i:Int),(j:Int),eA d):=rfl
  conv at f=>rhs;simp only[yh,CN,un];rw[e3];simp only[Option.bind_some,un];rw[e4];simp only[Option.bind_some,un]
  generalize kJ:scanUp (fun x=> !ag d[a]! x) d j i=i2 at*
  generalize b8:scanDown (fun x=>ag d[a]! x) d i2 j=j2 at*
  by_cases h:i2>j2
  ·rw[if_pos h]
   refine ⟨(j2:Int),true,aZ (f.trans ?_)⟩
   simp (disch:=omega) only[Option.bind_some,gp,cond_true]
  ·rw[if_neg h]
   obtain ⟨x,z,e⟩:=ih (i2+1) (j2-1) (swp d i2 j2) (by omega) (by omega) (by rw[size_swp];omega) (by rw[size_swp];omega) (by rw[size_swp];omega) (by rw[size_swp];omega)
   refine ⟨x,z,(cF (f.trans ?_)).trans e⟩
   simp (disch:=omega) only[ar,cl,dp,if_pos,if_neg,wrap64,bK,cT,Int.toNat_natCast,Option.bind_some,cR,cU,Ed.bR,Ed.bS,Ed.bU,Ed.re,cS,dC,Array.size_setIfInBounds,gO,V.ba,V.toInt_int,cond_true,cond_false,eJ]
   rfl
theorem Oo {a b pivot:Nat} {d:Array Ed} (hp:pivot<b) (cP:a<b) (hb:b≤d.size) (hs:d.size<1152921504606846976):
  CC xe [.int .i64 (a:Int),.int .i64 (b:Int),.int .i64 (pivot:Int),.list aj (eA d)]=
   some [.int .i64 ((partitionEqual ag d a b pivot).1:Int),.list aj (eA (partitionEqual ag d a b pivot).2)]:=by
 refine aie ?_
 unfold X1
 have z1:(swp d a pivot).size=d.size:=size_swp ..
 obtain ⟨x,z,e⟩:=On (a:=a) _ (a+1) (b-1) (swp d a pivot) (Nat.le_refl _) (by omega) (by omega) (by omega) (by omega) (by omega)
 simp (disch:=omega) only[ar,cl,if_pos,cR,cU,Int.toNat_natCast,Option.bind_some,Ed.bR,Ed.bS,Ed.bU,Ed.re,cS,dC,Array.size_setIfInBounds,eJ,bK,wrap64,m8]
 rw[e]
 rfl
theorem Oq {a b j:Nat} {d:Array Ed} (hb:b≤d.size) (hs:d.size<1152921504606846976): ∀(n i:Nat),b-i=n→1≤i→i≤b→
  ∃t,Loop (CP CC a b j (eA d)) (i:Int)=some (((scanSorted ag d b i:Nat):Int),t):=by
 intro n
 induction n with
 | zero=>
  intro i hn h1 hi
  rw[rJ,if_neg (by omega)]
  exact ⟨false,aZ (by simp (disch:=omega) only[CP,CO,ar,if_neg])⟩
 | succ n ih=>
  intro i hn h1 hi
  obtain ⟨t,h⟩:=ih (i+1) (by omega) (by omega) (by omega)
  rw[rJ,if_pos (by omega)]
  have e:CP CC a b j (eA d) (i:Int)=if aR d[i]! d[i-1]! <0 then some (.inr ((i:Int),!decide (aR d[i]! d[i-1]! <0))) else some (.inl ((i+1:Nat):Int)):=by
   simp (disch:=omega) only[CP,CO,eJ,ar,cl,dp,if_pos,if_neg,wrap64,bK,cT,Int.toNat_natCast,Option.bind_some,cR,cU,Ed.bR,Ed.bS,Ed.bU,Ed.re,cS,dC,Array.size_setIfInBounds,gO,V.ba,V.toInt_int,cond_true,cond_false]
  by_cases h2:aR d[i]! d[i-1]! <0
  ·rw[if_pos h2] at e⊢
   exact ⟨_,aZ e⟩
  ·rw[if_neg h2] at e⊢
   exact ⟨t,(cF e).trans h⟩
theorem C3: ∀(j:Nat) (d:Array Ed),(shiftDown ag j d).size=d.size
 | 0,_=>rfl
 | j+1,d=>by
  rw[CX]
  split
  ·rw[C3 j,size_swp]
  ·rfl
theorem Ot {b:Nat}: ∀(n j:Nat) (d:Array Ed),b-j=n→(shiftUp ag b j d).size=d.size:=by
 intro n
 induction n with
 | zero=>intro j d h;rw[rK,if_neg (by omega)]
 | succ n ih=>
  intro j d h
  rw[rK,if_pos (by omega)]
  split
  ·rw[ih _ _ (by omega),size_swp]
  ·rfl
theorem C4 {a b i k:Nat}: ∀(j:Nat) (d:Array Ed),j<d.size→d.size<1152921504606846976→
  ∃t,Loop (CR CC a b i k) ((j:Int),eA d)=some (t,eA (shiftDown ag j d))
 | 0,d,hj,hs=>⟨(0:Nat),aZ (by
   simp (disch:=omega) only[CR,CQ,un,ar,if_neg]
   rfl)⟩
 | j+1,d,hj,hs=>by
  obtain ⟨t,ih⟩:=C4 (a:=a) (b:=b) (i:=i) (k:=k) j (swp d (j+1) j) (by rw[size_swp];omega) (by rw[size_swp];omega)
  rw[CX]
  have e:CR CC a b i k (((j+1:Nat):Int),eA d)=if aR d[j+1]! d[j]! <0 then some (.inl ((j:Int),eA (swp d (j+1) j))) else some (.inr (((j+1:Nat):Int),eA d)):=by
   simp (disch:=omega) only[CR,CQ,un,ar,cl,dp,if_pos,if_neg,wrap64,bK,cT,Int.toNat_natCast,Option.bind_some,cR,cU,Ed.bR,Ed.bS,Ed.bU,Ed.re,cS,dC,Array.size_setIfInBounds,gO,V.ba,V.toInt_int,cond_true,cond_false,me]
   rfl
  by_cases h2:aR d[j+1]! d[j]! <0
  ·rw[if_pos h2] at e⊢
   exact ⟨t,(cF e).trans ih⟩
  ·rw[if_neg h2] at e⊢
   exact ⟨_,aZ e⟩
theorem Ou {a b i k:Nat}: ∀(n j:Nat) (d:Array Ed),b-j=n→1≤j→j≤b→b≤d.size→d.size<1152921504606846976→
  ∃t,Loop (CT CC a b i k) ((j:Int),eA d)=some (t,eA (shiftUp ag b j d)):=by
 intro n
 induction n with
 | zero=>
  intro j d hn h1 hj hb hs
  rw[rK,if_neg (by omega)]
  exact ⟨(j:Int),aZ (by
   simp (disch:=omega) only[CT,CS,un,ar,if_neg])⟩
 | succ n ih=>
  intro j d hn h1 hj hb hs
  obtain ⟨t,h⟩:=ih (j+1) (swp d j (j-1)) (by omega) (by omega) (by omega) (by rw[size_swp];omega) (by rw[size_swp];omega)
  rw[rK,if_pos (by omega)]
  have e:CT CC a b i k ((j:Int),eA d)=if aR d[j]! d[j-1]! <0 then some (.inl (((j+1:Nat):Int),eA (swp d j (j-1)))) else some (.inr ((j:Int),eA d)):=by
   simp (disch:=omega) only[CT,CS,un,eJ,ar,cl,dp,if_pos,if_neg,wrap64,bK,cT,Int.toNat_natCast,Option.bind_some,cR,cU,Ed.bR,Ed.bS,Ed.bU,Ed.re,cS,dC,Array.size_setIfInBounds,gO,V.ba,V.toInt_int,cond_true,cond_false]
   rfl
  by_cases h2:aR d[j]! d[j-1]! <0
  ·rw[if_pos h2] at e⊢
   exact ⟨t,(cF e).trans h⟩
  ·rw[if_neg h2] at e⊢
   exact ⟨_,aZ e⟩
theorem Ov {d:Array Ed} {b:Nat}: ∀(n i:Nat),b-i=n→i≤b→i≤scanSorted ag d b i∧scanSorted ag d b i≤b:=by
 intro n
 induction n with
 | zero=>intro i hn hi;rw[rJ,if_neg (by omega)];omega
 | succ n ih=>
  intro i hn hi
  rw[rJ,if_pos (by omega)]
  obtain ⟨h1,h2⟩:=ih (i+1) (by omega) (by omega)
  split<;>omega
theorem Ow {a b:Nat}: ∀(s i:Nat) (d:Array Ed),s≤5→a<i→i≤b→b≤d.size→d.size<1152921504606846976→
  (Loop (s9 CC a b) ((i:Int),((5-s:Nat):Int),eA d)=some (.inl ((partialIns ag a b s i d).2,eA (partialIns ag a b s i d).1)))∨
  (∃x y z,(partialIns ag a b s i d).2=false∧Loop (s9 CC a b) ((i:Int),((5-s:Nat):Int),eA d)=some (.inr (x,y,z,eA (partialIns ag a b s i d).1))):=by
 intro s
 induction s with
 | zero=>
  intro i d Ox hi vi hb hs
  refine .inr ⟨(i:Int),((5:Nat):Int),false,rfl,aZ ?_⟩
  simp (disch:=omega) only[s9,CU,un,jS,cond_false]
  rfl
 | succ s ih=>
  intro i d Ox hi vi hb hs
  obtain ⟨t1,e1⟩:=Oq (a:=a) (j:=5-(s+1)) hb hs _ i rfl (by omega) vi
  obtain ⟨q1,q2⟩:=Ov (d:=d) _ i rfl vi
  rw[partialIns_succ]
  have f:s9 CC a b ((i:Int),((5-(s+1):Nat):Int),eA d)=s9 CC a b ((i:Int),((5-(s+1):Nat):Int),eA d):=rfl
  conv at f=>rhs;simp only[s9,CU,un];rw[ar,if_pos (by omega),e1];simp only[Option.bind_some,un]
  generalize scanSorted ag d b i=k at*
  by_cases h1:k=b
  ·rw[if_pos h1]
   left
   refine aZ (f.trans ?_)
   rw[km,if_pos (by omega)]
  ·rw[if_neg h1]
   by_cases h2:b-a<50
   ·rw[if_pos h2]
    left
    refine aZ (f.trans ?_)
    rw[km,if_neg (by omega),wrap64 (by omega) (by omega),ar,if_pos (by omega)]
   ·rw[if_neg h2]
    have z1:(swp d k (k-1)).size=d.size:=size_swp ..
    have z2:(fixDown ag a k (swp d k (k-1))).size=d.size:=by
     unfold fixDown
     split
     ·rw[C3,z1]
     ·exact z1
    have z3:(fixUp ag b k (fixDown ag a k (swp d k (k-1)))).size=d.size:=by
     unfold fixUp
     split
     ·rw[Ot _ _ _ rfl,z2]
     ·exact z2
    obtain ⟨t2,e2⟩:=C4 (a:=a) (b:=b) (i:=k) (k:=5-(s+1)) (k-1) (swp d k (k-1)) (by omega) (by omega)
    obtain ⟨t4,e4⟩:=Ou (a:=a) (b:=b) (i:=k) (k:=5-(s+1)) _ (k+1) (fixDown ag a k (swp d k (k-1))) rfl (by omega) (by omega) (by omega) (by omega)
    have e5:s9 CC a b ((i:Int),((5-(s+1):Nat):Int),eA d)=some (.inl ((k:Int),((5-s:Nat):Int),eA (fixUp ag b k (fixDown ag a k (swp d k (k-1)))))):=by
     refine f.trans ?_
     rw[km,if_neg (by omega),wrap64 (by omega) (by omega),ar,if_neg (by omega)]
     simp (disch:=omega) only[ar,cl,if_pos,cR,cU,Int.toNat_natCast,Option.bind_some,Ed.bR,Ed.bS,Ed.bU,Ed.re,cS,dC,Array.size_setIfInBounds,eJ,bK,fE,wrap64,m8,H2]
     rw[show 5-(s+1)+1=5-s by omega]
     unfold fixDown at e4⊢
     unfold fixUp
     have c1:(((k-a:Nat):Int)≥2)=(k-a≥2):=propext (by omega)
     have c2:(((b-k:Nat):Int)≥2)=(b-k≥2):=propext (by omega)
     simp only[c1,c2]
     by_cases g1:k-a≥2
     ·by_cases g2:b-k≥2
      ·simp only[g1,g2,if_true,e2,Option.bind_some,un] at e4⊢
       rw[e4]
       rfl
      ·simp only[g1,g2,if_true,if_false,e2,Option.bind_some,un]
     ·by_cases g2:b-k≥2
      ·simp only[g1,g2,if_true,if_false] at e4⊢
       rw[e4]
       rfl
      ·exact absurd (show b-k≥2 by omega) g2
    rw[cF e5]
    exact ih k _ (by omega) (by omega) (by omega) (by omega) (by omega)
theorem C6 {a b:Nat} {d:Array Ed} (cP:a<b) (hb:b≤d.size) (hs:d.size<1152921504606846976):
  CC KN [.int .i64 (a:Int),.int .i64 (b:Int),.list aj (eA d)]=
   some [.bool (partialInsertionSort ag d a b).2,.list aj (eA (partialInsertionSort ag d a b).1)]:=by
 refine aiq ?_
 unfold X3
 simp (disch:=omega) only[bK,wrap64]
 rcases Ow (a:=a) (b:=b) 5 (a+1) d (Nat.le_refl _) (by omega) (by omega) hb hs with h|⟨x,y,z,h0,h⟩
 ·rw[show ((5-5:Nat):Int)=0 from rfl] at h
  rw[h]
  rfl
 ·rw[show ((5-5:Nat):Int)=0 from rfl] at h
  rw[h]
  unfold partialInsertionSort
  rw[h0]
  rfl
end Go.AM.SL
set_option maxRecDepth 100000
namespace Go.AM
open Go.Proofs
noncomputable abbrev ta:Code:=ch Tryd.prog (aq.aO 173)
noncomputable def C7 (C:ae) (data:List V) (i j k':Int) (t36:Bool) (dk:Int) {β:Type} (kr:(Int × Int × Int × Int)→Option β):Option β:=
 bif t36 then
  (C AQ [.list aj data,.int .i64 i,.int .i64 dk]).bind fun r1=>
  (C AQ [.list aj data,.int .i64 j,.int .i64 ((V.nth (r1.drop 1) 0).toInt)]).bind fun r2=>
  (C AQ [.list aj data,.int .i64 k',.int .i64 ((V.nth (r2.drop 1) 0).toInt)]).bind fun r3=>
  kr ((V.nth r1 0).toInt,(V.nth r2 0).toInt,(V.nth r3 0).toInt,(V.nth (r3.drop 1) 0).toInt)
 else
  kr (i,j,k',dk)
noncomputable def C8 (C:ae) (data:List V) (l i j k':Int) (t34:Bool) (dk:Int) {β:Type} (kr:(Int × Int)→Option β):Option β:=
 bif t34 then
  C7 C data i j k' (decide ((l:Int)≥50)) dk (un fun (cE:Int)=>un fun (Oy:Int)=>un fun (Oz:Int) (OA:Int)=>
   (C GD [.list aj data,.int .i64 cE,.int .i64 Oy,.int .i64 Oz,.int .i64 OA]).bind fun r8=>
   kr ((V.nth r8 0).toInt,(V.nth (r8.drop 1) 0).toInt))
 else
  kr (j,dk)
noncomputable def X4 (C:ae):b6:=fun β n ds k=>
 bif Nat.beq n 591 then iq MH [[1,0,0,0,0]] (@C7 C) ds k else
 bif Nat.beq n 559 then iq MI [[0,0]] (@C8 C) ds k else
 none
abbrev X5 (C:ae) (b:bY):Prop:=bZ Tryd.prog aq C (X4 C) 173 (cm Tryd.prog (aq.aO 173)) (aq.sin 173).aW.length b
theorem air (C:ae):X5 C (.cond 36 (an [1,1,1,1,1,1,0,1,0,0,1,0] ta) (an [1,1,1,1,1,1,0,1,0,0,1,1] ta)):=
 iT MH [[1,0,0,0,0]] (@C7 C) (by kernel_rfl) (aI (bs:=[]) (by kernel_rfl) ao) (aI (bs:=[]) (by kernel_rfl) ao) (fun ds=>by kernel_rfl) (fun i β k=>by kernel_rfl) (fun β ds k=>by kernel_rfl)
theorem ais (C:ae):X5 C (.cond 34 (an [1,1,1,1,1,1,0,1,0] ta) (an [1,1,1,1,1,1,0,1,1] ta)):=
 iT MI [[0,0]] (@C8 C) (by kernel_rfl) (aI (bs:=[.cond 36 (an [1,1,1,1,1,1,0,1,0,0,1,0] ta) (an [1,1,1,1,1,1,0,1,0,0,1,1] ta)]) (by kernel_rfl) (aU (air C) ao)) (aI (bs:=[]) (by kernel_rfl) ao) (fun ds=>by kernel_rfl) (fun i β k=>by kernel_rfl) (fun β ds k=>by kernel_rfl)
noncomputable def OB (C:ae) (data:List V) (a b':Int):Option (List V):=
 C8 C data (IntKind.wrap .i64 (b'-a)) (IntKind.wrap .i64 (a+(IntKind.wrap .i64 (1*(IntKind.wrap .i64 (Int.tdiv (IntKind.wrap .i64 (b'-a)) 4)))))) (IntKind.wrap .i64 (a+(IntKind.wrap .i64 (2*(IntKind.wrap .i64 (Int.tdiv (IntKind.wrap .i64 (b'-a)) 4)))))) (IntKind.wrap .i64 (a+(IntKind.wrap .i64 (3*(IntKind.wrap .i64 (Int.tdiv (IntKind.wrap .i64 (b'-a)) 4)))))) (decide (((IntKind.wrap .i64 (b'-a)):Int)≥8)) 0 (un fun (vj:Int) (C9:Int)=>
  bif (C9:Int)==0 then
   some [.int .i64 vj,.int .i64 1]
  else
   bif (C9:Int)==12 then
   some [.int .i64 vj,.int .i64 2]
   else
   some [.int .i64 vj,.int .i64 0])
theorem X6 {data:List V} {a b':Int} {r:Option (List V)} (h:OB CC data a b'=r):CC GC [.list aj data,.int .i64 a,.int .i64 b']=r:=
 bf (key:=173) (L:=X4 CC) (bs:=[.cond 34 (an [1,1,1,1,1,1,0,1,0] ta) (an [1,1,1,1,1,1,0,1,1] ta)]) (by kernel_rfl) (aU (ais CC) ao) (Eq.trans (by kernel_rfl) h)
noncomputable def X7 (C:ae) (data:List V) (a b' c dk:Int):Option (List V):=
 (C AR [.list aj data,.int .i64 a,.int .i64 b',.int .i64 dk]).bind fun r1=>
 (C AR [.list aj data,.int .i64 ((V.nth (r1.drop 1) 0).toInt),.int .i64 c,.int .i64 ((V.nth (r1.drop 2) 0).toInt)]).bind fun r2=>
 (C AR [.list aj data,.int .i64 ((V.nth r1 0).toInt),.int .i64 ((V.nth r2 0).toInt),.int .i64 ((V.nth (r2.drop 2) 0).toInt)]).bind fun r3=>
 some [.int .i64 ((V.nth (r3.drop 1) 0).toInt),.int .i64 ((V.nth (r3.drop 2) 0).toInt)]
theorem ait {data:List V} {a b' c dk:Int} {r:Option (List V)} (h:X7 CC data a b' c dk=r):CC GD [.list aj data,.int .i64 a,.int .i64 b',.int .i64 c,.int .i64 dk]=r:=
 bf (key:=175) (L:=dq) (bs:=[]) (by kernel_rfl) ao (Eq.trans (by kernel_rfl) h)
noncomputable def OC (C:ae) (data:List V) (a b' dk:Int):Option (List V):=
 (idx data b').bind fun x1=>
 (idx data a).bind fun x2=>
 (C bq [.int .i64 ((x1.cell 0).toInt),.int .i64 ((x1.cell 1).toInt),.int .i64 ((x1.cell 2).toInt),.int .i64 ((x2.cell 0).toInt),.int .i64 ((x2.cell 1).toInt),.int .i64 ((x2.cell 2).toInt)]).bind fun r3=>
 bif decide ((((V.nth r3 0).toInt):Int)<0) then
  some [.int .i64 b',.int .i64 a,.int .i64 (IntKind.wrap .i64 (dk+1))]
 else
  some [.int .i64 a,.int .i64 b',.int .i64 dk]
theorem X8 {data:List V} {a b' dk:Int} {r:Option (List V)} (h:OC CC data a b' dk=r):CC AR [.list aj data,.int .i64 a,.int .i64 b',.int .i64 dk]=r:=
 bf (key:=176) (L:=dq) (bs:=[]) (by kernel_rfl) ao (Eq.trans (by kernel_rfl) h)
noncomputable def X9 (C:ae) (data:List V) (a dk:Int):Option (List V):=
 (C GD [.list aj data,.int .i64 (IntKind.wrap .i64 (a-1)),.int .i64 a,.int .i64 (IntKind.wrap .i64 (a+1)),.int .i64 dk]).bind fun r1=>
 some [.int .i64 ((V.nth r1 0).toInt),.int .i64 ((V.nth (r1.drop 1) 0).toInt)]
theorem aiu {data:List V} {a dk:Int} {r:Option (List V)} (h:X9 CC data a dk=r):CC AQ [.list aj data,.int .i64 a,.int .i64 dk]=r:=
 bf (key:=174) (L:=dq) (bs:=[]) (by kernel_rfl) ao (Eq.trans (by kernel_rfl) h)
noncomputable abbrev yi:Code:=ch Tryd.prog (aq.aO 172)
noncomputable def H3 (C:ae) (a length m9 eh other:Int) (t45:Bool) (ab:List V) (oM:Int) {β:Type} (kr:(Int)→Option β):Option β:=
 bif t45 then
  kr (IntKind.wrap .i64 (other-length))
 else
  kr other
noncomputable def Db (C:ae) (a length m9 eh:Int) (ab:List V) (oM:Int) {β:Type} (kn:(Int × (List V) × Int)→Option β) (kr:(Int × Bool × (List V) × Int)→Option β):Option β:=
 bif decide ((eh:Int)≤(IntKind.wrap .i64 ((IntKind.wrap .i64 (a+(IntKind.wrap .i64 (2*(IntKind.wrap .i64 (Int.tdiv length 4))))))+1))) then
  (C xc [.int .u64 oM]).bind fun r2=>
  H3 C a length m9 eh (IntKind.wrap .i64 (IntKind.wrap .u64 ((BitVec.ofInt (IntKind.bits .u64) ((V.nth r2 0).toInt)&&&BitVec.ofInt (IntKind.bits .u64) (IntKind.wrap .u64 (m9-1))).toNat))) (decide (((IntKind.wrap .i64 (IntKind.wrap .u64 ((BitVec.ofInt (IntKind.bits .u64) ((V.nth r2 0).toInt)&&&BitVec.ofInt (IntKind.bits .u64) (IntKind.wrap .u64 (m9-1))).toNat))):Int)≥length)) ab ((V.nth (r2.drop 1) 0).toInt) (fun (lg:Int)=>
   bif (decide (0≤(IntKind.wrap .i64 (a+lg))))&&(decide ((IntKind.wrap .i64 (a+lg))<(ab.length:Int))) then
   (ab[(IntKind.wrap .i64 (a+lg):Int).toNat]?).bind fun x4=>
   bif (decide (0≤eh))&&(decide (eh<(ab.length:Int))) then
    (ab[(eh:Int).toNat]?).bind fun x5=>
    bif (decide (0≤eh))&&(decide (eh<(ab.length:Int))) then
    (ab[(eh:Int).toNat]?).bind fun x6=>
    bif (decide (0≤(IntKind.wrap .i64 (a+lg))))&&(decide ((IntKind.wrap .i64 (a+lg))<((ab.set ((eh:Int).toNat) (.agg [.int .i64 ((x4.cell 0).toInt),.int .i64 ((x4.cell 1).toInt),.int .i64 ((x4.cell 2).toInt)])).length:Int))) then
     ((ab.set ((eh:Int).toNat) (.agg [.int .i64 ((x4.cell 0).toInt),.int .i64 ((x4.cell 1).toInt),.int .i64 ((x4.cell 2).toInt)]))[(IntKind.wrap .i64 (a+lg):Int).toNat]?).bind fun x7=>
     kn (IntKind.wrap .i64 (eh+1),(ab.set ((eh:Int).toNat) (.agg [.int .i64 ((x4.cell 0).toInt),.int .i64 ((x4.cell 1).toInt),.int .i64 ((x4.cell 2).toInt)])).set ((IntKind.wrap .i64 (a+lg):Int).toNat) (.agg [.int .i64 ((x5.cell 0).toInt),.int .i64 ((x5.cell 1).toInt),.int .i64 ((x5.cell 2).toInt)]),(V.nth (r2.drop 1) 0).toInt)
    else none
    else none
   else none
   else none)
 else
  kr (eh,decide ((eh:Int)≤(IntKind.wrap .i64 ((IntKind.wrap .i64 (a+(IntKind.wrap .i64 (2*(IntKind.wrap .i64 (Int.tdiv length 4))))))+1))),ab,oM)
noncomputable def H4 (C:ae) (a length m9:Int):(Int × (List V) × Int)→Option ((Int × (List V) × Int) ⊕ (Int × Bool × (List V) × Int)):=un fun eh=>un fun ab oM=>Db C a length m9 eh ab oM (fun y=>some (.inl y)) (fun r=>some (.inr r))
noncomputable def Ya (C:ae):b6:=fun β n ds k=>
 bif Nat.beq n 735 then iq MF [[1,2,3,4,0,7,8]] (@H3 C) ds k else
 bif Nat.beq n 81 then bd MG [false,false,false,true,true,true] [[1,2,3,0,0,0,0]] (@Db C) ds k else
 none
abbrev Yb (C:ae) (b:bY):Prop:=bZ Tryd.prog aq C (Ya C) 172 (cm Tryd.prog (aq.aO 172)) (aq.sin 172).aW.length b
theorem aiv (C:ae):Yb C (.cond 45 (an [1,1,0,1,1,1,0,0,1,0,0,1,0,1,0] yi) (an [1,1,0,1,1,1,0,0,1,0,0,1,0,1,1] yi)):=
 iT MF [[1,2,3,4,0,7,8]] (@H3 C) (by kernel_rfl) (aI (bs:=[]) (by kernel_rfl) ao) (aI (bs:=[]) (by kernel_rfl) ao) (fun ds=>by kernel_rfl) (fun i β k=>by kernel_rfl) (fun β ds k=>by kernel_rfl)
theorem aiw (C:ae):Yb C (.loop (an [1,1,0,1,1,1,0,0] yi)):=
 bh MG [false,false,false,true,true,true] [[1,2,3,0,0,0,0]] (@Db C) (by kernel_rfl) (aI (bs:=[.cond 45 (an [1,1,0,1,1,1,0,0,1,0,0,1,0,1,0] yi) (an [1,1,0,1,1,1,0,0,1,0,0,1,0,1,1] yi)]) (by kernel_rfl) (aU (aiv C) ao)) (fun ds=>by kernel_rfl) (fun i x=>by kernel_rfl) (fun i x β k=>by kernel_rfl) (fun β ds k=>by kernel_rfl)
noncomputable def Yc (C:ae) (a b':Int) (ab:List V):Option (List V):=
 bif decide (((IntKind.wrap .i64 (b'-a)):Int)≥8) then
  (C xb [.int .i64 (IntKind.wrap .i64 (b'-a))]).bind fun r1=>
  (Loop (H4 C a (IntKind.wrap .i64 (b'-a)) ((V.nth r1 0).toInt)) (IntKind.wrap .i64 ((IntKind.wrap .i64 (a+(IntKind.wrap .i64 (2*(IntKind.wrap .i64 (Int.tdiv (IntKind.wrap .i64 (b'-a)) 4))))))-1),ab,IntKind.wrap .u64 (IntKind.wrap .i64 (b'-a)))).bind (un fun (aix:Int)=>un fun (mT:Bool)=>un fun (gC:List V) (aiy:Int)=>
   some [.list aj gC])
 else
  some [.list aj ab]
theorem aiz {a b':Int} {ab:List V} {r:Option (List V)} (h:Yc CC a b' ab=r):CC KL [.int .i64 a,.int .i64 b',.list aj ab]=r:=
 bf (key:=172) (L:=Ya CC) (bs:=[.loop (an [1,1,0,1,1,1,0,0] yi)]) (by kernel_rfl) (aU (aiw CC) ao) (Eq.trans (by kernel_rfl) h)
noncomputable def OD (C:ae) (je:Int):Option (List V):=
 some [.int .u64 (IntKind.wrap .u64 ((BitVec.ofInt (IntKind.bits .u64) (IntKind.wrap .u64 ((BitVec.ofInt (IntKind.bits .u64) (IntKind.wrap .u64 ((BitVec.ofInt (IntKind.bits .u64) je ^^^ BitVec.ofInt (IntKind.bits .u64) (IntKind.wrap .u64 (je*2^(min (13:Int).toNat (IntKind.bits .u64))))).toNat)) ^^^ BitVec.ofInt (IntKind.bits .u64) (Int.fdiv (IntKind.wrap .u64 ((BitVec.ofInt (IntKind.bits .u64) je ^^^ BitVec.ofInt (IntKind.bits .u64) (IntKind.wrap .u64 (je*2^(min (13:Int).toNat (IntKind.bits .u64))))).toNat)) (2^(min (7:Int).toNat (IntKind.bits .u64))))).toNat)) ^^^ BitVec.ofInt (IntKind.bits .u64) (IntKind.wrap .u64 ((IntKind.wrap .u64 ((BitVec.ofInt (IntKind.bits .u64) (IntKind.wrap .u64 ((BitVec.ofInt (IntKind.bits .u64) je ^^^ BitVec.ofInt (IntKind.bits .u64) (IntKind.wrap .u64 (je*2^(min (13:Int).toNat (IntKind.bits .u64))))).toNat)) ^^^ BitVec.ofInt (IntKind.bits .u64) (Int.fdiv (IntKind.wrap .u64 ((BitVec.ofInt (IntKind.bits .u64) je ^^^ BitVec.ofInt (IntKind.bits .u64) (IntKind.wrap .u64 (je*2^(min (13:Int).toNat (IntKind.bits .u64))))).toNat)) (2^(min (7:Int).toNat (IntKind.bits .u64))))).toNat))*2^(min (17:Int).toNat (IntKind.bits .u64))))).toNat)),.int .u64 (IntKind.wrap .u64 ((BitVec.ofInt (IntKind.bits .u64) (IntKind.wrap .u64 ((BitVec.ofInt (IntKind.bits .u64) (IntKind.wrap .u64 ((BitVec.ofInt (IntKind.bits .u64) je ^^^ BitVec.ofInt (IntKind.bits .u64) (IntKind.wrap .u64 (je*2^(min (13:Int).toNat (IntKind.bits .u64))))).toNat)) ^^^ BitVec.ofInt (IntKind.bits .u64) (Int.fdiv (IntKind.wrap .u64 ((BitVec.ofInt (IntKind.bits .u64) je ^^^ BitVec.ofInt (IntKind.bits .u64) (IntKind.wrap .u64 (je*2^(min (13:Int).toNat (IntKind.bits .u64))))).toNat)) (2^(min (7:Int).toNat (IntKind.bits .u64))))).toNat)) ^^^ BitVec.ofInt (IntKind.bits .u64) (IntKind.wrap .u64 ((IntKind.wrap .u64 ((BitVec.ofInt (IntKind.bits .u64) (IntKind.wrap .u64 ((BitVec.ofInt (IntKind.bits .u64) je ^^^ BitVec.ofInt (IntKind.bits .u64) (IntKind.wrap .u64 (je*2^(min (13:Int).toNat (IntKind.bits .u64))))).toNat)) ^^^ BitVec.ofInt (IntKind.bits .u64) (Int.fdiv (IntKind.wrap .u64 ((BitVec.ofInt (IntKind.bits .u64) je ^^^ BitVec.ofInt (IntKind.bits .u64) (IntKind.wrap .u64 (je*2^(min (13:Int).toNat (IntKind.bits .u64))))).toNat)) (2^(min (7:Int).toNat (IntKind.bits .u64))))).toNat))*2^(min (17:Int).toNat (IntKind.bits .u64))))).toNat))]
theorem Yd {je:Int} {r:Option (List V)} (h:OD CC je=r):CC xc [.int .u64 je]=r:=
 bf (key:=143) (L:=dq) (bs:=[]) (by kernel_rfl) ao (Eq.trans (by kernel_rfl) h)
noncomputable def OE (C:ae) (length:Int):Option (List V):=
 (C w5 [.int .u64 (IntKind.wrap .u64 length)]).bind fun r1=>
 bif decide (0≤((V.nth r1 0).toInt)) then
  some [.int .u64 (IntKind.wrap .u64 (1*2^(min ((V.nth r1 0).toInt).toNat (IntKind.bits .u64))))]
 else none
theorem Ye {length:Int} {r:Option (List V)} (h:OE CC length=r):CC xb [.int .i64 length]=r:=
 bf (key:=142) (L:=dq) (bs:=[]) (by kernel_rfl) ao (Eq.trans (by kernel_rfl) h)
noncomputable def OF (C:ae) (x:Int):Option (List V):=
 (C AL [.int .u64 x]).bind fun r1=>
 some [.int .i64 ((V.nth r1 0).toInt)]
theorem Yf {x:Int} {r:Option (List V)} (h:OF CC x=r):CC w5 [.int .u64 x]=r:=
 bf (key:=111) (L:=dq) (bs:=[]) (by kernel_rfl) ao (Eq.trans (by kernel_rfl) h)
noncomputable abbrev tc:Code:=ch Tryd.prog (aq.aO 134)
noncomputable def oN (C:ae) (x n:Int) (t4:Bool) {β:Type} (kr:(Int × Int)→Option β):Option β:=
 bif t4 then
  kr (Int.fdiv x (2^(min (32:Int).toNat (IntKind.bits .u64))),32)
 else
  kr (x,n)
noncomputable def oO (C:ae) (x n:Int) (t8:Bool) {β:Type} (kr:(Int × Int)→Option β):Option β:=
 bif t8 then
  kr (Int.fdiv x (2^(min (16:Int).toNat (IntKind.bits .u64))),IntKind.wrap .i64 (n+16))
 else
  kr (x,n)
noncomputable def Yg (C:ae):b6:=fun β n ds k=>
 bif Nat.beq n 79 then iq Ms [[0,0]] (@oN C) ds k else
 bif Nat.beq n 143 then iq Mt [[0,0]] (@oO C) ds k else
 none
abbrev Yh (C:ae) (b:bY):Prop:=bZ Tryd.prog aq C (Yg C) 134 (cm Tryd.prog (aq.aO 134)) (aq.sin 134).aW.length b
theorem aiA (C:ae):Yh C (.cond 4 (an [1,0,1,0] tc) (an [1,0,1,1] tc)):=
 iT Ms [[0,0]] (@oN C) (by kernel_rfl) (aI (bs:=[]) (by kernel_rfl) ao) (aI (bs:=[]) (by kernel_rfl) ao) (fun ds=>by kernel_rfl) (fun i β k=>by kernel_rfl) (fun β ds k=>by kernel_rfl)
theorem aiB (C:ae):Yh C (.cond 8 (an [1,1,0,1,0] tc) (an [1,1,0,1,1] tc)):=
 iT Mt [[0,0]] (@oO C) (by kernel_rfl) (aI (bs:=[]) (by kernel_rfl) ao) (aI (bs:=[]) (by kernel_rfl) ao) (fun ds=>by kernel_rfl) (fun i β k=>by kernel_rfl) (fun β ds k=>by kernel_rfl)
noncomputable def aiC (C:ae) (x:Int):Option (List V):=
 oN C x 0 (decide ((x:Int)≥4294967296)) (un fun (mf:Int) (dB:Int)=>
  oO C mf dB (decide ((mf:Int)≥65536)) (un fun (Dc:Int) (ee:Int)=>
   bif decide ((Dc:Int)≥256) then
    (bif decide (0≤(IntKind.wrap .u8 (Int.fdiv Dc (2^(min (8:Int).toNat (IntKind.bits .u64)))))) then (([0,1,2,2,3,3,3,3,4,4,4,4,4,4,4,4,5,5,5,5,5,5,5,5,5,5,5,5,5,5,5,5,6,6,6,6,6,6,6,6,6,6,6,6,6,6,6,6,6,6,6,6,6,6,6,6,6,6,6,6,6,6,6,6,7,7,7,7,7,7,7,7,7,7,7,7,7,7,7,7,7,7,7,7,7,7,7,7,7,7,7,7,7,7,7,7,7,7,7,7,7,7,7,7,7,7,7,7,7,7,7,7,7,7,7,7,7,7,7,7,7,7,7,7,7,7,7,7,8,8,8,8,8,8,8,8,8,8,8,8,8,8,8,8,8,8,8,8,8,8,8,8,8,8,8,8,8,8,8,8,8,8,8,8,8,8,8,8,8,8,8,8,8,8,8,8,8,8,8,8,8,8,8,8,8,8,8,8,8,8,8,8,8,8,8,8,8,8,8,8,8,8,8,8,8,8,8,8,8,8,8,8,8,8,8,8,8,8,8,8,8,8,8,8,8,8,8,8,8,8,8,8,8,8,8,8,8,8,8,8,8,8,8,8,8,8,8,8,8,8,8,8,8,8,8,8]:List UInt8)[(IntKind.wrap .u8 (Int.fdiv Dc (2^(min (8:Int).toNat (IntKind.bits .u64)))):Int).toNat]?).map fun b=>V.int .u8 b.toNat else none).bind fun x5=>
    some [.int .i64 (IntKind.wrap .i64 ((IntKind.wrap .i64 (ee+8))+(IntKind.wrap .i64 x5.toInt)))]
   else
    (bif decide (0≤(IntKind.wrap .u8 Dc)) then (([0,1,2,2,3,3,3,3,4,4,4,4,4,4,4,4,5,5,5,5,5,5,5,5,5,5,5,5,5,5,5,5,6,6,6,6,6,6,6,6,6,6,6,6,6,6,6,6,6,6,6,6,6,6,6,6,6,6,6,6,6,6,6,6,7,7,7,7,7,7,7,7,7,7,7,7,7,7,7,7,7,7,7,7,7,7,7,7,7,7,7,7,7,7,7,7,7,7,7,7,7,7,7,7,7,7,7,7,7,7,7,7,7,7,7,7,7,7,7,7,7,7,7,7,7,7,7,7,8,8,8,8,8,8,8,8,8,8,8,8,8,8,8,8,8,8,8,8,8,8,8,8,8,8,8,8,8,8,8,8,8,8,8,8,8,8,8,8,8,8,8,8,8,8,8,8,8,8,8,8,8,8,8,8,8,8,8,8,8,8,8,8,8,8,8,8,8,8,8,8,8,8,8,8,8,8,8,8,8,8,8,8,8,8,8,8,8,8,8,8,8,8,8,8,8,8,8,8,8,8,8,8,8,8,8,8,8,8,8,8,8,8,8,8,8,8,8,8,8,8,8,8,8,8,8,8]:List UInt8)[(IntKind.wrap .u8 Dc:Int).toNat]?).map fun b=>V.int .u8 b.toNat else none).bind fun x6=>
    some [.int .i64 (IntKind.wrap .i64 (ee+(IntKind.wrap .i64 x6.toInt)))]))
theorem H5 {x:Int} {r:Option (List V)} (h:aiC CC x=r):CC AL [.int .u64 x]=r:=
 bf (key:=134) (L:=Yg CC) (bs:=[.cond 4 (an [1,0,1,0] tc) (an [1,0,1,1] tc),.cond 8 (an [1,1,0,1,0] tc) (an [1,1,0,1,1] tc)]) (by kernel_rfl) (aU (aiA CC) (aU (aiB CC) ao)) (Eq.trans (by kernel_rfl) h)
noncomputable abbrev mg:Code:=ch Tryd.prog (aq.aO 169)
noncomputable def yj (C:ae) (a b' dU:Int) (cd cx:Bool) (length:Int) (t39:Bool) (ab:List V) {β:Type} (kr:(Int × (List V))→Option β):Option β:=
 bif t39 then
  (C KL [.int .i64 a,.int .i64 b',.list aj ab]).bind fun r3=>
  kr (IntKind.wrap .i64 (dU-1),(V.nth r3 0).toList)
 else
  kr (dU,ab)
noncomputable def yk (C:ae) (a b' dU:Int) (cd cx:Bool) (length pivot hint:Int) (t56:Bool) (ab:List V) {β:Type} (kr:(Int × Int × (List V))→Option β):Option β:=
 bif t56 then
  (C KM [.int .i64 a,.int .i64 b',.list aj ab]).bind fun r7=>
  kr (IntKind.wrap .i64 ((IntKind.wrap .i64 (b'-1))-(IntKind.wrap .i64 (pivot-a))),1,(V.nth r7 0).toList)
 else
  kr (pivot,hint,ab)
noncomputable def na (C:ae) (a b' dU:Int) (cd cx:Bool) (length pivot:Int) (t75:Bool) (ab:List V) {β:Type} (kr:((Bool × (List V)) ⊕ (List V))→Option β):Option β:=
 bif t75 then
  (C KN [.int .i64 a,.int .i64 b',.list aj ab]).bind fun lh=>
  bif (V.nth lh 0).toBool then
  kr (.inl ((V.nth lh 0).toBool,(V.nth (lh.drop 1) 0).toList))
  else
  kr (.inr ((V.nth (lh.drop 1) 0).toList))
 else
  kr (.inr ab)
noncomputable def pV (C:ae) (a b' dU:Int) (cd cx:Bool) (ab:List V) {β:Type} (kn:(Int × Int × Int × Bool × Bool × (List V))→Option β) (kr:(List V)→Option β):Option β:=
 bif decide (((IntKind.wrap .i64 (b'-a)):Int)≤12) then
  (C GA [.int .i64 a,.int .i64 b',.list aj ab]).bind fun r1=>
  kr ((V.nth r1 0).toList)
 else
  bif (dU:Int)==0 then
  (C GB [.int .i64 a,.int .i64 b',.list aj ab]).bind fun r2=>
  kr ((V.nth r2 0).toList)
  else
  yj C a b' dU cd cx (IntKind.wrap .i64 (b'-a)) (!cd) ab (un fun (a9:Int) (oP:List V)=>
   (C GC [.list aj oP,.int .i64 a,.int .i64 b']).bind fun r6=>
   yk C a b' a9 cd cx (IntKind.wrap .i64 (b'-a)) ((V.nth r6 0).toInt) ((V.nth (r6.drop 1) 0).toInt) ((((V.nth (r6.drop 1) 0).toInt):Int)==2) oP (un fun (bL:Int)=>un fun (vk:Int) (gC:List V)=>
    bif cd then
     bif cx then
     na C a b' a9 cd cx (IntKind.wrap .i64 (b'-a)) bL ((vk:Int)==1) gC (cI (un fun (xK:Bool) (va:List V)=>
      kr va) (fun (lj:List V)=>
      bif decide ((a:Int)>0) then
       bif (decide (0≤(IntKind.wrap .i64 (a-1))))&&(decide ((IntKind.wrap .i64 (a-1))<(lj.length:Int))) then
       (lj[(IntKind.wrap .i64 (a-1):Int).toNat]?).bind fun cO=>
       bif (decide (0≤bL))&&(decide (bL<(lj.length:Int))) then
        (lj[(bL:Int).toNat]?).bind fun db=>
        (C bq [.int .i64 ((cO.cell 0).toInt),.int .i64 ((cO.cell 1).toInt),.int .i64 ((cO.cell 2).toInt),.int .i64 ((db.cell 0).toInt),.int .i64 ((db.cell 1).toInt),.int .i64 ((db.cell 2).toInt)]).bind fun cb=>
        bif !(decide ((((V.nth cb 0).toInt):Int)<0)) then
        (C xe [.int .i64 a,.int .i64 b',.int .i64 bL,.list aj lj]).bind fun lk=>
        kn ((V.nth lk 0).toInt,b',a9,cd,cx,(V.nth (lk.drop 1) 0).toList)
        else
        (C oC [.int .i64 a,.int .i64 b',.int .i64 bL,.list aj lj]).bind fun dz=>
        bif decide (((IntKind.wrap .i64 (((V.nth dz 0).toInt)-a)):Int)<(IntKind.wrap .i64 (b'-((V.nth dz 0).toInt)))) then
         (C iu [.int .i64 a,.int .i64 ((V.nth dz 0).toInt),.int .i64 a9,.list aj ((V.nth (dz.drop 2) 0).toList)]).bind fun dv=>
         kn (IntKind.wrap .i64 (((V.nth dz 0).toInt)+1),b',a9,decide (((IntKind.wrap .i64 (((V.nth dz 0).toInt)-a)):Int)≥(IntKind.wrap .i64 (Int.tdiv (IntKind.wrap .i64 (b'-a)) 8))),(V.nth (dz.drop 1) 0).toBool,(V.nth dv 0).toList)
        else
         (C iu [.int .i64 (IntKind.wrap .i64 (((V.nth dz 0).toInt)+1)),.int .i64 b',.int .i64 a9,.list aj ((V.nth (dz.drop 2) 0).toList)]).bind fun nc=>
         kn (a,(V.nth dz 0).toInt,a9,decide (((IntKind.wrap .i64 (b'-((V.nth dz 0).toInt))):Int)≥(IntKind.wrap .i64 (Int.tdiv (IntKind.wrap .i64 (b'-a)) 8))),(V.nth (dz.drop 1) 0).toBool,(V.nth nc 0).toList)
       else none
       else none
      else
       (C oC [.int .i64 a,.int .i64 b',.int .i64 bL,.list aj lj]).bind fun ew=>
       bif decide (((IntKind.wrap .i64 (((V.nth ew 0).toInt)-a)):Int)<(IntKind.wrap .i64 (b'-((V.nth ew 0).toInt)))) then
       (C iu [.int .i64 a,.int .i64 ((V.nth ew 0).toInt),.int .i64 a9,.list aj ((V.nth (ew.drop 2) 0).toList)]).bind fun OG=>
       kn (IntKind.wrap .i64 (((V.nth ew 0).toInt)+1),b',a9,decide (((IntKind.wrap .i64 (((V.nth ew 0).toInt)-a)):Int)≥(IntKind.wrap .i64 (Int.tdiv (IntKind.wrap .i64 (b'-a)) 8))),(V.nth (ew.drop 1) 0).toBool,(V.nth OG 0).toList)
       else
       (C iu [.int .i64 (IntKind.wrap .i64 (((V.nth ew 0).toInt)+1)),.int .i64 b',.int .i64 a9,.list aj ((V.nth (ew.drop 2) 0).toList)]).bind fun OH=>
       kn (a,(V.nth ew 0).toInt,a9,decide (((IntKind.wrap .i64 (b'-((V.nth ew 0).toInt))):Int)≥(IntKind.wrap .i64 (Int.tdiv (IntKind.wrap .i64 (b'-a)) 8))),(V.nth (ew.drop 1) 0).toBool,(V.nth OH 0).toList)))
     else
     na C a b' a9 cd cx (IntKind.wrap .i64 (b'-a)) bL false gC (cI (un fun (NA:Bool) (OI:List V)=>
      kr OI) (fun (ja:List V)=>
      bif decide ((a:Int)>0) then
       bif (decide (0≤(IntKind.wrap .i64 (a-1))))&&(decide ((IntKind.wrap .i64 (a-1))<(ja.length:Int))) then
       (ja[(IntKind.wrap .i64 (a-1):Int).toNat]?).bind fun lb=>
       bif (decide (0≤bL))&&(decide (bL<(ja.length:Int))) then
        (ja[(bL:Int).toNat]?).bind fun ld=>
        (C bq [.int .i64 ((lb.cell 0).toInt),.int .i64 ((lb.cell 1).toInt),.int .i64 ((lb.cell 2).toInt),.int .i64 ((ld.cell 0).toInt),.int .i64 ((ld.cell 1).toInt),.int .i64 ((ld.cell 2).toInt)]).bind fun oL=>
        bif !(decide ((((V.nth oL 0).toInt):Int)<0)) then
        (C xe [.int .i64 a,.int .i64 b',.int .i64 bL,.list aj ja]).bind fun Dd=>
        kn ((V.nth Dd 0).toInt,b',a9,cd,cx,(V.nth (Dd.drop 1) 0).toList)
        else
        (C oC [.int .i64 a,.int .i64 b',.int .i64 bL,.list aj ja]).bind fun fV=>
        bif decide (((IntKind.wrap .i64 (((V.nth fV 0).toInt)-a)):Int)<(IntKind.wrap .i64 (b'-((V.nth fV 0).toInt)))) then
         (C iu [.int .i64 a,.int .i64 ((V.nth fV 0).toInt),.int .i64 a9,.list aj ((V.nth (fV.drop 2) 0).toList)]).bind fun OJ=>
         kn (IntKind.wrap .i64 (((V.nth fV 0).toInt)+1),b',a9,decide (((IntKind.wrap .i64 (((V.nth fV 0).toInt)-a)):Int)≥(IntKind.wrap .i64 (Int.tdiv (IntKind.wrap .i64 (b'-a)) 8))),(V.nth (fV.drop 1) 0).toBool,(V.nth OJ 0).toList)
        else
         (C iu [.int .i64 (IntKind.wrap .i64 (((V.nth fV 0).toInt)+1)),.int .i64 b',.int .i64 a9,.list aj ((V.nth (fV.drop 2) 0).toList)]).bind fun OK=>
         kn (a,(V.nth fV 0).toInt,a9,decide (((IntKind.wrap .i64 (b'-((V.nth fV 0).toInt))):Int)≥(IntKind.wrap .i64 (Int.tdiv (IntKind.wrap .i64 (b'-a)) 8))),(V.nth (fV.drop 1) 0).toBool,(V.nth OK 0).toList)
       else none
       else none
      else
       (C oC [.int .i64 a,.int .i64 b',.int .i64 bL,.list aj ja]).bind fun fW=>
       bif decide (((IntKind.wrap .i64 (((V.nth fW 0).toInt)-a)):Int)<(IntKind.wrap .i64 (b'-((V.nth fW 0).toInt)))) then
       (C iu [.int .i64 a,.int .i64 ((V.nth fW 0).toInt),.int .i64 a9,.list aj ((V.nth (fW.drop 2) 0).toList)]).bind fun OL=>
       kn (IntKind.wrap .i64 (((V.nth fW 0).toInt)+1),b',a9,decide (((IntKind.wrap .i64 (((V.nth fW 0).toInt)-a)):Int)≥(IntKind.wrap .i64 (Int.tdiv (IntKind.wrap .i64 (b'-a)) 8))),(V.nth (fW.drop 1) 0).toBool,(V.nth OL 0).toList)
       else
       (C iu [.int .i64 (IntKind.wrap .i64 (((V.nth fW 0).toInt)+1)),.int .i64 b',.int .i64 a9,.list aj ((V.nth (fW.drop 2) 0).toList)]).bind fun OM=>
       kn (a,(V.nth fW 0).toInt,a9,decide (((IntKind.wrap .i64 (b'-((V.nth fW 0).toInt))):Int)≥(IntKind.wrap .i64 (Int.tdiv (IntKind.wrap .i64 (b'-a)) 8))),(V.nth (fW.drop 1) 0).toBool,(V.nth OM 0).toList)))
    else
     na C a b' a9 cd cx (IntKind.wrap .i64 (b'-a)) bL false gC (cI (un fun (aiD:Bool) (ON:List V)=>
      kr ON) (fun (eg:List V)=>
      bif decide ((a:Int)>0) then
      bif (decide (0≤(IntKind.wrap .i64 (a-1))))&&(decide ((IntKind.wrap .i64 (a-1))<(eg.length:Int))) then
       (eg[(IntKind.wrap .i64 (a-1):Int).toNat]?).bind fun fy=>
       bif (decide (0≤bL))&&(decide (bL<(eg.length:Int))) then
       (eg[(bL:Int).toNat]?).bind fun lf=>
       (C bq [.int .i64 ((fy.cell 0).toInt),.int .i64 ((fy.cell 1).toInt),.int .i64 ((fy.cell 2).toInt),.int .i64 ((lf.cell 0).toInt),.int .i64 ((lf.cell 1).toInt),.int .i64 ((lf.cell 2).toInt)]).bind fun OO=>
       bif !(decide ((((V.nth OO 0).toInt):Int)<0)) then
        (C xe [.int .i64 a,.int .i64 b',.int .i64 bL,.list aj eg]).bind fun De=>
        kn ((V.nth De 0).toInt,b',a9,cd,cx,(V.nth (De.drop 1) 0).toList)
       else
        (C oC [.int .i64 a,.int .i64 b',.int .i64 bL,.list aj eg]).bind fun fX=>
        bif decide (((IntKind.wrap .i64 (((V.nth fX 0).toInt)-a)):Int)<(IntKind.wrap .i64 (b'-((V.nth fX 0).toInt)))) then
        (C iu [.int .i64 a,.int .i64 ((V.nth fX 0).toInt),.int .i64 a9,.list aj ((V.nth (fX.drop 2) 0).toList)]).bind fun OP=>
        kn (IntKind.wrap .i64 (((V.nth fX 0).toInt)+1),b',a9,decide (((IntKind.wrap .i64 (((V.nth fX 0).toInt)-a)):Int)≥(IntKind.wrap .i64 (Int.tdiv (IntKind.wrap .i64 (b'-a)) 8))),(V.nth (fX.drop 1) 0).toBool,(V.nth OP 0).toList)
        else
        (C iu [.int .i64 (IntKind.wrap .i64 (((V.nth fX 0).toInt)+1)),.int .i64 b',.int .i64 a9,.list aj ((V.nth (fX.drop 2) 0).toList)]).bind fun OQ=>
        kn (a,(V.nth fX 0).toInt,a9,decide (((IntKind.wrap .i64 (b'-((V.nth fX 0).toInt))):Int)≥(IntKind.wrap .i64 (Int.tdiv (IntKind.wrap .i64 (b'-a)) 8))),(V.nth (fX.drop 1) 0).toBool,(V.nth OQ 0).toList)
       else none
      else none
      else
      (C oC [.int .i64 a,.int .i64 b',.int .i64 bL,.list aj eg]).bind fun fY=>
      bif decide (((IntKind.wrap .i64 (((V.nth fY 0).toInt)-a)):Int)<(IntKind.wrap .i64 (b'-((V.nth fY 0).toInt)))) then
       (C iu [.int .i64 a,.int .i64 ((V.nth fY 0).toInt),.int .i64 a9,.list aj ((V.nth (fY.drop 2) 0).toList)]).bind fun OR=>
       kn (IntKind.wrap .i64 (((V.nth fY 0).toInt)+1),b',a9,decide (((IntKind.wrap .i64 (((V.nth fY 0).toInt)-a)):Int)≥(IntKind.wrap .i64 (Int.tdiv (IntKind.wrap .i64 (b'-a)) 8))),(V.nth (fY.drop 1) 0).toBool,(V.nth OR 0).toList)
      else
       (C iu [.int .i64 (IntKind.wrap .i64 (((V.nth fY 0).toInt)+1)),.int .i64 b',.int .i64 a9,.list aj ((V.nth (fY.drop 2) 0).toList)]).bind fun OS=>
       kn (a,(V.nth fY 0).toInt,a9,decide (((IntKind.wrap .i64 (b'-((V.nth fY 0).toInt))):Int)≥(IntKind.wrap .i64 (Int.tdiv (IntKind.wrap .i64 (b'-a)) 8))),(V.nth (fY.drop 1) 0).toBool,(V.nth OS 0).toList)))))
noncomputable def Yi (C:ae):(Int × Int × Int × Bool × Bool × (List V))→Option ((Int × Int × Int × Bool × Bool × (List V)) ⊕ (List V)):=un fun a=>un fun b'=>un fun dU=>un fun cd=>un fun cx ab=>pV C a b' dU cd cx ab (fun y=>some (.inl y)) (fun r=>some (.inr r))
noncomputable def Yj (C:ae):b6:=fun β n ds k=>
 bif Nat.beq n 639 then iq Mx [[1,2,0,4,5,6,0]] (@yj C) ds k else
 bif Nat.beq n 911 then iq My [[1,2,3,4,5,6,0,0,0]] (@yk C) ds k else
 bif Nat.beq n 1215 then iq Mz [[1,2,3,4,5,6,7,0,0],[1,2,3,4,5,6,7,0]] (@na C) ds k else
 bif Nat.beq n 33 then bd MA [true,true,true,true,true,true] [[0]] (@pV C) ds k else
 none
abbrev H6 (C:ae) (b:bY):Prop:=bZ Tryd.prog aq C (Yj C) 169 (cm Tryd.prog (aq.aO 169)) (aq.sin 169).aW.length b
theorem aiE (C:ae):H6 C (.cond 39 (an [1,1,0,0,0,1,1,1,0,1,0] mg) (an [1,1,0,0,0,1,1,1,0,1,1] mg)):=
 iT Mx [[1,2,0,4,5,6,0]] (@yj C) (by kernel_rfl) (aI (bs:=[]) (by kernel_rfl) ao) (aI (bs:=[]) (by kernel_rfl) ao) (fun ds=>by kernel_rfl) (fun i β k=>by kernel_rfl) (fun β ds k=>by kernel_rfl)
theorem aiF (C:ae):H6 C (.cond 56 (an [1,1,0,0,0,1,1,1,1,1,0,1,0] mg) (an [1,1,0,0,0,1,1,1,1,1,0,1,1] mg)):=
 iT My [[1,2,3,4,5,6,0,0,0]] (@yk C) (by kernel_rfl) (aI (bs:=[]) (by kernel_rfl) ao) (aI (bs:=[]) (by kernel_rfl) ao) (fun ds=>by kernel_rfl) (fun i β k=>by kernel_rfl) (fun β ds k=>by kernel_rfl)
theorem aiG (C:ae):H6 C (.cond 75 (an [1,1,0,0,0,1,1,1,1,1,1,0,1,0] mg) (an [1,1,0,0,0,1,1,1,1,1,1,0,1,1] mg)):=
 iT Mz [[1,2,3,4,5,6,7,0,0],[1,2,3,4,5,6,7,0]] (@na C) (by kernel_rfl) (aI (bs:=[]) (by kernel_rfl) ao) (aI (bs:=[]) (by kernel_rfl) ao) (fun ds=>by kernel_rfl) (fun i β k=>by kernel_rfl) (fun β ds k=>by kernel_rfl)
theorem aiH (C:ae):H6 C (.loop (an [1,1,0,0] mg)):=
 bh MA [true,true,true,true,true,true] [[0]] (@pV C) (by kernel_rfl) (aI (bs:=[.cond 39 (an [1,1,0,0,0,1,1,1,0,1,0] mg) (an [1,1,0,0,0,1,1,1,0,1,1] mg),.cond 56 (an [1,1,0,0,0,1,1,1,1,1,0,1,0] mg) (an [1,1,0,0,0,1,1,1,1,1,0,1,1] mg),.cond 75 (an [1,1,0,0,0,1,1,1,1,1,1,0,1,0] mg) (an [1,1,0,0,0,1,1,1,1,1,1,0,1,1] mg)]) (by kernel_rfl) (aU (aiE C) (aU (aiF C) (aU (aiG C) ao)))) (fun ds=>by kernel_rfl) (fun i x=>by kernel_rfl) (fun i x β k=>by kernel_rfl) (fun β ds k=>by kernel_rfl)
noncomputable def Yk (C:ae) (a b' dU:Int) (ab:List V):Option (List V):=
 (Loop (Yi C) (a,b',dU,true,true,ab)).bind (fun (OT:List V)=>
  some [.list aj OT])
theorem aiI {a b' dU:Int} {ab:List V} {r:Option (List V)} (h:Yk CC a b' dU ab=r):CC iu [.int .i64 a,.int .i64 b',.int .i64 dU,.list aj ab]=r:=
 bf (key:=169) (L:=Yj CC) (bs:=[.loop (an [1,1,0,0] mg)]) (by kernel_rfl) (aU (aiH CC) ao) (Eq.trans (by kernel_rfl) h)
end Go.AM
set_option maxRecDepth 100000
set_option maxHeartbeats 4000000
namespace Go.AM.SL
open Go.AM Go.Proofs Go.Sort
theorem Dg (a b:Ed):(ag a b=true)=(a.lt b):=by rw[jV,propext (xo a b)]
theorem td (a b:Ed):(ag a b=false)= ¬(a.lt b):=by rw[←Dg];simp
theorem nd:SWO ag where
 irrefl x:=by rw[td];unfold Ed.lt;omega
 trans x y z:=by simp only[Dg];unfold Ed.lt;omega
 ntrans x y z:=by simp only[td];unfold Ed.lt;omega
def rN:List UInt8:=([0,1,2,2,3,3,3,3,4,4,4,4,4,4,4,4,5,5,5,5,5,5,5,5,5,5,5,5,5,5,5,5,6,6,6,6,6,6,6,6,6,6,6,6,6,6,6,6,6,6,6,6,6,6,6,6,6,6,6,6,6,6,6,6,7,7,7,7,7,7,7,7,7,7,7,7,7,7,7,7,7,7,7,7,7,7,7,7,7,7,7,7,7,7,7,7,7,7,7,7,7,7,7,7,7,7,7,7,7,7,7,7,7,7,7,7,7,7,7,7,7,7,7,7,7,7,7,7,8,8,8,8,8,8,8,8,8,8,8,8,8,8,8,8,8,8,8,8,8,8,8,8,8,8,8,8,8,8,8,8,8,8,8,8,8,8,8,8,8,8,8,8,8,8,8,8,8,8,8,8,8,8,8,8,8,8,8,8,8,8,8,8,8,8,8,8,8,8,8,8,8,8,8,8,8,8,8,8,8,8,8,8,8,8,8,8,8,8,8,8,8,8,8,8,8,8,8,8,8,8,8,8,8,8,8,8,8,8,8,8,8,8,8,8,8,8,8,8,8,8,8,8,8,8,8,8]:List UInt8)
theorem OU:(List.range 256).all (fun y=>match rN[y]? with|some b=>decide (b.toNat≤8)&&(Nat.beq y 0||(decide (1≤b.toNat)&&decide (2^(b.toNat-1)≤y)))|none=>false)=true:=by decide+kernel
theorem Dh {y:Nat} (h:y<256): ∃b,rN[y]? =some b∧b.toNat≤8∧(0<y→1≤b.toNat∧2^(b.toNat-1)≤y):=by
 have:=List.all_eq_true.1 OU y (List.mem_range.2 h)
 cases hb:rN[y]? with
 | none=>rw[hb] at this;cases this
 | some b=>
  rw[hb] at this
  simp only[Bool.and_eq_true,Bool.or_eq_true,decide_eq_true_eq] at this
  refine ⟨b,rfl,this.1,fun hy=> ?_⟩
  rcases this.2 with h2|h2
  ·have:=Nat.eq_of_beq_eq_true h2;omega
  ·exact h2
theorem vl {y t k:Nat} (h:2^(t-1)≤y/2^k) (ht:1≤t):2^(t+k-1)≤y:=by
 have e:t+k-1=(t-1)+k:=by omega
 rw[e,Nat.pow_add]
 exact Nat.le_trans (Nat.mul_le_mul_right _ h) (Nat.div_mul_le_self _ _)
noncomputable def nf (y n:Int):Option (List V):=
(bif decide ((y:Int)≥256) then
    (bif decide (0≤(IntKind.wrap .u8 (Int.fdiv y (2^(min (8:Int).toNat (IntKind.bits .u64)))))) then (([0,1,2,2,3,3,3,3,4,4,4,4,4,4,4,4,5,5,5,5,5,5,5,5,5,5,5,5,5,5,5,5,6,6,6,6,6,6,6,6,6,6,6,6,6,6,6,6,6,6,6,6,6,6,6,6,6,6,6,6,6,6,6,6,7,7,7,7,7,7,7,7,7,7,7,7,7,7,7,7,7,7,7,7,7,7,7,7,7,7,7,7,7,7,7,7,7,7,7,7,7,7,7,7,7,7,7,7,7,7,7,7,7,7,7,7,7,7,7,7,7,7,7,7,7,7,7,7,8,8,8,8,8,8,8,8,8,8,8,8,8,8,8,8,8,8,8,8,8,8,8,8,8,8,8,8,8,8,8,8,8,8,8,8,8,8,8,8,8,8,8,8,8,8,8,8,8,8,8,8,8,8,8,8,8,8,8,8,8,8,8,8,8,8,8,8,8,8,8,8,8,8,8,8,8,8,8,8,8,8,8,8,8,8,8,8,8,8,8,8,8,8,8,8,8,8,8,8,8,8,8,8,8,8,8,8,8,8,8,8,8,8,8,8,8,8,8,8,8,8,8,8,8,8,8,8]:List UInt8)[(IntKind.wrap .u8 (Int.fdiv y (2^(min (8:Int).toNat (IntKind.bits .u64)))):Int).toNat]?).map fun b=>V.int .u8 b.toNat else none).bind fun x5=>
    some [V.int .i64 (IntKind.wrap .i64 ((IntKind.wrap .i64 (n+8))+(IntKind.wrap .i64 x5.toInt)))]
   else
    (bif decide (0≤(IntKind.wrap .u8 y)) then (([0,1,2,2,3,3,3,3,4,4,4,4,4,4,4,4,5,5,5,5,5,5,5,5,5,5,5,5,5,5,5,5,6,6,6,6,6,6,6,6,6,6,6,6,6,6,6,6,6,6,6,6,6,6,6,6,6,6,6,6,6,6,6,6,7,7,7,7,7,7,7,7,7,7,7,7,7,7,7,7,7,7,7,7,7,7,7,7,7,7,7,7,7,7,7,7,7,7,7,7,7,7,7,7,7,7,7,7,7,7,7,7,7,7,7,7,7,7,7,7,7,7,7,7,7,7,7,7,8,8,8,8,8,8,8,8,8,8,8,8,8,8,8,8,8,8,8,8,8,8,8,8,8,8,8,8,8,8,8,8,8,8,8,8,8,8,8,8,8,8,8,8,8,8,8,8,8,8,8,8,8,8,8,8,8,8,8,8,8,8,8,8,8,8,8,8,8,8,8,8,8,8,8,8,8,8,8,8,8,8,8,8,8,8,8,8,8,8,8,8,8,8,8,8,8,8,8,8,8,8,8,8,8,8,8,8,8,8,8,8,8,8,8,8,8,8,8,8,8,8,8,8,8,8,8,8]:List UInt8)[(IntKind.wrap .u8 y:Int).toNat]?).map fun b=>V.int .u8 b.toNat else none).bind fun x6=>
    some [V.int .i64 (IntKind.wrap .i64 (n+(IntKind.wrap .i64 x6.toInt)))])
theorem OV {x:Nat} (h:x<2^64): ∃L:Nat,CC AL [.int .u64 (x:Int)]=some [.int .i64 (L:Int)]∧L≤64∧(0<x→1≤L∧2^(L-1)≤x):=by
 have last: ∀y n:Nat,y<65536→n≤48→∃t:Nat,
   nf (y:Int) (n:Int)=some [V.int .i64 ((n+t:Nat):Int)]∧t≤16∧(0<y→1≤t∧2^(t-1)≤y):=by
  intro y n hy hn
  unfold nf
  rw[show ([0,1,2,2,3,3,3,3,4,4,4,4,4,4,4,4,5,5,5,5,5,5,5,5,5,5,5,5,5,5,5,5,6,6,6,6,6,6,6,6,6,6,6,6,6,6,6,6,6,6,6,6,6,6,6,6,6,6,6,6,6,6,6,6,7,7,7,7,7,7,7,7,7,7,7,7,7,7,7,7,7,7,7,7,7,7,7,7,7,7,7,7,7,7,7,7,7,7,7,7,7,7,7,7,7,7,7,7,7,7,7,7,7,7,7,7,7,7,7,7,7,7,7,7,7,7,7,7,8,8,8,8,8,8,8,8,8,8,8,8,8,8,8,8,8,8,8,8,8,8,8,8,8,8,8,8,8,8,8,8,8,8,8,8,8,8,8,8,8,8,8,8,8,8,8,8,8,8,8,8,8,8,8,8,8,8,8,8,8,8,8,8,8,8,8,8,8,8,8,8,8,8,8,8,8,8,8,8,8,8,8,8,8,8,8,8,8,8,8,8,8,8,8,8,8,8,8,8,8,8,8,8,8,8,8,8,8,8,8,8,8,8,8,8,8,8,8,8,8,8,8,8,8,8,8,8]:List UInt8)=rN from rfl]
  by_cases h1:y≥256
  ·have e:Int.fdiv (y:Int) (2^(min (8:Int).toNat (IntKind.bits .u64)))=((y/2^8:Nat):Int):=uP (m:=8) (by omega)
   obtain ⟨b,hb,b1,b2⟩:=Dh (y:=y/2^8) (by omega)
   refine ⟨b.toNat+8,?_,by omega,fun _=> ?_⟩
   ·rw[e,ar,if_pos (by omega),Ap (by omega) (by omega),ar,if_pos (by omega),Int.toNat_natCast,hb]
    simp only[Option.map_some,Option.bind_some,V.toInt_int]
    simp (disch:=omega) only[wrap64]
    congr 3
    omega
   ·obtain ⟨b3,b4⟩:=b2 (by omega)
    exact ⟨by omega,vl b4 b3⟩
  ·obtain ⟨b,hb,b1,b2⟩:=Dh (y:=y) (by omega)
   refine ⟨b.toNat,?_,by omega,b2⟩
   rw[ar,if_neg (by omega),Ap (by omega) (by omega),ar,if_pos (by omega),Int.toNat_natCast,hb]
   simp (disch:=omega) only[Option.map_some,Option.bind_some,V.toInt_int,wrap64]
   congr 3
 have mid: ∀y n:Nat,y<4294967296→n≤32→∃t:Nat,∀F:Int→Int→Option (List V),
   (∀y n:Nat,y<65536→n≤48→∃t:Nat,F (y:Int) (n:Int)=some [V.int .i64 ((n+t:Nat):Int)]∧t≤16∧(0<y→1≤t∧2^(t-1)≤y))→
   ∃t:Nat,oO CC (y:Int) (n:Int) (decide (((y:Int):Int)≥65536)) (un F)=some [V.int .i64 ((n+t:Nat):Int)]∧t≤32∧(0<y→1≤t∧2^(t-1)≤y):=by
  intro y n hy hn
  refine ⟨0,fun F hF=> ?_⟩
  unfold oO
  by_cases h1:y≥65536
  ·have e:Int.fdiv (y:Int) (2^(min (16:Int).toNat (IntKind.bits .u64)))=((y/2^16:Nat):Int):=uP (m:=16) (by omega)
   rw[ar,if_pos (by omega),e,wrap64 (by omega) (by omega)]
   obtain ⟨t,h2,h3,h4⟩:=hF (y/2^16) (n+16) (by omega) (by omega)
   refine ⟨t+16,?_,by omega,fun _=> ?_⟩
   ·rw[show ((n:Int)+16)=((n+16:Nat):Int) by omega]
    simp only[un]
    rw[h2]
    congr 3
    omega
   ·obtain ⟨b3,b4⟩:=h4 (by omega)
    exact ⟨by omega,vl b4 b3⟩
  ·rw[ar,if_neg (by omega)]
   obtain ⟨t,h2,h3,h4⟩:=hF y n (by omega) (by omega)
   exact ⟨t,h2,by omega,h4⟩
 by_cases h1:x≥4294967296
 ·have e:Int.fdiv (x:Int) (2^(min (32:Int).toNat (IntKind.bits .u64)))=((x/2^32:Nat):Int):=uP (m:=32) (by omega)
  obtain ⟨_,hm⟩:=mid (x/2^32) 32 (by omega) (by omega)
  obtain ⟨t,h2,h3,h4⟩:=hm nf last
  refine ⟨32+t,H5 ?_,by omega,fun _=> ?_⟩
  ·show oN CC (x:Int) 0 (decide (((x:Int):Int)≥4294967296)) (un fun (mf:Int) (dB:Int)=>oO CC mf dB (decide ((mf:Int)≥65536)) (un nf))=_
   unfold oN
   rw[ar,if_pos (by omega),e]
   exact h2
  ·obtain ⟨b3,b4⟩:=h4 (by omega)
   rw[Nat.add_comm 32 t]
   exact ⟨by omega,vl b4 b3⟩
 ·obtain ⟨_,hm⟩:=mid x 0 (by omega) (by omega)
  obtain ⟨t,h2,h3,h4⟩:=hm nf last
  refine ⟨t,H5 ?_,by omega,h4⟩
  show oN CC (x:Int) 0 (decide (((x:Int):Int)≥4294967296)) (un fun (mf:Int) (dB:Int)=>oO CC mf dB (decide ((mf:Int)≥65536)) (un nf))=_
  unfold oN
  rw[ar,if_neg (by omega)]
  rw[Nat.zero_add] at h2
  exact h2
theorem H7 {x:Nat} (h:x<2^64): ∃L:Nat,CC w5 [.int .u64 (x:Int)]=some [.int .i64 (L:Int)]∧L≤64∧(0<x→1≤L∧2^(L-1)≤x):=by
 obtain ⟨L,h1,h2⟩:=OV h
 refine ⟨L,Yf ?_,h2⟩
 unfold OF
 rw[h1]
 rfl
theorem OW {x:Nat} (h0:0<x) (h:x<1152921504606846976): ∃M:Nat,CC xb [.int .i64 (x:Int)]=some [.int .u64 (M:Int)]∧1≤M∧M≤2*x:=by
 obtain ⟨L,h1,h2,h3⟩:=H7 (x:=x) (by omega)
 obtain ⟨h4,h5⟩:=h3 h0
 have e:2^L=2*2^(L-1):=by
  obtain ⟨k,rfl⟩: ∃k,L=k+1:=⟨L-1,by omega⟩
  rw[Nat.pow_succ];simp only[Nat.add_sub_cancel];omega
 have hL:L<64:=by
  by_cases hx:L<64
  ·exact hx
  ·have:2^63≤2^(L-1):=Nat.pow_le_pow_right (by omega) (by omega)
   omega
 refine ⟨2^L,Ye ?_,Nat.pos_of_ne_zero (by simp),by omega⟩
 unfold OE
 rw[pF (A:=x) (by omega),h1]
 simp only[Option.bind_some,V.ba,V.toInt_int]
 rw[ar,if_pos (by omega),Int.toNat_natCast,uO hL]
theorem OX (r:Int): ∃R:Nat,CC xc [.int .u64 r]=some [.int .u64 (R:Int),.int .u64 (R:Int)]∧R<2^64:=by
 have h: ∀n:Int,∃R:Nat,IntKind.wrap .u64 n=(R:Int)∧R<2^64:=fun n=>⟨(IntKind.wrap .u64 n).toNat,by rw[wrap_u64];omega,by rw[wrap_u64];omega⟩
 obtain ⟨R,h1,h2⟩:=h _
 exact ⟨R,Yd (by unfold OD;rw[h1]),h2⟩
theorem rO {d:Array Ed} {i:Nat} (h:i<d.size):idx (eA d) (i:Int)=some (d[i]!).enc:=by rw[Aq,cU h]
theorem vm {d:Array Ed} {a b:Nat} {s:Int} (ha:a<d.size) (hb:b<d.size): ∃(x y:Nat) (s':Int),CC AR [.list aj (eA d),.int .i64 (a:Int),.int .i64 (b:Int),.int .i64 s]=some [.int .i64 (x:Int),.int .i64 (y:Int),.int .i64 s']∧(x=a∧y=b∨x=b∧y=a):=by
 by_cases h:aR d[b]! d[a]! <0
 ·refine ⟨b,a,_,X8 (by unfold OC;rw[rO hb,rO ha];simp only[Option.bind_some,Ed.bR,Ed.bS,Ed.bU,gO,V.ba,V.toInt_int];rw[ar,if_pos h]),.inr ⟨rfl,rfl⟩⟩
 ·refine ⟨a,b,_,X8 (by unfold OC;rw[rO hb,rO ha];simp only[Option.bind_some,Ed.bR,Ed.bS,Ed.bU,gO,V.ba,V.toInt_int];rw[ar,if_neg h]),.inl ⟨rfl,rfl⟩⟩
theorem vn {d:Array Ed} {a b c:Nat} {s:Int} (ha:a<d.size) (hb:b<d.size) (hc:c<d.size): ∃(m:Nat) (s':Int),CC GD [.list aj (eA d),.int .i64 (a:Int),.int .i64 (b:Int),.int .i64 (c:Int),.int .i64 s]=some [.int .i64 (m:Int),.int .i64 s']∧(m=a∨m=b∨m=c):=by
 obtain ⟨x1,y1,s1,e1,o1⟩:=vm (s:=s) ha hb
 obtain ⟨x2,y2,s2,e2,o2⟩:=vm (d:=d) (a:=y1) (b:=c) (s:=s1) (by omega) hc
 obtain ⟨x3,y3,s3,e3,o3⟩:=vm (d:=d) (a:=x1) (b:=x2) (s:=s2) (by omega) (by omega)
 refine ⟨y3,s3,ait ?_,by omega⟩
 unfold X7
 rw[e1]
 simp only[Option.bind_some,V.ba,V.ju,V.toInt_int,List.drop_succ_cons,List.drop_zero]
 rw[e2]
 simp only[Option.bind_some,V.ba,V.ju,V.toInt_int,List.drop_succ_cons,List.drop_zero]
 rw[e3]
 rfl
theorem vo {d:Array Ed} {a:Nat} {s:Int} (h1:1≤a) (ha:a+1<d.size) (hs:d.size<1152921504606846976): ∃(m:Nat) (s':Int),CC AQ [.list aj (eA d),.int .i64 (a:Int),.int .i64 s]=some [.int .i64 (m:Int),.int .i64 s']∧a≤m+1∧m≤a+1:=by
 obtain ⟨m,s',e,o⟩:=vn (d:=d) (a:=a-1) (b:=a) (c:=a+1) (s:=s) (by omega) (by omega) (by omega)
 refine ⟨m,s',aiu ?_,by omega,by omega⟩
 unfold X9
 simp (disch:=omega) only[eJ,bK,wrap64]
 rw[e]
 rfl
theorem vp (n:Nat):Int.tdiv (n:Int) 4=((n/4:Nat):Int):=by
 have:=divC n 4
 exact this
theorem mulC (k n:Nat):((k:Nat):Int)*(n:Int)=((k*n:Nat):Int):=(Int.natCast_mul k n).symm
theorem OY {d:Array Ed} {a b:Nat} (cP:a+12<b) (hb:b≤d.size) (hs:d.size<1152921504606846976): ∃(p:Nat) (h:Int),CC GC [.list aj (eA d),.int .i64 (a:Int),.int .i64 (b:Int)]=some [.int .i64 (p:Int),.int .i64 h]∧a≤p∧p<b:=by
 have fin: ∀(p:Nat) (s:Int),∃h:Int,(bif (s:Int)==0 then some [V.int .i64 (p:Int),V.int .i64 1] else bif (s:Int)==12 then some [V.int .i64 (p:Int),V.int .i64 2] else some [V.int .i64 (p:Int),V.int .i64 0])=some [V.int .i64 (p:Int),V.int .i64 h]:=by
  intro p s
  rw[km]
  split
  ·exact ⟨1,rfl⟩
  ·rw[km]
   split
   ·exact ⟨2,rfl⟩
   ·exact ⟨0,rfl⟩
 have e1:IntKind.wrap .i64 ((b:Int)-(a:Int))=((b-a:Nat):Int):=by rw[fE (by omega),wrap64 (by omega) (by omega)]
 have e2:IntKind.wrap .i64 (Int.tdiv ((b-a:Nat):Int) 4)=(((b-a)/4:Nat):Int):=by rw[vp,wrap64 (by omega) (by omega)]
 have e3: ∀k:Nat,k≤3→IntKind.wrap .i64 ((a:Int)+IntKind.wrap .i64 ((k:Int)*(((b-a)/4:Nat):Int)))=((a+k*((b-a)/4):Nat):Int):=by
  intro k hk
  have qG:k*((b-a)/4)≤3*((b-a)/4):=Nat.mul_le_mul_right _ hk
  simp (disch:=omega) only[mulC,wrap64,cT]
 have vq:=e3 1 (by omega)
 have jW:=e3 2 (by omega)
 have vr:=e3 3 (by omega)
 rw[show ((1:Nat):Int)=1 from rfl] at vq
 rw[show ((2:Nat):Int)=2 from rfl] at jW
 rw[show ((3:Nat):Int)=3 from rfl] at vr
 by_cases h50:b-a≥50
 ·obtain ⟨m1,s1,q1,r1⟩:=vo (d:=d) (a:=a+1*((b-a)/4)) (s:=0) (by omega) (by omega) hs
  obtain ⟨m2,s2,q2,r2⟩:=vo (d:=d) (a:=a+2*((b-a)/4)) (s:=s1) (by omega) (by omega) hs
  obtain ⟨m3,s3,q3,r3⟩:=vo (d:=d) (a:=a+3*((b-a)/4)) (s:=s2) (by omega) (by omega) hs
  obtain ⟨m,s,q,r⟩:=vn (d:=d) (a:=m1) (b:=m2) (c:=m3) (s:=s3) (by omega) (by omega) (by omega)
  obtain ⟨h,hf⟩:=fin m s
  refine ⟨m,h,X6 ?_,by omega,by omega⟩
  unfold OB C8 C7
  rw[e1,e2,vq,jW,vr,gp (by omega),cond_true,gp (by omega),cond_true,q1]
  simp only[Option.bind_some,V.ba,V.ju,V.toInt_int,List.drop_succ_cons,List.drop_zero]
  rw[q2]
  simp only[Option.bind_some,V.ba,V.ju,V.toInt_int,List.drop_succ_cons,List.drop_zero]
  rw[q3]
  simp only[Option.bind_some,V.ba,V.ju,V.toInt_int,List.drop_succ_cons,List.drop_zero,un]
  rw[q]
  exact hf
 ·obtain ⟨m,s,q,r⟩:=vn (d:=d) (a:=a+1*((b-a)/4)) (b:=a+2*((b-a)/4)) (c:=a+3*((b-a)/4)) (s:=0) (by omega) (by omega) (by omega)
  obtain ⟨h,hf⟩:=fin m s
  refine ⟨m,h,X6 ?_,by omega,by omega⟩
  unfold OB C8 C7
  rw[e1,e2,vq,jW,vr,gp (by omega),cond_true,jS (by omega),cond_false]
  simp only[un]
  rw[q]
  exact hf
theorem OZ {a b M:Nat} (O0:1≤M) (hM:M≤2*(b-a)) (h8:8≤b-a) (hB:b<1152921504606846976): ∀(n i:Nat) (d:Array Ed) (r:Int),a+2*((b-a)/4)+2-i=n→a≤i→b≤d.size→d.size<1152921504606846976→
  ∃x y z R,Loop (H4 CC a (b-a:Nat) M) ((i:Int),eA d,r)=some (x,y,eA R,z)∧PermIn a b d R:=by
 have e2:IntKind.wrap .i64 (Int.tdiv ((b-a:Nat):Int) 4)=(((b-a)/4:Nat):Int):=by rw[vp,wrap64 (by omega) (by omega)]
 have jW:IntKind.wrap .i64 ((a:Int)+IntKind.wrap .i64 (2*(((b-a)/4:Nat):Int)))=((a+2*((b-a)/4):Nat):Int):=by
  have:=mulC 2 ((b-a)/4)
  rw[show ((2:Nat):Int)=2 from rfl] at this
  rw[this]
  simp (disch:=omega) only[wrap64,cT]
 intro n
 induction n with
 | zero=>
  intro i d r hn hi hb hs
  refine ⟨(i:Int),false,r,d,aZ ?_,permIn_refl _ _ _⟩
  simp only[H4,Db,un]
  rw[e2,jW,bK,wrap64 (by omega) (by omega),jS (by omega),cond_false]
 | succ n ih=>
  intro i d r hn hi hb hs
  obtain ⟨R1,q1,q2⟩:=OX r
  obtain ⟨o,ho,mw⟩: ∃o:Nat,(o=if R1&&&(M-1)≥b-a then (R1&&&(M-1))-(b-a) else R1&&&(M-1))∧o<b-a:=by
   refine ⟨_,rfl,?_⟩
   have:R1&&&(M-1)≤M-1:=Nat.and_le_right
   split<;>omega
  have hand:R1&&&(M-1)≤M-1:=Nat.and_le_right
  have hP:=swp_permIn (α:=Ed) d a b i (a+o) hi (by omega) (by omega) (by omega) hb
  obtain ⟨x,y,z,R,e,hR⟩:=ih (i+1) (swp d i (a+o)) (R1:Int) (by omega) (by omega) (by rw[size_swp];exact hb) (by rw[size_swp];exact hs)
  refine ⟨x,y,z,R,(cF ?_).trans e,permIn_trans _ _ _ a b hP hR⟩
  simp only[H4,Db,un]
  rw[e2,jW,bK,wrap64 (x:=((a+2*((b-a)/4)+1:Nat):Int)) (by omega) (by omega),gp (by omega),cond_true,q1]
  simp only[Option.bind_some,V.ba,V.ju,V.toInt_int,List.drop_succ_cons,List.drop_zero]
  have e5:IntKind.wrap .u64 ((M:Int)-1)=((M-1:Nat):Int):=by rw[eJ O0,pF (by omega)]
  rw[e5,u64_and q2 (by omega),wrap64 (x:=((R1&&&(M-1):Nat):Int)) (by omega) (by omega)]
  have fin: ∀k:Int,k=(o:Int)→(bif (decide (0≤(IntKind.wrap .i64 ((a:Int)+k))))&&(decide ((IntKind.wrap .i64 ((a:Int)+k))<((eA d).length:Int))) then
   ((eA d)[(IntKind.wrap .i64 ((a:Int)+k):Int).toNat]?).bind fun x4=>
   bif (decide (0≤(i:Int)))&&(decide ((i:Int)<((eA d).length:Int))) then
    ((eA d)[((i:Int):Int).toNat]?).bind fun x5=>
    bif (decide (0≤(i:Int)))&&(decide ((i:Int)<((eA d).length:Int))) then
    ((eA d)[((i:Int):Int).toNat]?).bind fun x6=>
    bif (decide (0≤(IntKind.wrap .i64 ((a:Int)+k))))&&(decide ((IntKind.wrap .i64 ((a:Int)+k))<(((eA d).set (((i:Int):Int).toNat) (.agg [.int .i64 ((x4.cell 0).toInt),.int .i64 ((x4.cell 1).toInt),.int .i64 ((x4.cell 2).toInt)])).length:Int))) then
     (((eA d).set (((i:Int):Int).toNat) (.agg [.int .i64 ((x4.cell 0).toInt),.int .i64 ((x4.cell 1).toInt),.int .i64 ((x4.cell 2).toInt)]))[(IntKind.wrap .i64 ((a:Int)+k):Int).toNat]?).bind fun x7=>
     some (.inl (IntKind.wrap .i64 ((i:Int)+1),((eA d).set (((i:Int):Int).toNat) (.agg [.int .i64 ((x4.cell 0).toInt),.int .i64 ((x4.cell 1).toInt),.int .i64 ((x4.cell 2).toInt)])).set ((IntKind.wrap .i64 ((a:Int)+k):Int).toNat) (.agg [.int .i64 ((x5.cell 0).toInt),.int .i64 ((x5.cell 1).toInt),.int .i64 ((x5.cell 2).toInt)]),(R1:Int)))
    else none
    else none
   else none
   else none:Option ((Int × List V × Int) ⊕ (Int × Bool × List V × Int)))=some (.inl (((i+1:Nat):Int),eA (swp d i (a+o)),(R1:Int))):=by
   intro k hk
   subst hk
   simp (disch:=omega) only[ar,cl,dp,if_pos,if_neg,wrap64,bK,cT,Int.toNat_natCast,Option.bind_some,cR,cU,Ed.bR,Ed.bS,Ed.bU,Ed.re,cS,dC,Array.size_setIfInBounds,gO,V.ba,V.toInt_int,cond_true,cond_false]
   rfl
  unfold H3
  by_cases h:R1&&&(M-1)≥b-a
  ·rw[if_pos h] at ho
   rw[gp (by omega),cond_true]
   exact fin _ (by rw[fE (by omega),wrap64 (by omega) (by omega)];omega)
  ·rw[if_neg h] at ho
   rw[jS (by omega),cond_false]
   exact fin _ (by omega)
theorem O1 {a b:Nat} {d:Array Ed} (cP:a+12<b) (hb:b≤d.size) (hs:d.size<1152921504606846976): ∃R,CC KL [.int .i64 (a:Int),.int .i64 (b:Int),.list aj (eA d)]=some [.list aj (eA R)]∧PermIn a b d R:=by
 obtain ⟨M,q1,q2,q3⟩:=OW (x:=b-a) (by omega) (by omega)
 have e1:IntKind.wrap .i64 ((b:Int)-(a:Int))=((b-a:Nat):Int):=by rw[fE (by omega),wrap64 (by omega) (by omega)]
 have e2:IntKind.wrap .i64 (Int.tdiv ((b-a:Nat):Int) 4)=(((b-a)/4:Nat):Int):=by rw[vp,wrap64 (by omega) (by omega)]
 have jW:IntKind.wrap .i64 ((a:Int)+IntKind.wrap .i64 (2*(((b-a)/4:Nat):Int)))=((a+2*((b-a)/4):Nat):Int):=by
  have:=mulC 2 ((b-a)/4)
  rw[show ((2:Nat):Int)=2 from rfl] at this
  rw[this]
  simp (disch:=omega) only[wrap64,cT]
 obtain ⟨x,y,z,R,e,hR⟩:=OZ (a:=a) (b:=b) (M:=M) q2 q3 (by omega) (by omega) _ (a+2*((b-a)/4)-1) d (IntKind.wrap .u64 ((b-a:Nat):Int)) rfl (by omega) hb hs
 refine ⟨R,aiz ?_,hR⟩
 unfold Yc
 rw[e1,ar,if_pos (by omega),q1]
 simp only[Option.bind_some,V.ba,V.toInt_int]
 rw[e2,jW,eJ (by omega),wrap64 (x:=((a+2*((b-a)/4)-1:Nat):Int)) (by omega) (by omega),e]
 rfl
noncomputable def jX (C:ae) (a b':Int) (cd cx:Bool) (a9 bL:Int) (fx:List V) {β:Type} (kn:(Int × Int × Int × Bool × Bool × (List V))→Option β):Option β:=
      bif decide ((a:Int)>0) then
       bif (decide (0≤(IntKind.wrap .i64 (a-1))))&&(decide ((IntKind.wrap .i64 (a-1))<(fx.length:Int))) then
       (fx[(IntKind.wrap .i64 (a-1):Int).toNat]?).bind fun dW=>
       bif (decide (0≤bL))&&(decide (bL<(fx.length:Int))) then
        (fx[(bL:Int).toNat]?).bind fun gD=>
        (C bq [.int .i64 ((dW.cell 0).toInt),.int .i64 ((dW.cell 1).toInt),.int .i64 ((dW.cell 2).toInt),.int .i64 ((gD.cell 0).toInt),.int .i64 ((gD.cell 1).toInt),.int .i64 ((gD.cell 2).toInt)]).bind fun jv=>
        bif !(decide ((((V.nth jv 0).toInt):Int)<0)) then
        (C xe [.int .i64 a,.int .i64 b',.int .i64 bL,.list aj fx]).bind fun jR=>
        kn ((V.nth jR 0).toInt,b',a9,cd,cx,(V.nth (jR.drop 1) 0).toList)
        else
        (C oC [.int .i64 a,.int .i64 b',.int .i64 bL,.list aj fx]).bind fun cb=>
        bif decide (((IntKind.wrap .i64 (((V.nth cb 0).toInt)-a)):Int)<(IntKind.wrap .i64 (b'-((V.nth cb 0).toInt)))) then
         (C iu [.int .i64 a,.int .i64 ((V.nth cb 0).toInt),.int .i64 a9,.list aj ((V.nth (cb.drop 2) 0).toList)]).bind fun lk=>
         kn (IntKind.wrap .i64 (((V.nth cb 0).toInt)+1),b',a9,decide (((IntKind.wrap .i64 (((V.nth cb 0).toInt)-a)):Int)≥(IntKind.wrap .i64 (Int.tdiv (IntKind.wrap .i64 (b'-a)) 8))),(V.nth (cb.drop 1) 0).toBool,(V.nth lk 0).toList)
        else
         (C iu [.int .i64 (IntKind.wrap .i64 (((V.nth cb 0).toInt)+1)),.int .i64 b',.int .i64 a9,.list aj ((V.nth (cb.drop 2) 0).toList)]).bind fun dz=>
         kn (a,(V.nth cb 0).toInt,a9,decide (((IntKind.wrap .i64 (b'-((V.nth cb 0).toInt))):Int)≥(IntKind.wrap .i64 (Int.tdiv (IntKind.wrap .i64 (b'-a)) 8))),(V.nth (cb.drop 1) 0).toBool,(V.nth dz 0).toList)
       else none
       else none
      else
       (C oC [.int .i64 a,.int .i64 b',.int .i64 bL,.list aj fx]).bind fun dv=>
       bif decide (((IntKind.wrap .i64 (((V.nth dv 0).toInt)-a)):Int)<(IntKind.wrap .i64 (b'-((V.nth dv 0).toInt)))) then
       (C iu [.int .i64 a,.int .i64 ((V.nth dv 0).toInt),.int .i64 a9,.list aj ((V.nth (dv.drop 2) 0).toList)]).bind fun nc=>
       kn (IntKind.wrap .i64 (((V.nth dv 0).toInt)+1),b',a9,decide (((IntKind.wrap .i64 (((V.nth dv 0).toInt)-a)):Int)≥(IntKind.wrap .i64 (Int.tdiv (IntKind.wrap .i64 (b'-a)) 8))),(V.nth (dv.drop 1) 0).toBool,(V.nth nc 0).toList)
       else
       (C iu [.int .i64 (IntKind.wrap .i64 (((V.nth dv 0).toInt)+1)),.int .i64 b',.int .i64 a9,.list aj ((V.nth (dv.drop 2) 0).toList)]).bind fun ew=>
       kn (a,(V.nth dv 0).toInt,a9,decide (((IntKind.wrap .i64 (b'-((V.nth dv 0).toInt))):Int)≥(IntKind.wrap .i64 (Int.tdiv (IntKind.wrap .i64 (b'-a)) 8))),(V.nth (dv.drop 1) 0).toBool,(V.nth ew 0).toList)
theorem rP (C:ae) (a b' dU:Int) (cd cx:Bool) (ab:List V) {β:Type} (kn:(Int × Int × Int × Bool × Bool × (List V))→Option β) (kr:(List V)→Option β):
  pV C a b' dU cd cx ab kn kr=
 bif decide (((IntKind.wrap .i64 (b'-a)):Int)≤12) then
  (C GA [.int .i64 a,.int .i64 b',.list aj ab]).bind fun r1=>
  kr ((V.nth r1 0).toList)
 else
  bif (dU:Int)==0 then
  (C GB [.int .i64 a,.int .i64 b',.list aj ab]).bind fun r2=>
  kr ((V.nth r2 0).toList)
  else
  yj C a b' dU cd cx (IntKind.wrap .i64 (b'-a)) (!cd) ab (un fun (a9:Int) (oP:List V)=>
   (C GC [.list aj oP,.int .i64 a,.int .i64 b']).bind fun r6=>
   yk C a b' a9 cd cx (IntKind.wrap .i64 (b'-a)) ((V.nth r6 0).toInt) ((V.nth (r6.drop 1) 0).toInt) ((((V.nth (r6.drop 1) 0).toInt):Int)==2) oP (un fun (bL:Int)=>un fun (vk:Int) (gC:List V)=>
    bif cd then
     bif cx then
     na C a b' a9 cd cx (IntKind.wrap .i64 (b'-a)) bL ((vk:Int)==1) gC (cI (un fun (HK:Bool) (vu:List V)=>
      kr vu) (fun (fx:List V)=>jX C a b' cd cx a9 bL fx kn))
     else
     na C a b' a9 cd cx (IntKind.wrap .i64 (b'-a)) bL false gC (cI (un fun (aiJ:Bool) (O2:List V)=>
      kr O2) (fun (O3:List V)=>jX C a b' cd cx a9 bL O3 kn))
    else
     na C a b' a9 cd cx (IntKind.wrap .i64 (b'-a)) bL false gC (cI (un fun (aiK:Bool) (O4:List V)=>
      kr O4) (fun (O5:List V)=>jX C a b' cd cx a9 bL O5 kn)))):=rfl
section
variable {a b:Nat} {lim:Int} {wb wp:Bool}
theorem O6 {d:Array Ed} (cP:a+12<b) (hb:b≤d.size) (hs:d.size<1152921504606846976) (len:Int) (t:Bool): ∃(l1:Int) (d1:Array Ed),PermIn a b d d1∧∀(β:Type) (kr:(Int × List V)→Option β),yj CC a b lim wb wp len t (eA d) kr=kr (l1,eA d1):=by
 cases t with
 | true=>
  obtain ⟨R,e,hR⟩:=O1 cP hb hs
  refine ⟨IntKind.wrap .i64 (lim-1),R,hR,fun β kr=> ?_⟩
  unfold yj
  rw[cond_true,e]
  rfl
 | false=>exact ⟨lim,d,permIn_refl _ _ _,fun β kr=>rfl⟩
theorem O7 {d:Array Ed} (cP:a+12<b) (hb:b≤d.size) (hs:d.size<1152921504606846976) (len h:Int) (t:Bool) {p:Nat} (h1:a≤p) (h2:p<b): ∃(p2:Nat) (h2:Int) (d1:Array Ed),a≤p2∧p2<b∧PermIn a b d d1∧∀(β:Type) (kr:(Int × Int × List V)→Option β),yk CC a b lim wb wp len p h t (eA d) kr=kr ((p2:Int),h2,eA d1):=by
 cases t with
 | true=>
  refine ⟨b-1-(p-a),1,reverseRange d a b,by omega,by omega,reverseRange_holds d a b (by omega) hb,fun β kr=> ?_⟩
  unfold yk
  rw[cond_true,N8 (by omega) hb hs]
  simp (disch:=omega) only[Option.bind_some,V.ba,V.jM,eJ,fE,wrap64]
 | false=>exact ⟨p,h,d,h1,h2,permIn_refl _ _ _,fun β kr=>rfl⟩
theorem O8 {d:Array Ed} (cP:a+12<b) (hb:b≤d.size) (hs:d.size<1152921504606846976) (hB:Below ag a b d) (len p:Int) (t:Bool): ∃d1:Array Ed,PermIn a b d d1∧
  ((∀(β:Type) (kr:((Bool × List V) ⊕ List V)→Option β),na CC a b lim wb wp len p t (eA d) kr=kr (.inr (eA d1)))∨
  (SortedIn ag a b d1∧∀(β:Type) (kr:((Bool × List V) ⊕ List V)→Option β),na CC a b lim wb wp len p t (eA d) kr=kr (.inl (true,eA d1)))):=by
 cases t with
 | true=>
  have hp:=partialInsertionSort_holds (lt:=ag) nd d a b (by omega) hb hB
  refine ⟨_,hp.1,?_⟩
  cases h:(partialInsertionSort ag d a b).2 with
  | true=>
   refine .inr ⟨hp.2 h,fun β kr=> ?_⟩
   unfold na
   rw[cond_true,C6 (by omega) hb hs,h]
   rfl
  | false=>
   refine .inl fun β kr=> ?_
   unfold na
   rw[cond_true,C6 (by omega) hb hs,h]
   rfl
 | false=>exact ⟨d,permIn_refl _ _ _,.inl fun β kr=>rfl⟩
end
def rQ (a b:Nat) (d:Array Ed):Prop:= ∀(lim:Int) (wb wp:Bool),∃R,Loop (Yi CC) ((a:Int),(b:Int),lim,wb,wp,eA d)=some (eA R)∧PermIn a b d R∧SortedIn ag a b R
theorem rQ.call {a b:Nat} {d:Array Ed} (h:rQ a b d) (lim:Int): ∃R,CC iu [.int .i64 (a:Int),.int .i64 (b:Int),.int .i64 lim,.list aj (eA d)]=some [.list aj (eA R)]∧PermIn a b d R∧SortedIn ag a b R:=by
 obtain ⟨R,e,h1,h2⟩:=h lim true true
 refine ⟨R,aiI ?_,h1,h2⟩
 unfold Yk
 rw[e]
 rfl
theorem O9 {a b p:Nat} {d:Array Ed} (cP:a+12<b) (hb:b≤d.size) (hs:d.size<1152921504606846976) (hB:Below ag a b d) (h1:a≤p) (h2:p<b)
  (ih: ∀(a2 b2:Nat) (d2:Array Ed),b2-a2<b-a→a2≤b2→b2≤d2.size→d2.size<1152921504606846976→Below ag a2 b2 d2→rQ a2 b2 d2) (wb wp:Bool) (lim:Int):
  ∃(a2 b2:Nat) (ll ln:Bool) (d2:Array Ed),b2-a2<b-a∧a2≤b2∧b2≤d2.size∧d2.size<1152921504606846976∧Below ag a2 b2 d2∧
   (∀R,PermIn a2 b2 d2 R→SortedIn ag a2 b2 R→PermIn a b d R∧SortedIn ag a b R)∧
   ∀(β:Type) (kn:(Int × Int × Int × Bool × Bool × (List V))→Option β),jX CC a b wb wp lim p (eA d) kn=kn ((a2:Int),(b2:Int),lim,ll,ln,eA d2):=by
 have part: ∃(a2 b2:Nat) (ll ln:Bool) (d2:Array Ed),b2-a2<b-a∧a2≤b2∧b2≤d2.size∧d2.size<1152921504606846976∧Below ag a2 b2 d2∧
   (∀R,PermIn a2 b2 d2 R→SortedIn ag a2 b2 R→PermIn a b d R∧SortedIn ag a b R)∧
   ∀(β:Type) (kn:(Int × Int × Int × Bool × Bool × (List V))→Option β),
    ((CC oC [.int .i64 (a:Int),.int .i64 (b:Int),.int .i64 (p:Int),.list aj (eA d)]).bind fun cb=>
        bif decide (((IntKind.wrap .i64 (((V.nth cb 0).toInt)-(a:Int))):Int)<(IntKind.wrap .i64 ((b:Int)-((V.nth cb 0).toInt)))) then
         (CC iu [.int .i64 (a:Int),.int .i64 ((V.nth cb 0).toInt),.int .i64 lim,.list aj ((V.nth (cb.drop 2) 0).toList)]).bind fun lk=>
         kn (IntKind.wrap .i64 (((V.nth cb 0).toInt)+1),(b:Int),lim,decide (((IntKind.wrap .i64 (((V.nth cb 0).toInt)-(a:Int))):Int)≥(IntKind.wrap .i64 (Int.tdiv (IntKind.wrap .i64 ((b:Int)-(a:Int))) 8))),(V.nth (cb.drop 1) 0).toBool,(V.nth lk 0).toList)
        else
         (CC iu [.int .i64 (IntKind.wrap .i64 (((V.nth cb 0).toInt)+1)),.int .i64 (b:Int),.int .i64 lim,.list aj ((V.nth (cb.drop 2) 0).toList)]).bind fun dz=>
         kn ((a:Int),(V.nth cb 0).toInt,lim,decide (((IntKind.wrap .i64 ((b:Int)-((V.nth cb 0).toInt))):Int)≥(IntKind.wrap .i64 (Int.tdiv (IntKind.wrap .i64 ((b:Int)-(a:Int))) 8))),(V.nth (cb.drop 1) 0).toBool,(V.nth dz 0).toList))=kn ((a2:Int),(b2:Int),lim,ll,ln,eA d2):=by
  obtain ⟨mid,ap,d4,hx⟩: ∃mid ap d4,partition ag d a b p=(mid,ap,d4):=⟨_,_,_,rfl⟩
  obtain ⟨g1,g2,gF,Pb,Pc,Pd,Pe⟩:=round_part nd (partition_holds ag) h1 h2 hb hB hx
  have hc:=Om (a:=a) (b:=b) (pivot:=p) (d:=d) h2 (by omega) hb hs
  rw[hx] at hc
  by_cases hl:mid-a<b-mid
  ·obtain ⟨L,e,l1,l2⟩:=(ih a mid d4 (by omega) g1 (by rw[gF];omega) (by rw[gF];exact hs) Pb).call lim
   obtain ⟨vw,jw⟩:=Pd _ l1 l2
   refine ⟨mid+1,b,decide (((IntKind.wrap .i64 ((mid:Int)-(a:Int))):Int)≥(IntKind.wrap .i64 (Int.tdiv (IntKind.wrap .i64 ((b:Int)-(a:Int))) 8))),ap,L,by omega,by omega,by rw[l1.1,gF];exact hb,by rw[l1.1,gF];exact hs,vw,jw,fun β kn=> ?_⟩
   ·rw[hc]
    simp only[Option.bind_some,V.ba,V.ju,V.toInt_int,V.iS,V.jM,List.drop_succ_cons,List.drop_zero]
    rw[ar,if_pos (by rw[fE g1,fE (by omega),wrap64 (by omega) (by omega),wrap64 (by omega) (by omega)];omega),e]
    simp only[Option.bind_some,V.ba,V.jM]
    rw[bK,wrap64 (x:=((mid+1:Nat):Int)) (by omega) (by omega)]
  ·obtain ⟨L,e,l1,l2⟩:=(ih (mid+1) b d4 (by omega) (by omega) (by rw[gF];exact hb) (by rw[gF];exact hs) Pc).call lim
   obtain ⟨vw,jw⟩:=Pe _ l1 l2
   refine ⟨a,mid,decide (((IntKind.wrap .i64 ((b:Int)-(mid:Int))):Int)≥(IntKind.wrap .i64 (Int.tdiv (IntKind.wrap .i64 ((b:Int)-(a:Int))) 8))),ap,L,by omega,by omega,by rw[l1.1,gF];omega,by rw[l1.1,gF];exact hs,vw,jw,fun β kn=> ?_⟩
   ·rw[hc]
    simp only[Option.bind_some,V.ba,V.ju,V.toInt_int,V.iS,V.jM,List.drop_succ_cons,List.drop_zero]
    rw[ar,if_neg (by rw[fE g1,fE (by omega),wrap64 (by omega) (by omega),wrap64 (by omega) (by omega)];omega),bK,wrap64 (x:=((mid+1:Nat):Int)) (by omega) (by omega),e]
    simp only[Option.bind_some,V.ba,V.jM]
 by_cases ha:0<a
 ·by_cases hc:aR d[a-1]! d[p]! <0
  ·obtain ⟨a2,b2,ll,ln,d2,q1,q2,q3,q4,q5,q6,q7⟩:=part
   refine ⟨a2,b2,ll,ln,d2,q1,q2,q3,q4,q5,q6,fun β kn=> ?_⟩
   rw[←q7 β kn]
   unfold jX
   rw[ar,if_pos (by omega),eJ ha,wrap64 (by omega) (by omega),ey (i:=a-1) (by omega),ez (by omega),ey (i:=p) (by omega),ez (by omega)]
   simp only[Ed.bR,Ed.bS,Ed.bU,gO,Option.bind_some,V.ba,V.toInt_int]
   rw[dp,ar,if_pos hc]
  ·obtain ⟨mid,d4,hx⟩: ∃mid d4,partitionEqual ag d a b p=(mid,d4):=⟨_,_,rfl⟩
   obtain ⟨g1,qk,gF,Pf,jw⟩:=round_eq nd (partitionEqual_holds ag) ha h1 h2 hb hB (by rw[td,←propext (xo _ _)];exact hc) hx
   have he:=Oo (a:=a) (b:=b) (pivot:=p) (d:=d) h2 (by omega) hb hs
   rw[hx] at he
   refine ⟨mid,b,wb,wp,d4,by omega,qk,by rw[gF];exact hb,by rw[gF];exact hs,Pf,jw,fun β kn=> ?_⟩
   unfold jX
   rw[ar,if_pos (by omega),eJ ha,wrap64 (by omega) (by omega),ey (i:=a-1) (by omega),ez (by omega),ey (i:=p) (by omega),ez (by omega)]
   simp only[Ed.bR,Ed.bS,Ed.bU,gO,Option.bind_some,V.ba,V.toInt_int]
   rw[dp,ar,if_neg hc,he]
   rfl
 ·obtain ⟨a2,b2,ll,ln,d2,q1,q2,q3,q4,q5,q6,q7⟩:=part
  refine ⟨a2,b2,ll,ln,d2,q1,q2,q3,q4,q5,q6,fun β kn=> ?_⟩
  rw[←q7 β kn]
  unfold jX
  rw[ar,if_neg (by omega)]
theorem Yl: ∀(n a b:Nat) (d:Array Ed),b-a≤n→a≤b→b≤d.size→d.size<1152921504606846976→Below ag a b d→rQ a b d:=by
 intro n
 induction n with
 | zero=>
  intro a b d hn cP hb hs hB lim wb wp
  have hi:=insertionSort_holds (lt:=ag) nd d a b cP hb
  refine ⟨_,aZ ?_,hi⟩
  show pV CC a b lim wb wp (eA d) (fun y=>some (Sum.inl y)) (fun r=>some (Sum.inr r))=_
  rw[rP,ar,if_pos (by rw[fE cP,wrap64 (by omega) (by omega)];omega),Cz hb hs (by omega)]
  rfl
 | succ n ih=>
  intro a b d hn cP hb hs hB lim wb wp
  by_cases h12:b-a≤12
  ·have hi:=insertionSort_holds (lt:=ag) nd d a b cP hb
   refine ⟨_,aZ ?_,hi⟩
   show pV CC a b lim wb wp (eA d) (fun y=>some (Sum.inl y)) (fun r=>some (Sum.inr r))=_
   rw[rP,ar,if_pos (by rw[fE cP,wrap64 (by omega) (by omega)];omega),Cz hb hs (by omega)]
   rfl
  ·have oQ:a+12<b:=by omega
   have oy: ¬(((IntKind.wrap .i64 ((b:Int)-(a:Int))):Int)≤12):=by rw[fE cP,wrap64 (by omega) (by omega)];omega
   by_cases h0:lim=0
   ·have hi:=heapSort_holds (lt:=ag) nd d a b cP hb
    refine ⟨_,aZ ?_,hi⟩
    show pV CC a b lim wb wp (eA d) (fun y=>some (Sum.inl y)) (fun r=>some (Sum.inr r))=_
    rw[rP,ar,if_neg oy,km,if_pos h0,N6 (by omega) hb hs]
    rfl
   ·obtain ⟨l1,d1,s1,k1⟩:=O6 (lim:=lim) (wb:=wb) (wp:=wp) oQ hb hs (IntKind.wrap .i64 ((b:Int)-(a:Int))) (!wb)
    have b1:b≤d1.size:=by rw[s1.1];exact hb
    have z1:d1.size<1152921504606846976:=by rw[s1.1];exact hs
    obtain ⟨p,h,c1,p1,p2⟩:=OY oQ b1 z1
    obtain ⟨q,h2,d2,q1,q2,s2,k2⟩:=O7 (lim:=l1) (wb:=wb) (wp:=wp) oQ b1 z1 (IntKind.wrap .i64 ((b:Int)-(a:Int))) h (h==2) p1 p2
    have b2:b≤d2.size:=by rw[s2.1];exact b1
    have z2:d2.size<1152921504606846976:=by rw[s2.1];exact z1
    have B2:Below ag a b d2:=(hB.perm hb s1).perm b1 s2
    obtain ⟨t,ht⟩: ∃t:Bool,t=(bif wb then (bif wp then (h2==1) else false) else false):=⟨_,rfl⟩
    obtain ⟨d3,s3,k3⟩:=O8 (lim:=l1) (wb:=wb) (wp:=wp) oQ b2 z2 B2 (IntKind.wrap .i64 ((b:Int)-(a:Int))) (q:Int) t
    have b3:b≤d3.size:=by rw[s3.1];exact b2
    have z3:d3.size<1152921504606846976:=by rw[s3.1];exact z2
    have B3:Below ag a b d3:=B2.perm b2 s3
    have P3:PermIn a b d d3:=permIn_trans _ _ _ a b (permIn_trans _ _ _ a b s1 s2) s3
    have step: ∀(β:Type) (kn:(Int × Int × Int × Bool × Bool × (List V))→Option β) (kr:(List V)→Option β),pV CC a b lim wb wp (eA d) kn kr=
      na CC a b l1 wb wp (IntKind.wrap .i64 ((b:Int)-(a:Int))) (q:Int) t (eA d2) (cI (un fun (HK:Bool) (vu:List V)=>kr vu) (fun (fx:List V)=>jX CC a b wb wp l1 q fx kn)):=by
     intro β kn kr
     rw[rP,ar,if_neg oy,km,if_neg h0,k1]
     simp only[un]
     rw[c1]
     simp only[Option.bind_some,V.ba,V.ju,V.toInt_int,List.drop_succ_cons,List.drop_zero]
     rw[k2]
     simp only[un]
     rw[ht]
     cases wb
     ·rfl
     ·cases wp
      ·rfl
      ·rfl
    rcases k3 with k3|⟨Pg,k3⟩
    ·obtain ⟨a4,b4,Ph,Pj,d4,r1,r2,r3,r4,r5,r6,r7⟩:=O9 oQ b3 z3 B3 q1 q2 (fun a2 b2 d2 aX h1 h2 h3 h4=>ih a2 b2 d2 (by omega) h1 h2 h3 h4) wb wp l1
     obtain ⟨R,e,e1,e2⟩:=ih a4 b4 d4 (by omega) r2 r3 r4 r5 l1 Ph Pj
     obtain ⟨f1,f2⟩:=r6 R e1 e2
     refine ⟨R,(cF ?_).trans e,permIn_trans _ _ _ a b P3 f1,f2⟩
     show pV CC a b lim wb wp (eA d) (fun y=>some (Sum.inl y)) (fun r=>some (Sum.inr r))=_
     rw[step,k3]
     exact r7 _ (fun y=>some (Sum.inl y))
    ·refine ⟨d3,aZ ?_,P3,Pg⟩
     show pV CC a b lim wb wp (eA d) (fun y=>some (Sum.inl y)) (fun r=>some (Sum.inr r))=_
     rw[step,k3]
     rfl
end Go.AM.SL
set_option maxRecDepth 100000
namespace Go.AM
open Go.Proofs
noncomputable def Ym (C:ae) (dS eN dB e9:Int) (ee:List V):Option (List V):=
 (C AD [.int .i64 dS,.int .i64 eN,.int .u64 dB,.int .u64 e9,.list aj ee]).bind fun r1=>
 bif (((V.nth (r1.drop 2) 0).toInt):Int) != 0 then
  some [.int .i64 0,.int .i64 0,.int .i64 ((V.nth (r1.drop 2) 0).toInt),.list aD ([]:List V),.list aG ([]:List V)]
 else
  (C qT [.int .i64 ((V.nth r1 0).toInt),.int .i64 ((V.nth (r1.drop 1) 0).toInt),.list aD ((V.nth (r1.drop 3) 0).toList),.list aG ((V.nth ((r1.drop 3).drop 1) 0).toList)]).bind fun r2=>
  some [.int .i64 ((V.nth r2 0).toInt),.int .i64 ((V.nth (r2.drop 1) 0).toInt),.int .i64 0,.list aD ((V.nth (r2.drop 2) 0).toList),.list aG ((V.nth ((r2.drop 2).drop 1) 0).toList)]
theorem aiL {dS eN dB e9:Int} {ee:List V} {r:Option (List V)} (h:Ym CC dS eN dB e9 ee=r):CC wZ [.int .i64 dS,.int .i64 eN,.int .u64 dB,.int .u64 e9,.list aj ee]=r:=
 bf (key:=79) (L:=dq) (bs:=[]) (by kernel_rfl) ao (Eq.trans (by kernel_rfl) h)
noncomputable def Yn (C:ae) (bH bx bI bD:Int) (bE:List V):Option (List V):=
 (C Gp [.list aj bE]).bind fun r1=>
 (C Gq [.list aj ((V.nth r1 0).toList)]).bind fun r2=>
 bif (V.nth r2 0).toBool then
  (C wZ [.int .i64 bH,.int .i64 bx,.int .u64 bI,.int .u64 bD,.list aj ((V.nth (r2.drop 1) 0).toList)]).bind fun r3=>
  some [.int .i64 ((V.nth r3 0).toInt),.int .i64 ((V.nth (r3.drop 1) 0).toInt),.int .i64 ((V.nth (r3.drop 2) 0).toInt),.int .i64 bH,.int .i64 bx,.int .u64 bI,.int .u64 bD,.list aj ((V.nth (r2.drop 1) 0).toList),.list aD ((V.nth (r3.drop 3) 0).toList),.list aG ((V.nth ((r3.drop 3).drop 1) 0).toList)]
 else
  (C wZ [.int .i64 bH,.int .i64 bx,.int .u64 bI,.int .u64 bD,.list aj ((V.nth (r2.drop 1) 0).toList)]).bind fun r4=>
  some [.int .i64 ((V.nth r4 0).toInt),.int .i64 ((V.nth (r4.drop 1) 0).toInt),.int .i64 ((V.nth (r4.drop 2) 0).toInt),.int .i64 bH,.int .i64 bx,.int .u64 bI,.int .u64 bD,.list aj ((V.nth (r2.drop 1) 0).toList),.list aD ((V.nth (r4.drop 3) 0).toList),.list aG ((V.nth ((r4.drop 3).drop 1) 0).toList)]
theorem aiM {bH bx bI bD:Int} {bE:List V} {r:Option (List V)} (h:Yn CC bH bx bI bD bE=r):CC Az [.int .i64 bH,.int .i64 bx,.int .u64 bI,.int .u64 bD,.list aj bE]=r:=
 bf (key:=65) (L:=dq) (bs:=[]) (by kernel_rfl) ao (Eq.trans (by kernel_rfl) h)
section
variable {n:Nf} {L S:Nat} (h:Nat6 n L S)
include h
end
instance (n:Nf) (L S:Nat):Decidable (iB n L S):=by unfold iB;infer_instance
noncomputable def iC (n:Nf) (L S:Nat):Da:=if iB n L S then zD else minD (iZ n L S)
def vy (n:Nf) (L S:Nat):Int:=if iB n L S then 3 else 0
section
variable {n:Nf} {L S:Nat} (h:Nat6 n L S)
include h
theorem Yo:CC wZ (kS n [])=some (kX (iC n L S) (vy n L S)):=by
 refine aiL ?_
 unfold Ym iC vy
 by_cases ho:iB n L S
 ·obtain ⟨X,hX⟩:=ag3 h ho
  rw[if_pos ho,if_pos ho]
  refine bs hX (bT rfl ?_)
  rfl
 ·obtain ⟨X,hX⟩:=ag2 h ho
  rw[if_neg ho,if_neg ho]
  refine bs hX (bF rfl ?_)
  refine bs (Cc (xO h ho)) ?_
  rfl
end
def dD (L S st fin:Nat) (l:List Ed):Nf:=⟨L,S,st,fin,pT l⟩
structure te (L S st fin:Nat) (l:List Ed):Prop where
 l1:1≤L
 l6:L≤6
 pK:S≤64
 st:st<2^S
 fin:fin<2^S
 E: ∀e∈l,e.In L S
 len:l.length≤1000000
theorem nR {L S st fin:Nat} {l:List Ed} (h:te L S st fin l):Nat6 (dD L S st fin l) L S where
 hL:=rfl
 hS:=rfl
 ok:=by
  have vV:=h.l1
  have hl6:=h.l6
  have hs:=h.pK
  have cK:=h.st
  have jw:=h.fin
  have hp:2^S≤2^64:=Nat.pow_le_pow_right (by omega) hs
  have fo: ∀e∈pT l,e.In L S:=fun e he=>h.E e (u4.1 he)
  have hlen:=ahv (L:=L) (S:=S) (by omega) (by omega) (HS l) fo
  refine ⟨by simp only[dD];omega,by simp only[dD];omega,by simp only[dD];omega,by simp only[dD];omega,by simp only[dD];omega,by simp only[dD];omega,by simp only[dD];unfold maxLen;omega,fun e he=> ?_⟩
  have:=fo e he
  unfold Ed.In at this
  unfold Ed.Ok
  omega
 code:=by
  have vV:=h.l1
  have hl6:=h.l6
  have hs:=h.pK
  unfold Nf.code
  rw[if_neg (by simp only[dD];omega),if_neg (by simp only[dD,Int.toNat_natCast];have:=h.st;have:=h.fin;omega),if_pos]
  intro i hi
  have fo: ∀e∈pT l,e.In L S:=fun e he=>h.E e (u4.1 he)
  unfold Nf.pG
  simp only[dD] at*
  refine ⟨by rw[fj hi];exact fo _ (List.getElem_mem hi),fun h0=> ?_⟩
  rw[fj hi,fj (show i-1<_ by omega)]
  exact List.pairwise_iff_getElem.1 (HS l) (i-1) i (by omega) hi (by omega)
def Yp (m:Da) (e:Int) (n:Nf):List V:=[.int .i64 (m.L:Int),.int .i64 (m.st:Int),.int .i64 e,.int .i64 n.L,.int .i64 n.S,.int .u64 (n.st:Int),.int .u64 (n.fin:Int),.list aj (n.E.map Ed.enc),.list aD m.dg,.list aG m.cQ]
section
variable {L S st fin:Nat} {l:List Ed} (h:te L S st fin l)
include h
end
noncomputable abbrev yl:Code:=ch Tryd.prog (aq.aO 41)
noncomputable def Di (C:ae) (t40 rR rS:Int) (pW nT:List V) (rT rU:Int) (pX oR:List V) (t41:Int) {β:Type} (kn:Int→Option β) (kr:((Bool) ⊕ (Int × Bool))→Option β):Option β:=
 bif decide ((t41:Int)<t40) then
  (idx pW t41).bind fun x1=>
  (idx pX t41).bind fun x2=>
  bif !(x1.toBool==x2.toBool) then
  kr (.inl false)
  else
  kn (IntKind.wrap .i64 (t41+1))
 else
  kr (.inr (t41,decide ((t41:Int)<t40)))
noncomputable def Pk (C:ae) (t40 rR rS:Int) (pW nT:List V) (rT rU:Int) (pX oR:List V):(Int)→Option ((Int) ⊕ ((Bool) ⊕ (Int × Bool))):=fun t41=>Di C t40 rR rS pW nT rT rU pX oR t41 (fun y=>some (.inl y)) (fun r=>some (.inr r))
noncomputable def Dj (C:ae) (q t58 t59 t80 rR rS:Int) (pW nT:List V) (rT rU:Int) (pX oR:List V) (t81:Int) {β:Type} (kn:Int→Option β) (kr:((Bool) ⊕ (Int × Bool))→Option β):Option β:=
 bif decide ((t81:Int)<t80) then
  (idx nT q).bind fun x9=>
  (idx x9.toList t81).bind fun eO=>
  (idx oR q).bind fun dH=>
  (idx dH.toList t81).bind fun pJ=>
  bif (eO.toInt:Int) != pJ.toInt then
  kr (.inl false)
  else
  kn (IntKind.wrap .i64 (t81+1))
 else
  kr (.inr (t81,decide ((t81:Int)<t80)))
noncomputable def Pl (C:ae) (q t58 t59 t80 rR rS:Int) (pW nT:List V) (rT rU:Int) (pX oR:List V):(Int)→Option ((Int) ⊕ ((Bool) ⊕ (Int × Bool))):=fun t81=>Dj C q t58 t59 t80 rR rS pW nT rT rU pX oR t81 (fun y=>some (.inl y)) (fun r=>some (.inr r))
noncomputable def Dk (C:ae) (t58 rR rS:Int) (pW nT:List V) (rT rU:Int) (pX oR:List V) (t59:Int) {β:Type} (kn:Int→Option β) (kr:((Bool) ⊕ (Int × Bool))→Option β):Option β:=
 bif decide ((t59:Int)<t58) then
  (idx nT t59).bind fun x6=>
  (idx oR t59).bind fun x7=>
  bif ((x6.toList.length:Int):Int) != (x7.toList.length:Int) then
  kr (.inl false)
  else
  (idx nT t59).bind fun x8=>
  (Loop (Pl C t59 t58 t59 (x8.toList.length:Int) rR rS pW nT rT rU pX oR) 0).bind (cI (fun (sW:Bool)=>
   kr (.inl sW)) (un fun (uS:Int) (aiN:Bool)=>
   kn (IntKind.wrap .i64 (t59+1))))
 else
  kr (.inr (t59,decide ((t59:Int)<t58)))
noncomputable def Pm (C:ae) (t58 rR rS:Int) (pW nT:List V) (rT rU:Int) (pX oR:List V):(Int)→Option ((Int) ⊕ ((Bool) ⊕ (Int × Bool))):=fun t59=>Dk C t58 rR rS pW nT rT rU pX oR t59 (fun y=>some (.inl y)) (fun r=>some (.inr r))
noncomputable def Yq (C:ae):b6:=fun β n ds k=>
 bif Nat.beq n 65 then bd Lc [false,true,false,false,false,false,false,false,false,false] [[0],[1,0,0,3,4,5,6,7,8,9,10]] (@Di C) ds k else
 bif Nat.beq n 241 then bd Ld [false,false,false,false,true,false,false,false,false,false,false,false,false] [[0],[1,2,3,4,0,0,6,7,8,9,10,11,12,13]] (@Dj C) ds k else
 bif Nat.beq n 161 then bd Lf [false,true,false,false,false,false,false,false,false,false] [[0],[1,0,0,3,4,5,6,7,8,9,10]] (@Dk C) ds k else
 none
abbrev Pn (C:ae) (b:bY):Prop:=bZ Tryd.prog aq C (Yq C) 41 (cm Tryd.prog (aq.aO 41)) (aq.sin 41).aW.length b
theorem aiO (C:ae):Pn C (.loop (an [1,1,0,1,0,0] yl)):=
 bh Lc [false,true,false,false,false,false,false,false,false,false] [[0],[1,0,0,3,4,5,6,7,8,9,10]] (@Di C) (by kernel_rfl) (aI (bs:=[]) (by kernel_rfl) ao) (fun ds=>by kernel_rfl) (fun i x=>by kernel_rfl) (fun i x β k=>by kernel_rfl) (fun β ds k=>by kernel_rfl)
theorem aiP (C:ae):Pn C (.loop (an [1,1,1,0,1,0,0,1,1,0,0,1,1,1,0,0] yl)):=
 bh Ld [false,false,false,false,true,false,false,false,false,false,false,false,false] [[0],[1,2,3,4,0,0,6,7,8,9,10,11,12,13]] (@Dj C) (by kernel_rfl) (aI (bs:=[]) (by kernel_rfl) ao) (fun ds=>by kernel_rfl) (fun i x=>by kernel_rfl) (fun i x β k=>by kernel_rfl) (fun β ds k=>by kernel_rfl)
theorem aiQ (C:ae):Pn C (.loop (an [1,1,1,0,1,0,0] yl)):=
 bh Lf [false,true,false,false,false,false,false,false,false,false] [[0],[1,0,0,3,4,5,6,7,8,9,10]] (@Dk C) (by kernel_rfl) (aI (bs:=[.loop (an [1,1,1,0,1,0,0,1,1,0,0,1,1,1,0,0] yl)]) (by kernel_rfl) (aU (aiP C) ao)) (fun ds=>by kernel_rfl) (fun i x=>by kernel_rfl) (fun i x β k=>by kernel_rfl) (fun β ds k=>by kernel_rfl)
noncomputable def Yr (C:ae) (ym yn:Int) (vz vA:List V) (yo yp:Int) (yq yr:List V):Option (List V):=
 bif (ym:Int) != yo then
  some [.bool false]
 else
  bif (yn:Int) != yp then
  some [.bool false]
  else
  bif ((vz.length:Int):Int) != (yq.length:Int) then
   some [.bool false]
  else
   bif ((vA.length:Int):Int) != (yr.length:Int) then
   some [.bool false]
   else
   (Loop (Pk C (vz.length:Int) ym yn vz vA yo yp yq yr) 0).bind (cI (fun (jN:Bool)=>
    some [.bool jN]) (un fun (iX:Int) (lP:Bool)=>
    (Loop (Pm C (vA.length:Int) ym yn vz vA yo yp yq yr) 0).bind (cI (fun (Hm:Bool)=>
     some [.bool Hm]) (un fun (aiR:Int) (NR:Bool)=>
     some [.bool true]))))
theorem aiS {ym yn:Int} {vz vA:List V} {yo yp:Int} {yq yr:List V} {r:Option (List V)} (h:Yr CC ym yn vz vA yo yp yq yr=r):CC Gb [.int .i64 ym,.int .i64 yn,.list aD vz,.list aG vA,.int .i64 yo,.int .i64 yp,.list aD yq,.list aG yr]=r:=
 bf (key:=41) (L:=Yq CC) (bs:=[.loop (an [1,1,0,1,0,0] yl),.loop (an [1,1,1,0,1,0,0] yl)]) (by kernel_rfl) (aU (aiO CC) (aU (aiQ CC) ao)) (Eq.trans (by kernel_rfl) h)
section
variable {a b:Da} (ha:a.Ok) (hb:b.Ok) (hL:a.L=b.L) {op:Nat}
include ha hb hL
end
theorem aiT (m:Da) (hn:m.n≤1000000) (hl:m.L≤1000):CC Gb (lS m (eI m))=some [.bool true]:=by
 refine aiS ?_
 unfold Yr
 refine bF (by simp) (bF (by simp) (bF (by simp) (bF (by simp) ?_)))
 rw[Da.pO]
 refine bs (fu m.n (fun i=>(i:Int)) (.inr ((m.n:Int),false)) (fun i hi=> ?_) ?_) ?_
 ·simp only[Pk,Di]
  refine bT (er hi) ?_
  refine bs (Da.xz hi) ?_
  refine bs (Da.xz hi) ?_
  refine bF (by simp) ?_
  rw[dI (by omega)]
 ·simp only[Pk,Di]
  refine bF (bM (Nat.le_refl _)) ?_
  rw[bM (Nat.le_refl _)]
 ·simp only[cI,un]
  rw[Da.We]
  refine bs (fu m.n (fun i=>(i:Int)) (.inr ((m.n:Int),false)) (fun i hi=> ?_) ?_) ?_
  ·simp only[Pm,Dk]
   refine bT (er hi) ?_
   refine bs (Da.rz hi) ?_
   refine bs (Da.rz hi) ?_
   refine bF (by simp) ?_
   refine bs (Da.rz hi) ?_
   rw[sY,ft]
   refine bs (fu m.L (fun x=>(x:Int)) (.inr ((m.L:Int),false)) (fun x hx=> ?_) ?_) ?_
   ·simp only[Pl,Dj]
    refine bT (er hx) ?_
    refine bs (Da.rz hi) ?_
    rw[sY]
    refine bs (uT hx) ?_
    refine bs (Da.rz hi) ?_
    rw[sY]
    refine bs (uT hx) ?_
    refine bF (by simp) ?_
    rw[dI (by omega)]
   ·simp only[Pl,Dj]
    refine bF (bM (Nat.le_refl _)) ?_
    rw[bM (Nat.le_refl _)]
   ·simp only[cI,un]
    rw[dI (by omega)]
  ·simp only[Pm,Dk]
   refine bF (bM (Nat.le_refl _)) ?_
   rw[bM (Nat.le_refl _)]
  ·rfl
theorem Da.Ok.same {m:Da} (h:m.Ok):CC Gb (lS m (eI m))=some [.bool true]:=aiT m (by have:=h.eP;omega) (by have:=h.l6;omega)
end Go.AM
set_option maxRecDepth 100000
namespace Go.AM
open Go.Proofs
namespace Da
def Dl (a:Da) (k q:Nat):Prop:= ∃w,WL a.L w∧w.length≤k∧a.acc q w=true
def Live (a:Da) (q:Nat):Prop:= ∃w,WL a.L w∧a.acc q w=true
open Classical in
noncomputable def IM (a:Da) (q:Nat):Bool:=decide (a.Live q)
theorem Dl.live {a:Da} {k q:Nat} (h:a.Dl k q):a.Live q:=by obtain ⟨w,h1,_,h3⟩:=h;exact ⟨w,h1,h3⟩
theorem Dl.mono {a:Da} {k m q:Nat} (h:a.Dl k q) (hk:k≤m):a.Dl m q:=by obtain ⟨w,h1,h2,h3⟩:=h;exact ⟨w,h1,by omega,h3⟩
end Da
def bV (n:Nat) (r:Nat→Bool):List V:=tab n fun q=>V.bool (r q)
def upd (r:Nat→Bool) (p:Nat) (b:Bool) (q:Nat):Bool:=if q=p then b else r q
structure LvI (a:Da) (r0 r:Nat→Bool) (c:Bool):Prop where
 good: ∀q,q<a.n→r q=true→a.Live q
 up: ∀q,q<a.n→r0 q=true→r q=true
 yes:c=true→∃q,q<a.n∧r0 q=false∧r q=true
 no:c=false→∀q,q<a.n→r q=r0 q
section
variable {a:Da} (h:a.Ok)
include h
end
section
variable {a:Da} (h:a.Ok)
include h
end
end Go.AM
set_option maxRecDepth 100000
namespace Go.AM
open Go.Proofs
noncomputable def Ys (C:ae) (bu mR:Int):Option (List V):=
 bif decide ((mR:Int)>64) then
  some [V.bool true]
 else
  some [V.bool false,.int .i64 bu,.int .i64 mR,.int .u64 0,.int .u64 0,.list aj ([]:List V)]
theorem aiU {bu mR:Int} {r:Option (List V)} (h:Ys CC bu mR=r):CC Gg [.int .i64 bu,.int .i64 mR]=r:=
 bf (key:=61) (L:=dq) (bs:=[]) (by kernel_rfl) ao (Eq.trans (by kernel_rfl) h)
noncomputable def Yt (C:ae) (Dm letter to bH bx bI bD:Int) (bE:List V):Option (List V):=
 bif Nat.ble ((bE.length+([.agg [.int .i64 Dm,.int .i64 letter,.int .i64 to]]:List V).length)*24) cg then
  some [.int .i64 bH,.int .i64 bx,.int .u64 bI,.int .u64 bD,.list aj (bE++([.agg [.int .i64 Dm,.int .i64 letter,.int .i64 to]]:List V))]
 else none
theorem aiV {Dm letter to bH bx bI bD:Int} {bE:List V} {r:Option (List V)} (h:Yt CC Dm letter to bH bx bI bD bE=r):CC Ay [.int .i64 Dm,.int .i64 letter,.int .i64 to,.int .i64 bH,.int .i64 bx,.int .u64 bI,.int .u64 bD,.list aj bE]=r:=
 bf (key:=62) (L:=dq) (bs:=[]) (by kernel_rfl) ao (Eq.trans (by kernel_rfl) h)
noncomputable def Yu (C:ae) (q bH bx bI bD:Int) (bE:List V):Option (List V):=
 bif decide (0≤q) then
  some [.int .i64 bH,.int .i64 bx,.int .u64 (IntKind.wrap .u64 ((BitVec.ofInt (IntKind.bits .u64) bI|||BitVec.ofInt (IntKind.bits .u64) (IntKind.wrap .u64 (1*2^(min q.toNat (IntKind.bits .u64))))).toNat)),.int .u64 bD,.list aj bE]
 else none
theorem aiW {q bH bx bI bD:Int} {bE:List V} {r:Option (List V)} (h:Yu CC q bH bx bI bD bE=r):CC Gh [.int .i64 q,.int .i64 bH,.int .i64 bx,.int .u64 bI,.int .u64 bD,.list aj bE]=r:=
 bf (key:=63) (L:=dq) (bs:=[]) (by kernel_rfl) ao (Eq.trans (by kernel_rfl) h)
noncomputable def Yv (C:ae) (q bH bx bI bD:Int) (bE:List V):Option (List V):=
 bif decide (0≤q) then
  some [.int .i64 bH,.int .i64 bx,.int .u64 bI,.int .u64 (IntKind.wrap .u64 ((BitVec.ofInt (IntKind.bits .u64) bD|||BitVec.ofInt (IntKind.bits .u64) (IntKind.wrap .u64 (1*2^(min q.toNat (IntKind.bits .u64))))).toNat)),.list aj bE]
 else none
theorem aiX {q bH bx bI bD:Int} {bE:List V} {r:Option (List V)} (h:Yv CC q bH bx bI bD bE=r):CC Gj [.int .i64 q,.int .i64 bH,.int .i64 bx,.int .u64 bI,.int .u64 bD,.list aj bE]=r:=
 bf (key:=69) (L:=dq) (bs:=[]) (by kernel_rfl) ao (Eq.trans (by kernel_rfl) h)
noncomputable abbrev Yw:Code:=ch Tryd.prog (aq.aO 64)
noncomputable def Dn (C:ae) (offset:Int) (t8:List V) (t9 t10 bH bx bI bD:Int) (dx:List V) {β:Type} (kn:(Int × Int × Int × Int × Int × (List V))→Option β) (kr:(Int × Bool × Int × Int × Int × Int × (List V))→Option β):Option β:=
 bif decide ((t10:Int)<t9) then
  (idx t8 t10).bind fun x1=>
  bif x1.toBool then
  (C Gj [.int .i64 (IntKind.wrap .i64 (t10+offset)),.int .i64 bH,.int .i64 bx,.int .u64 bI,.int .u64 bD,.list aj dx]).bind fun r2=>
  kn (IntKind.wrap .i64 (t10+1),(V.nth r2 0).toInt,(V.nth (r2.drop 1) 0).toInt,(V.nth ((r2.drop 1).drop 1) 0).toInt,(V.nth (((r2.drop 1).drop 1).drop 1) 0).toInt,(V.nth (r2.drop 4) 0).toList)
  else
  kn (IntKind.wrap .i64 (t10+1),bH,bx,bI,bD,dx)
 else
  kr (t10,decide ((t10:Int)<t9),bH,bx,bI,bD,dx)
noncomputable def Po (C:ae) (offset:Int) (t8:List V) (t9:Int):(Int × Int × Int × Int × Int × (List V))→Option ((Int × Int × Int × Int × Int × (List V)) ⊕ (Int × Bool × Int × Int × Int × Int × (List V))):=un fun t10=>un fun bH=>un fun bx=>un fun bI=>un fun bD dx=>Dn C offset t8 t9 t10 bH bx bI bD dx (fun y=>some (.inl y)) (fun r=>some (.inr r))
noncomputable def Yx (C:ae):b6:=fun β n ds k=>
 bif Nat.beq n 17 then bd Ll [false,false,false,true,true,true,true,true,true] [[1,2,3,0,0,0,0,0,0,0]] (@Dn C) ds k else
 none
abbrev aiY (C:ae) (b:bY):Prop:=bZ Tryd.prog aq C (Yx C) 64 (cm Tryd.prog (aq.aO 64)) (aq.sin 64).aW.length b
theorem aiZ (C:ae):aiY C (.loop (an [1,0,0] Yw)):=
 bh Ll [false,false,false,true,true,true,true,true,true] [[1,2,3,0,0,0,0,0,0,0]] (@Dn C) (by kernel_rfl) (aI (bs:=[]) (by kernel_rfl) ao) (fun ds=>by kernel_rfl) (fun i x=>by kernel_rfl) (fun i x β k=>by kernel_rfl) (fun β ds k=>by kernel_rfl)
noncomputable def Yy (C:ae) (final:List V) (offset bH bx bI bD:Int) (bE:List V):Option (List V):=
 (Loop (Po C offset final (final.length:Int)) (0,bH,bx,bI,bD,bE)).bind (un fun (jN:Int)=>un fun (iX:Bool)=>un fun (ai0:Int)=>un fun (Pp:Int)=>un fun (Dp:Int)=>un fun (Dq:Int) (b_9:List V)=>
  some [.int .i64 ai0,.int .i64 Pp,.int .u64 Dp,.int .u64 Dq,.list aj b_9])
theorem ai1 {final:List V} {offset bH bx bI bD:Int} {bE:List V} {r:Option (List V)} (h:Yy CC final offset bH bx bI bD bE=r):CC Gi [.list aD final,.int .i64 offset,.int .i64 bH,.int .i64 bx,.int .u64 bI,.int .u64 bD,.list aj bE]=r:=
 bf (key:=64) (L:=Yx CC) (bs:=[.loop (an [1,0,0] Yw)]) (by kernel_rfl) (aU (aiZ CC) ao) (Eq.trans (by kernel_rfl) h)
noncomputable abbrev H8:Code:=ch Tryd.prog (aq.aO 73)
noncomputable def Dr (C:ae) (offset p:Int) (t11:List V) (t12 t13:Int) (t18:List V) (t19 t20 bH bx bI bD:Int) (dx:List V) {β:Type} (kn:(Int × Int × Int × Int × Int × (List V))→Option β) (kr:(Int × Bool × Int × Int × Int × Int × (List V))→Option β):Option β:=
 bif decide ((t20:Int)<t19) then
  (idx t18 t20).bind fun x2=>
  (C Ay [.int .i64 (IntKind.wrap .i64 (p+offset)),.int .i64 t20,.int .i64 (IntKind.wrap .i64 (x2.toInt+offset)),.int .i64 bH,.int .i64 bx,.int .u64 bI,.int .u64 bD,.list aj dx]).bind fun r3=>
  kn (IntKind.wrap .i64 (t20+1),(V.nth r3 0).toInt,(V.nth (r3.drop 1) 0).toInt,(V.nth ((r3.drop 1).drop 1) 0).toInt,(V.nth (((r3.drop 1).drop 1).drop 1) 0).toInt,(V.nth (r3.drop 4) 0).toList)
 else
  kr (t20,decide ((t20:Int)<t19),bH,bx,bI,bD,dx)
noncomputable def Pq (C:ae) (offset p:Int) (t11:List V) (t12 t13:Int) (t18:List V) (t19:Int):(Int × Int × Int × Int × Int × (List V))→Option ((Int × Int × Int × Int × Int × (List V)) ⊕ (Int × Bool × Int × Int × Int × Int × (List V))):=un fun t20=>un fun bH=>un fun bx=>un fun bI=>un fun bD dx=>Dr C offset p t11 t12 t13 t18 t19 t20 bH bx bI bD dx (fun y=>some (.inl y)) (fun r=>some (.inr r))
noncomputable def Ds (C:ae) (offset:Int) (t11:List V) (t12 t13 bH bx bI bD:Int) (dx:List V) {β:Type} (kn:(Int × Int × Int × Int × Int × (List V))→Option β) (kr:(Int × Bool × Int × Int × Int × Int × (List V))→Option β):Option β:=
 bif decide ((t13:Int)<t12) then
  (idx t11 t13).bind fun x1=>
  (Loop (Pq C offset t13 t11 t12 t13 x1.toList (x1.toList.length:Int)) (0,bH,bx,bI,bD,dx)).bind (un fun (iX:Int)=>un fun (lP:Bool)=>un fun (Pp:Int)=>un fun (Dp:Int)=>un fun (Dq:Int)=>un fun (Pr:Int) (HO:List V)=>
   kn (IntKind.wrap .i64 (t13+1),Pp,Dp,Dq,Pr,HO))
 else
  kr (t13,decide ((t13:Int)<t12),bH,bx,bI,bD,dx)
noncomputable def Ps (C:ae) (offset:Int) (t11:List V) (t12:Int):(Int × Int × Int × Int × Int × (List V))→Option ((Int × Int × Int × Int × Int × (List V)) ⊕ (Int × Bool × Int × Int × Int × Int × (List V))):=un fun t13=>un fun bH=>un fun bx=>un fun bI=>un fun bD dx=>Ds C offset t11 t12 t13 bH bx bI bD dx (fun y=>some (.inl y)) (fun r=>some (.inr r))
noncomputable def Yz (C:ae):b6:=fun β n ds k=>
 bif Nat.beq n 81 then bd Lm [false,false,false,false,false,false,false,true,true,true,true,true,true] [[1,2,3,4,5,6,7,0,0,0,0,0,0,0]] (@Dr C) ds k else
 bif Nat.beq n 33 then bd Ln [false,false,false,true,true,true,true,true,true] [[1,2,3,0,0,0,0,0,0,0]] (@Ds C) ds k else
 none
abbrev YA (C:ae) (b:bY):Prop:=bZ Tryd.prog aq C (Yz C) 73 (cm Tryd.prog (aq.aO 73)) (aq.sin 73).aW.length b
theorem ai2 (C:ae):YA C (.loop (an [1,1,0,0,1,1,0,0,1,1,0,0] H8)):=
 bh Lm [false,false,false,false,false,false,false,true,true,true,true,true,true] [[1,2,3,4,5,6,7,0,0,0,0,0,0,0]] (@Dr C) (by kernel_rfl) (aI (bs:=[]) (by kernel_rfl) ao) (fun ds=>by kernel_rfl) (fun i x=>by kernel_rfl) (fun i x β k=>by kernel_rfl) (fun β ds k=>by kernel_rfl)
theorem ai3 (C:ae):YA C (.loop (an [1,1,0,0] H8)):=
 bh Ln [false,false,false,true,true,true,true,true,true] [[1,2,3,0,0,0,0,0,0,0]] (@Ds C) (by kernel_rfl) (aI (bs:=[.loop (an [1,1,0,0,1,1,0,0,1,1,0,0] H8)]) (by kernel_rfl) (aU (ai2 C) ao)) (fun ds=>by kernel_rfl) (fun i x=>by kernel_rfl) (fun i x β k=>by kernel_rfl) (fun β ds k=>by kernel_rfl)
noncomputable def YB (C:ae) (aJ aP:Int) (aF aM:List V) (offset bH bx bI bD:Int) (bE:List V):Option (List V):=
 (Loop (Ps C offset aM (aM.length:Int)) (0,bH,bx,bI,bD,bE)).bind (un fun (NO:Int)=>un fun (xK:Bool)=>un fun (ai4:Int)=>un fun (Pt:Int)=>un fun (Pu:Int)=>un fun (Pv:Int) (BD:List V)=>
  some [.int .i64 ai4,.int .i64 Pt,.int .u64 Pu,.int .u64 Pv,.list aj BD])
theorem ai5 {aJ aP:Int} {aF aM:List V} {offset bH bx bI bD:Int} {bE:List V} {r:Option (List V)} (h:YB CC aJ aP aF aM offset bH bx bI bD bE=r):CC Gk [.int .i64 aJ,.int .i64 aP,.list aD aF,.list aG aM,.int .i64 offset,.int .i64 bH,.int .i64 bx,.int .u64 bI,.int .u64 bD,.list aj bE]=r:=
 bf (key:=73) (L:=Yz CC) (bs:=[.loop (an [1,1,0,0] H8)]) (by kernel_rfl) (aU (ai3 CC) ao) (Eq.trans (by kernel_rfl) h)
def eQ (p x q:Nat):Ed:=⟨(p:Int),(x:Int),(q:Int)⟩
def aN (L S:Nat) (st fin:Nat) (l:List Ed):List V:=[.int .i64 (L:Int),.int .i64 (S:Int),.int .u64 (st:Int),.int .u64 (fin:Int),.list aj (l.map Ed.enc)]
def fm (n:Nat) (g:Nat→List Ed):List Ed:=(List.range n).flatMap g
theorem ai6 {g:Nat→List Ed}:fm 0 g=[]:=rfl
theorem yu {n:Nat} {g:Nat→List Ed}:fm (n+1) g=fm n g++g n:=by simp[fm,List.range_succ]
theorem Pw {n:Nat} {g:Nat→List Ed} {e:Ed}:e∈fm n g↔∃i,i<n∧e∈g i:=by simp[fm]
theorem Px {n k:Nat} {g:Nat→List Ed} (h: ∀i,i<n→(g i).length≤k):(fm n g).length≤n*k:=by
 induction n with
 | zero=>simp[fm]
 | succ n ih=>
  rw[yu,List.length_append,Nat.succ_mul]
  have:=ih fun i hi=>h i (by omega)
  have:=h n (by omega)
  omega
theorem tf {X R:Type} {step:X→Option (X ⊕ R)} (n:Nat) (s:Nat→X) (r:R) {x:X} (hx:x=s 0) (h: ∀i,i<n→step (s i)=some (.inl (s (i+1)))) (he:step (s n)=some (.inr r)):Loop step x=some r:=by rw[hx];exact fu n s r h he
theorem Py {a b:Nat} (h:a+b≤1000000000):IntKind.wrap .i64 ((a:Int)+(b:Int))=((a+b:Nat):Int):=by rw[wrap64 (by omega) (by omega)];omega
theorem YC {l:List Ed} {p x q:Nat}:l.map Ed.enc++[V.agg [.int .i64 (p:Int),.int .i64 (x:Int),.int .i64 (q:Int)]]=(l++[eQ p x q]).map Ed.enc:=by simp[eQ,Ed.enc]
section
variable {L S st fin:Nat} {l:List Ed}
theorem YD {p x q:Nat} (h:l.length≤1000000):CC Ay [.int .i64 (p:Int),.int .i64 (x:Int),.int .i64 (q:Int),.int .i64 (L:Int),.int .i64 (S:Int),.int .u64 (st:Int),.int .u64 (fin:Int),.list aj (l.map Ed.enc)]=some (aN L S st fin (l++[eQ p x q])):=by
 refine aiV ?_
 unfold Yt
 refine bT (cap (by simp;omega) (by omega)) ?_
 rw[YC];rfl
theorem ai7 {q:Nat} (hq:q<64) (hs:st<2^64):CC Gh [.int .i64 (q:Int),.int .i64 (L:Int),.int .i64 (S:Int),.int .u64 (st:Int),.int .u64 (fin:Int),.list aj (l.map Ed.enc)]=some (aN L S (st|||2^q) fin l):=by
 refine aiW ?_
 unfold Yu
 refine bT (decide_eq_true (by omega)) ?_
 rw[Int.toNat_natCast,uO hq,u64_or hs (Nat.pow_lt_pow_right (by omega) hq)];rfl
theorem ai8 {q:Nat} (hq:q<64) (hs:fin<2^64):CC Gj [.int .i64 (q:Int),.int .i64 (L:Int),.int .i64 (S:Int),.int .u64 (st:Int),.int .u64 (fin:Int),.list aj (l.map Ed.enc)]=some (aN L S st (fin|||2^q) l):=by
 refine aiX ?_
 unfold Yv
 refine bT (decide_eq_true (by omega)) ?_
 rw[Int.toNat_natCast,uO hq,u64_or hs (Nat.pow_lt_pow_right (by omega) hq)];rfl
theorem ai9 (h:S≤64):CC Gg [.int .i64 (L:Int),.int .i64 (S:Int)]=some (.bool false::aN L S 0 0 []):=by
 refine aiU ?_
 unfold Ys
 exact bF (decide_eq_false (by omega)) rfl
def ei (fin:Nat) (f:Nat→Bool) (off:Nat):Nat→Nat
 | 0=>fin
 | i+1=>if f i=true then ei fin f off i|||2^(i+off) else ei fin f off i
theorem Pz {f:Nat→Bool} {off:Nat}: ∀{n j:Nat},(ei fin f off n).testBit j=(fin.testBit j||(decide (off≤j∧j<n+off)&&f (j-off)))
 | 0,j=>by
  rw[decide_eq_false (by omega)];simp[ei]
 | n+1,j=>by
  unfold ei
  by_cases hf:f n=true
  ·rw[if_pos hf,Nat.testBit_or,Pz,Nat.testBit_two_pow]
   by_cases hj:j=n+off
   ·subst hj
    rw[decide_eq_true (p:=n+off=n+off) rfl,decide_eq_true (p:=off≤n+off∧n+off<n+1+off) (by omega),show n+off-off=n by omega,hf];simp
   ·rw[decide_eq_false (p:=n+off=j) (by omega)]
    have:(off≤j∧j<n+off)↔(off≤j∧j<n+1+off):=by omega
    simp only[this,Bool.or_false]
  ·rw[if_neg hf,Pz]
   by_cases hj:j=n+off
   ·subst hj
    rw[show n+off-off=n by omega,Bool.eq_false_iff.2 hf];simp
   ·have:(off≤j∧j<n+off)↔(off≤j∧j<n+1+off):=by omega
    simp only[this]
theorem yv {f:Nat→Bool} {off k:Nat} (hf:fin<2^k): ∀{n:Nat},n+off≤k→ei fin f off n<2^k
 | 0,_=>hf
 | n+1,h=>by
  unfold ei
  have ih:=yv (f:=f) (off:=off) hf (n:=n) (by omega)
  split
  ·exact Nat.or_lt_two_pow ih (Nat.pow_lt_pow_right (by omega) (by omega))
  ·exact ih
theorem aja {n off:Nat} {f:Nat→Bool} (ho:n+off≤64) (hs:fin<2^64):CC Gi [.list aD (bV n f),.int .i64 (off:Int),.int .i64 (L:Int),.int .i64 (S:Int),.int .u64 (st:Int),.int .u64 (fin:Int),.list aj (l.map Ed.enc)]=some (aN L S st (ei fin f off n) l):=by
 refine ai1 ?_
 unfold Yy
 rw[show (bV n f).length=n from ft]
 refine bs (fu n (fun i=>((i:Int),(L:Int),(S:Int),(st:Int),(ei fin f off i:Int),l.map Ed.enc)) ((n:Int),false,(L:Int),(S:Int),(st:Int),(ei fin f off n:Int),l.map Ed.enc) (fun i hi=> ?_) ?_) ?_
 ·simp only[Po,Dn,un]
  refine bT (er hi) ?_
  refine bs (pN hi) ?_
  have aX:=yv (f:=f) (off:=off) hs (n:=i) (by omega)
  cases hf:f i with
  | true=>
   refine bT rfl ?_
   rw[Py (by omega)]
   refine bs (ai8 (by omega) aX) ?_
   rw[dI (by omega),show ei fin f off (i+1)=ei fin f off i|||2^(i+off) from if_pos hf]
   rfl
  | false=>
   refine bF rfl ?_
   rw[dI (by omega),show ei fin f off (i+1)=ei fin f off i from if_neg (by rw[hf];simp)]
 ·simp only[Po,Dn,un]
  refine bF (bM (Nat.le_refl _)) ?_
  rw[bM (Nat.le_refl _)]
 ·rfl
def kz (a:Da) (off p:Nat):List Ed:=tab a.L fun x=>eQ (p+off) x (a.nx p x+off)
def dh (a:Da) (off:Nat):List Ed:=fm a.n (kz a off)
theorem PA {a:Da} {off:Nat} {e:Ed}:e∈dh a off↔∃p x,p<a.n∧x<a.L∧e=eQ (p+off) x (a.nx p x+off):=by
 unfold dh kz
 rw[Pw]
 constructor
 ·rintro ⟨p,hp,he⟩
  obtain ⟨x,hx,rfl⟩:=ry.1 he
  exact ⟨p,x,hp,hx,rfl⟩
 ·rintro ⟨p,x,hp,hx,rfl⟩
  exact ⟨p,hp,ry.2 ⟨x,hx,rfl⟩⟩
theorem vB {a:Da} (h:a.Ok) {off:Nat} {n:Nat}:(fm n (kz a off)).length≤n*6:=Px fun p _=>by unfold kz;rw[ft];exact h.l6
theorem ajb {a:Da} (h:a.Ok) {off:Nat} (ho:off≤1000) (hl:l.length≤100000):CC Gk (lS a [.int .i64 (off:Int),.int .i64 (L:Int),.int .i64 (S:Int),.int .u64 (st:Int),.int .u64 (fin:Int),.list aj (l.map Ed.enc)])=some (aN L S st fin (l++dh a off)):=by
 have hn:=h.eP
 have h6:=h.l6
 refine ai5 ?_
 unfold YB
 rw[show a.cQ.length=a.n from ft]
 refine bs (tf a.n (fun i=>((i:Int),(L:Int),(S:Int),(st:Int),(fin:Int),(l++fm i (kz a off)).map Ed.enc)) ((a.n:Int),false,(L:Int),(S:Int),(st:Int),(fin:Int),(l++dh a off).map Ed.enc) (by rw[ai6,List.append_nil];rfl) (fun p hp=> ?_) ?_) ?_
 ·have hlen:=vB h (off:=off) (n:=p)
  simp only[Ps,Ds,un]
  refine bT (er hp) ?_
  refine bs (pN hp) ?_
  rw[show (gN a.L (a.nx p)).toList=tab a.L fun x=>nV (a.nx p x) from rfl,ft]
  refine bs (tf a.L (fun i=>((i:Int),(L:Int),(S:Int),(st:Int),(fin:Int),((l++fm p (kz a off))++tab i fun x=>eQ (p+off) x (a.nx p x+off)).map Ed.enc)) ((a.L:Int),false,(L:Int),(S:Int),(st:Int),(fin:Int),((l++fm p (kz a off))++kz a off p).map Ed.enc) (by rw[Nl,List.append_nil];rfl) (fun x hx=> ?_) ?_) ?_
  ·have hq:=h.gk hp hx
   simp only[Pq,Dr,un]
   refine bT (er hx) ?_
   refine bs (pN hx) ?_
   rw[show (nV (a.nx p x)).toInt=((a.nx p x:Nat):Int) from rfl,Py (by omega),Py (by omega)]
   refine bs (YD (by rw[List.length_append,List.length_append,ft];omega)) ?_
   rw[dI (by omega),rv,←List.append_assoc]
   rfl
  ·simp only[Pq,Dr,un]
   refine bF (bM (Nat.le_refl _)) ?_
   rw[bM (Nat.le_refl _)]
   rfl
  ·simp only[un]
   rw[dI (by omega),yu,←List.append_assoc]
 ·simp only[Ps,Ds,un]
  refine bF (bM (Nat.le_refl _)) ?_
  rw[bM (Nat.le_refl _)]
  rfl
 ·rfl
end
noncomputable def YE (C:ae) (aJ aP:Int) (aF aM:List V):Option (List V):=
 (C py [.int .i64 aJ,.int .i64 aP,.list aD aF,.list aG aM]).bind fun r1=>
 bif (((V.nth r1 0).toInt):Int) != 0 then
  some [.int .i64 0,.int .i64 0,.int .i64 ((V.nth r1 0).toInt),.list aD ([]:List V),.list aG ([]:List V)]
 else
  (C qT [.int .i64 aJ,.int .i64 aP,.list aD aF,.list aG aM]).bind fun r2=>
  some [.int .i64 ((V.nth r2 0).toInt),.int .i64 ((V.nth (r2.drop 1) 0).toInt),.int .i64 0,.list aD ((V.nth (r2.drop 2) 0).toList),.list aG ((V.nth ((r2.drop 2).drop 1) 0).toList)]
theorem ajc {aJ aP:Int} {aF aM:List V} {r:Option (List V)} (h:YE CC aJ aP aF aM=r):CC sN [.int .i64 aJ,.int .i64 aP,.list aD aF,.list aG aM]=r:=
 bf (key:=56) (L:=dq) (bs:=[]) (by kernel_rfl) ao (Eq.trans (by kernel_rfl) h)
noncomputable def YF (C:ae) (aJ aP:Int) (aF aM:List V) (eP:Int):Option (List V):=
 bif decide (((aF.length:Int):Int)≤eP) then
  (C F7 [.int .i64 aJ,.int .i64 aP,.list aD aF,.list aG aM]).bind fun r1=>
  some [.bool ((((V.nth r1 0).toInt):Int)==0)]
 else
  some [.bool false]
theorem ajd {aJ aP:Int} {aF aM:List V} {eP:Int} {r:Option (List V)} (h:YF CC aJ aP aF aM eP=r):CC Gc [.int .i64 aJ,.int .i64 aP,.list aD aF,.list aG aM,.int .i64 eP]=r:=
 bf (key:=45) (L:=dq) (bs:=[]) (by kernel_rfl) ao (Eq.trans (by kernel_rfl) h)
theorem lp {a:Da} (h:a.Ok):(minD a).Ok:=(xL h).ok
theorem ng {a:Da} (h:a.Ok):(minD a).L=a.L:=(xL h).hL
theorem aje {a:Da} (h:a.Ok):(minD a).st=0:=(xL h).st
theorem pY {a:Da} (h:a.Ok) {w:List Nat} (hw:WL a.L w):(minD a).acc (minD a).st w=a.acc a.st w:=by
 rw[aje h];exact (xL h).lR w hw
theorem YG {a:Da} (h:a.Ok):(minD a).n≤a.n:=by
 obtain ⟨p,_,c2,_⟩:=ahs h
 rw[←B9 h (Da.WM h c2)]
 have h1:=(Da.Nz h c2).pM (a.quo p).n
 have h2:(a.quo p).trim.n=(av (a.quo p).L (a.quo p).nx (a.quo p).st (a.quo p).n).length:=mQ
 rw[h2]
 refine Nat.le_trans h1 ?_
 rw[Da.rE]
 exact W4 p a.n
theorem YH {a b:Da} (ha:a.Ok) (hb:b.Ok) (hL:a.L=b.L) (hl: ∀w,WL a.L w→a.acc a.st w=b.acc b.st w):minD a=minD b:=
 B9 hb (hL▸Canon.congr (xL ha) hl)
theorem YI {a:Da} (ha:a.Ok):minD (minD a)=minD a:=
 YH (lp ha) ha (ng ha) fun w hw=>pY ha (by rwa [ng ha] at hw)
theorem yw {a:Da} (h:a.Ok):CC sN (eI a)=some (kX (minD a) 0):=by
 refine ajc ?_
 unfold YE
 refine bs (uU h) (bF rfl ?_)
 refine bs (Cc h) ?_
 rfl
theorem ajf {d:Df} (h:d.Ok) (m:Int):CC Gc (rY d [.int .i64 m])=some [.bool (decide ((d.F.length:Int)≤m∧d.val=0))]:=by
 refine ajd ?_
 unfold YF
 rw[List.length_map]
 by_cases h1:(d.F.length:Int)≤m
 ·refine bT (decide_eq_true h1) ?_
  refine bs (afa h) ?_
  refine congrArg (fun x=>some [V.bool x]) ?_
  rw[Bool.eq_iff_iff]
  simp[h1]
 ·refine bF (decide_eq_false h1) ?_
  rw[decide_eq_false fun h=>h1 h.1]
def iD (E:List Ed):Nat→List Nat→Nat→Prop
 | i,[],k=>i=k
 | i,x::w,k=> ∃j,eQ i x j∈E∧iD E j w k
theorem iD.ext {A B:List Ed} (h: ∀e,e∈A→e∈B): ∀{w:List Nat} {i k:Nat},iD A i w k→iD B i w k
 | [],_,_,p=>p
 | _::_,_,_,⟨j,h1,h2⟩=>⟨j,h _ h1,iD.ext h h2⟩
theorem iD.app {E:List Ed}: ∀{v w:List Nat} {i k:Nat},iD E i (v++w) k↔∃j,iD E i v j∧iD E j w k
 | [],w,i,k=>by simp[iD]
 | x::v,w,i,k=>by
  simp only[List.cons_append,iD]
  constructor
  ·rintro ⟨j,h1,h2⟩
   obtain ⟨m,h3,h4⟩:=iD.app.1 h2
   exact ⟨m,⟨j,h1,h3⟩,h4⟩
  ·rintro ⟨m,⟨j,h1,h3⟩,h4⟩
   exact ⟨j,h1,iD.app.2 ⟨m,h3,h4⟩⟩
theorem YJ {p x q p' x' q':Nat}:eQ p x q=eQ p' x' q'↔p=p'∧x=x'∧q=q':=by
 unfold eQ
 simp only[Ed.mk.injEq]
 omega
theorem ajg {e:Ed} (h1:0≤e.f) (h2:0≤e.l) (h3:0≤e.t):e=eQ e.f.toNat e.l.toNat e.t.toNat:=by
 unfold eQ
 cases e
 simp only[Ed.mk.injEq] at*
 omega
theorem PB {E:List Ed} (hE: ∀e∈E,0≤e.f∧0≤e.l∧0≤e.t): ∀(w:List Nat) (s k:Nat),(w.foldl (sn E) s).testBit k=true↔∃i,s.testBit i=true∧iD E i w k
 | [],s,k=>by simp[iD]
 | x::w,s,k=>by
  rw[List.foldl_cons,PB hE w]
  constructor
  ·rintro ⟨j,h1,h2⟩
   unfold sn at h1
   rw[Ba,List.any_eq_true] at h1
   obtain ⟨e,he,h3⟩:=h1
   simp only[Bool.and_eq_true,decide_eq_true_eq] at h3
   obtain ⟨c1,c2,c3⟩:=hE e he
   refine ⟨e.f.toNat,h3.2.1,j,?_,h2⟩
   have:e=eQ e.f.toNat x j:=by
    rw[ajg c1 c2 c3]
    rw[YJ]
    simp only[eQ,Int.toNat_natCast]
    exact ⟨trivial,by omega,h3.2.2⟩
   exact this▸he
  ·rintro ⟨i,h1,j,h2,h3⟩
   refine ⟨j,?_,h3⟩
   unfold sn
   rw[Ba,List.any_eq_true]
   refine ⟨_,h2,?_⟩
   simp only[Bool.and_eq_true,decide_eq_true_eq,eQ,Int.toNat_natCast]
   exact ⟨trivial,h1,trivial⟩
theorem ajh {fin s:Nat}:sf fin s=true↔∃k,s.testBit k=true∧fin.testBit k=true:=by
 unfold sf
 rw[Bool.not_eq_true',beq_eq_false_iff_ne]
 constructor
 ·intro h
  obtain ⟨k,hk⟩:=Nat.exists_testBit_of_ne_zero h
  rw[Nat.testBit_and,Bool.and_eq_true] at hk
  exact ⟨k,hk⟩
 ·rintro ⟨k,h1,h2⟩ h0
  have:(s&&&fin).testBit k=true:=by rw[Nat.testBit_and,h1,h2];rfl
  rw[h0,Nat.zero_testBit] at this
  cases this
def oS (st fin:Nat) (l:List Ed) (w:List Nat):Prop:= ∃i k,st.testBit i=true∧fin.testBit k=true∧iD l i w k
section
variable {L S st fin:Nat} {l:List Ed} (h:te L S st fin l)
include h
theorem aji (hn: ¬iB (dD L S st fin l) L S):(iC (dD L S st fin l) L S).Ok:=by
 unfold iC
 rw[if_neg hn]
 exact lp (xO (nR h) hn)
theorem ajj (hn: ¬iB (dD L S st fin l) L S):(iC (dD L S st fin l) L S).L=L:=by
 unfold iC
 rw[if_neg hn]
 exact ng (xO (nR h) hn)
theorem ajk (hn: ¬iB (dD L S st fin l) L S) {w:List Nat} (hw:WL L w):(iC (dD L S st fin l) L S).acc (iC (dD L S st fin l) L S).st w=true↔oS st fin l w:=by
 have aw:=xO (nR h) hn
 unfold iC
 rw[if_neg hn,pY aw hw,show (iZ (dD L S st fin l) L S).st=0 from rfl,ag4 (nR h) hw]
 show sf fin (w.foldl (sn (pT l)) st)=true↔_
 have hE: ∀e∈pT l,0≤e.f∧0≤e.l∧0≤e.t:=fun e he=>by
  have:=h.E e (u4.1 he)
  unfold Ed.In at this
  exact ⟨this.1,this.2.2.2.2.1,this.2.2.1⟩
 rw[ajh]
 unfold oS
 constructor
 ·rintro ⟨k,h1,h2⟩
  obtain ⟨i,h3,h4⟩:=(PB hE w st k).1 h1
  exact ⟨i,k,h3,h2,h4.ext fun e he=>u4.1 he⟩
 ·rintro ⟨i,k,h1,h2,h3⟩
  exact ⟨k,(PB hE w st k).2 ⟨i,h1,h3.ext fun e he=>u4.2 he⟩,h2⟩
theorem ajl (hS:S≤9): ¬iB (dD L S st fin l) L S:=fun ho=>by
 have h1:=xN (nR h) (2^S)
 have h2:2^S≤2^9:=Nat.pow_le_pow_right (by omega) hS
 have h3:(512:Nat)<(av L (sn (dD L S st fin l).E) (dD L S st fin l).st (2^S)).length:=ho
 have h4:(2:Nat)^9=512:=by decide
 omega
end
noncomputable abbrev H9:Code:=ch Tryd.prog (aq.aO 51)
noncomputable def Dt (C:ae) (q t36 t37 t41 bc bn:Int) (bA bz:List V) (dJ dK gm gn:Int) (dt dL cD cv:List V) (t42 bH bx bI bD:Int) (cY:List V) {β:Type} (kn:(Int × Int × Int × Int × Int × (List V))→Option β) (kr:(Int × Bool × Int × Int × Int × Int × (List V))→Option β):Option β:=
 bif decide ((t42:Int)<t41) then
  (C Ay [.int .i64 q,.int .i64 t42,.int .i64 q,.int .i64 bH,.int .i64 bx,.int .u64 bI,.int .u64 bD,.list aj cY]).bind fun r4=>
  kn (IntKind.wrap .i64 (t42+1),(V.nth r4 0).toInt,(V.nth (r4.drop 1) 0).toInt,(V.nth ((r4.drop 1).drop 1) 0).toInt,(V.nth (((r4.drop 1).drop 1).drop 1) 0).toInt,(V.nth (r4.drop 4) 0).toList)
 else
  kr (t42,decide ((t42:Int)<t41),bH,bx,bI,bD,cY)
noncomputable def PC (C:ae) (q t36 t37 t41 bc bn:Int) (bA bz:List V) (dJ dK gm gn:Int) (dt dL cD cv:List V):(Int × Int × Int × Int × Int × (List V))→Option ((Int × Int × Int × Int × Int × (List V)) ⊕ (Int × Bool × Int × Int × Int × Int × (List V))):=un fun t42=>un fun bH=>un fun bx=>un fun bI=>un fun bD cY=>Dt C q t36 t37 t41 bc bn bA bz dJ dK gm gn dt dL cD cv t42 bH bx bI bD cY (fun y=>some (.inl y)) (fun r=>some (.inr r))
noncomputable def Du (C:ae) (t36 bc bn:Int) (bA bz:List V) (dJ dK gm gn:Int) (dt dL cD cv:List V) (t37 bH bx bI bD:Int) (cY:List V) {β:Type} (kn:(Int × Int × Int × Int × Int × (List V))→Option β) (kr:(Int × Bool × Int × Int × Int × Int × (List V))→Option β):Option β:=
 bif decide ((t37:Int)<t36) then
  (Loop (PC C t37 t36 t37 bc bc bn bA bz dJ dK gm gn dt dL cD cv) (0,bH,bx,bI,bD,cY)).bind (un fun (lP:Int)=>un fun (nJ:Bool)=>un fun (Dp:Int)=>un fun (Dq:Int)=>un fun (Pr:Int)=>un fun (ajm:Int) (NF:List V)=>
   kn (IntKind.wrap .i64 (t37+1),Dp,Dq,Pr,ajm,NF))
 else
  kr (t37,decide ((t37:Int)<t36),bH,bx,bI,bD,cY)
noncomputable def PD (C:ae) (t36 bc bn:Int) (bA bz:List V) (dJ dK gm gn:Int) (dt dL cD cv:List V):(Int × Int × Int × Int × Int × (List V))→Option ((Int × Int × Int × Int × Int × (List V)) ⊕ (Int × Bool × Int × Int × Int × Int × (List V))):=un fun t37=>un fun bH=>un fun bx=>un fun bI=>un fun bD cY=>Du C t36 bc bn bA bz dJ dK gm gn dt dL cD cv t37 bH bx bI bD cY (fun y=>some (.inl y)) (fun r=>some (.inr r))
noncomputable def YK (C:ae):b6:=fun β n ds k=>
 bif Nat.beq n 193 then bd Lh [false,false,false,false,true,false,false,false,false,false,false,false,false,true,true,true,true,false,false,false,false,true] [[1,2,3,4,0,0,6,7,8,9,10,11,12,13,0,0,0,0,18,19,20,21,0]] (@Dt C) ds k else
 bif Nat.beq n 145 then bd Li [false,true,false,false,false,false,false,false,false,false,true,true,true,true,false,false,false,false,true] [[1,0,0,3,4,5,6,7,8,9,10,0,0,0,0,15,16,17,18,0]] (@Du C) ds k else
 none
abbrev YL (C:ae) (b:bY):Prop:=bZ Tryd.prog aq C (YK C) 51 (cm Tryd.prog (aq.aO 51)) (aq.sin 51).aW.length b
theorem ajn (C:ae):YL C (.loop (an [1,1,1,1,1,1,0,1,0,0,1,1,0,0,1,1,0,0] H9)):=
 bh Lh [false,false,false,false,true,false,false,false,false,false,false,false,false,true,true,true,true,false,false,false,false,true] [[1,2,3,4,0,0,6,7,8,9,10,11,12,13,0,0,0,0,18,19,20,21,0]] (@Dt C) (by kernel_rfl) (aI (bs:=[]) (by kernel_rfl) ao) (fun ds=>by kernel_rfl) (fun i x=>by kernel_rfl) (fun i x β k=>by kernel_rfl) (fun β ds k=>by kernel_rfl)
theorem ajo (C:ae):YL C (.loop (an [1,1,1,1,1,1,0,1,0,0] H9)):=
 bh Li [false,true,false,false,false,false,false,false,false,false,true,true,true,true,false,false,false,false,true] [[1,0,0,3,4,5,6,7,8,9,10,0,0,0,0,15,16,17,18,0]] (@Du C) (by kernel_rfl) (aI (bs:=[.loop (an [1,1,1,1,1,1,0,1,0,0,1,1,0,0,1,1,0,0] H9)]) (by kernel_rfl) (aU (ajn C) ao)) (fun ds=>by kernel_rfl) (fun i x=>by kernel_rfl) (fun i x β k=>by kernel_rfl) (fun β ds k=>by kernel_rfl)
noncomputable def YM (C:ae) (aJ aP:Int) (aF aM:List V):Option (List V):=
 (C sN [.int .i64 aJ,.int .i64 aP,.list aD aF,.list aG aM]).bind fun r1=>
 bif (((V.nth (r1.drop 2) 0).toInt):Int) != 0 then
  some [.int .i64 0,.int .i64 0,.int .i64 ((V.nth (r1.drop 2) 0).toInt),.list aD ([]:List V),.list aG ([]:List V)]
 else
  (C Gg [.int .i64 aJ,.int .i64 (((V.nth (r1.drop 3) 0).toList).length:Int)]).bind fun r2=>
  bif (V.nth r2 0).toBool then
  some [.int .i64 0,.int .i64 0,.int .i64 3,.list aD ([]:List V),.list aG ([]:List V)]
  else
  (C Gk [.int .i64 ((V.nth r1 0).toInt),.int .i64 ((V.nth (r1.drop 1) 0).toInt),.list aD ((V.nth (r1.drop 3) 0).toList),.list aG ((V.nth ((r1.drop 3).drop 1) 0).toList),.int .i64 0,.int .i64 ((V.nth (r2.drop 1) 0).toInt),.int .i64 ((V.nth ((r2.drop 1).drop 1) 0).toInt),.int .u64 ((V.nth (((r2.drop 1).drop 1).drop 1) 0).toInt),.int .u64 ((V.nth ((((r2.drop 1).drop 1).drop 1).drop 1) 0).toInt),.list aj ((V.nth ((r2.drop 1).drop 4) 0).toList)]).bind fun r3=>
  (Loop (PD C (((V.nth (r1.drop 3) 0).toList).length:Int) aJ aP aF aM 0 0 ((V.nth r1 0).toInt) ((V.nth (r1.drop 1) 0).toInt) ([]:List V) ([]:List V) ((V.nth (r1.drop 3) 0).toList) ((V.nth ((r1.drop 3).drop 1) 0).toList)) (0,(V.nth r3 0).toInt,(V.nth (r3.drop 1) 0).toInt,(V.nth ((r3.drop 1).drop 1) 0).toInt,(V.nth (((r3.drop 1).drop 1).drop 1) 0).toInt,(V.nth (r3.drop 4) 0).toList)).bind (un fun (xK:Int)=>un fun (sW:Bool)=>un fun (Pt:Int)=>un fun (Pu:Int)=>un fun (Pv:Int)=>un fun (ajp:Int) (BE:List V)=>
   (C Gh [.int .i64 ((V.nth (r1.drop 1) 0).toInt),.int .i64 Pt,.int .i64 Pu,.int .u64 Pv,.int .u64 ajp,.list aj BE]).bind fun dz=>
   (C Gi [.list aD ((V.nth (r1.drop 3) 0).toList),.int .i64 0,.int .i64 ((V.nth dz 0).toInt),.int .i64 ((V.nth (dz.drop 1) 0).toInt),.int .u64 ((V.nth ((dz.drop 1).drop 1) 0).toInt),.int .u64 ((V.nth (((dz.drop 1).drop 1).drop 1) 0).toInt),.list aj ((V.nth (dz.drop 4) 0).toList)]).bind fun dv=>
   (C Az [.int .i64 ((V.nth dv 0).toInt),.int .i64 ((V.nth (dv.drop 1) 0).toInt),.int .u64 ((V.nth ((dv.drop 1).drop 1) 0).toInt),.int .u64 ((V.nth (((dv.drop 1).drop 1).drop 1) 0).toInt),.list aj ((V.nth (dv.drop 4) 0).toList)]).bind fun nc=>
   some [.int .i64 ((V.nth nc 0).toInt),.int .i64 ((V.nth (nc.drop 1) 0).toInt),.int .i64 ((V.nth (nc.drop 2) 0).toInt),.list aD ((V.nth ((nc.drop 3).drop 5) 0).toList),.list aG ((V.nth (((nc.drop 3).drop 5).drop 1) 0).toList)])
theorem ajq {aJ aP:Int} {aF aM:List V} {r:Option (List V)} (h:YM CC aJ aP aF aM=r):CC Ge [.int .i64 aJ,.int .i64 aP,.list aD aF,.list aG aM]=r:=
 bf (key:=51) (L:=YK CC) (bs:=[.loop (an [1,1,1,1,1,1,0,1,0,0] H9)]) (by kernel_rfl) (aU (ajo CC) ao) (Eq.trans (by kernel_rfl) h)
theorem YN {p x q L S:Nat} (hp:p<S) (hx:x<L) (hq:q<S):(eQ p x q).In (L:Int) (S:Int):=by unfold Ed.In eQ;simp only;omega
theorem PE {a:Da} (h:a.Ok) {off S:Nat} (hs:a.n+off≤S) {e:Ed} (he:e∈dh a off):e.In (a.L:Int) (S:Int):=by
 obtain ⟨p,x,hp,hx,rfl⟩:=PA.1 he
 have:=h.gk hp hx
 exact YN (by omega) hx (by omega)
def jY (L n:Nat):List Ed:=fm n fun q=>tab L fun x=>eQ q x q
theorem ajr {L n:Nat} {e:Ed}:e∈jY L n↔∃q x,q<n∧x<L∧e=eQ q x q:=by
 unfold jY
 rw[Pw]
 constructor
 ·rintro ⟨p,hp,he⟩
  obtain ⟨x,hx,rfl⟩:=ry.1 he
  exact ⟨p,x,hp,hx,rfl⟩
 ·rintro ⟨p,x,hp,hx,rfl⟩
  exact ⟨p,hp,ry.2 ⟨x,hx,rfl⟩⟩
def yx (m:Da):Nf:=dD m.L m.n (2^m.st) (ei 0 m.fin 0 m.n) (dh m 0++jY m.L m.n)
theorem YO {m:Da} (h:m.Ok) (hs:m.n≤64):te m.L m.n (2^m.st) (ei 0 m.fin 0 m.n) (dh m 0++jY m.L m.n) where
 l1:=h.l1
 l6:=h.l6
 pK:=hs
 st:=Nat.pow_lt_pow_right (by omega) h.s
 fin:=yv (Nat.two_pow_pos _) (by omega)
 E:=fun e he=>by
  rcases List.mem_append.1 he with he|he
  ·exact PE h (by omega) he
  ·obtain ⟨p,x,hp,hx,rfl⟩:=ajr.1 he
   exact YN (by omega) hx (by omega)
 len:=by
  have h1:=vB h (off:=0) (n:=m.n)
  have h2:(jY m.L m.n).length≤m.n*6:=Px fun p _=>by rw[ft];exact h.l6
  rw[List.length_append]
  unfold dh
  omega
section
variable {a:Da} (h:a.Ok)
include h
theorem ajs (hs:(minD a).n≤64) {X:Da} {e:Int} {n:Nf} (hr:CC Az (aN (minD a).L (minD a).n (2^(minD a).st) (ei 0 (minD a).fin 0 (minD a).n) (dh (minD a) 0++jY (minD a).L (minD a).n))=some (Yp X e n)):CC Ge (eI a)=some (kX X e):=by
 have hm:=lp h
 have h6:=hm.l6
 have hL:=ng h
 have cK:=hm.s
 refine ajq ?_
 unfold YM
 refine bs (yw h) (bF rfl ?_)
 have e0:(V.nth ((kX (minD a) 0).drop 3) 0).toList=(minD a).dg:=rfl
 rw[e0,Da.pO]
 refine bs (ai9 hs) (bF rfl ?_)
 refine bs (ajb (l:=[]) hm (off:=0) (by omega) (by simp)) ?_
 rw[List.nil_append]
 have hlen:=vB hm (off:=0) (n:=(minD a).n)
 refine bs (tf (minD a).n (fun i=>((i:Int),(a.L:Int),((minD a).n:Int),((0:Nat):Int),((0:Nat):Int),(dh (minD a) 0++jY (minD a).L i).map Ed.enc)) (((minD a).n:Int),false,(a.L:Int),((minD a).n:Int),((0:Nat):Int),((0:Nat):Int),(dh (minD a) 0++jY (minD a).L (minD a).n).map Ed.enc) (by rw[show jY (minD a).L 0=[] from rfl,List.append_nil];rfl) (fun q hq=> ?_) ?_) ?_
 ·have rZ:(jY (minD a).L q).length≤q*6:=Px fun p _=>by rw[ft];exact h6
  simp only[PD,Du,un]
  refine bT (er hq) ?_
  refine bs (tf a.L (fun i=>((i:Int),(a.L:Int),((minD a).n:Int),((0:Nat):Int),((0:Nat):Int),((dh (minD a) 0++jY (minD a).L q)++tab i fun x=>eQ q x q).map Ed.enc)) ((a.L:Int),false,(a.L:Int),((minD a).n:Int),((0:Nat):Int),((0:Nat):Int),((dh (minD a) 0++jY (minD a).L q)++tab (minD a).L fun x=>eQ q x q).map Ed.enc) (by rw[Nl,List.append_nil];rfl) (fun x hx=> ?_) ?_) ?_
  ·simp only[PC,Dt,un]
   refine bT (er hx) ?_
   refine bs (YD (by rw[List.length_append,List.length_append,ft];unfold dh;omega)) ?_
   rw[dI (by omega),rv,←List.append_assoc]
   rfl
  ·simp only[PC,Dt,un]
   refine bF (bM (Nat.le_refl _)) ?_
   rw[bM (Nat.le_refl _),hL]
  ·simp only[un]
   rw[dI (by omega),show jY (minD a).L (q+1)=jY (minD a).L q++tab (minD a).L fun x=>eQ q x q from yu,←List.append_assoc]
 ·simp only[PD,Du,un]
  refine bF (bM (Nat.le_refl _)) ?_
  rw[bM (Nat.le_refl _)]
 ·simp only[un]
  refine bs (ai7 (q:=(minD a).st) (by omega) (by omega)) ?_
  refine bs (aja (n:=(minD a).n) (f:=(minD a).fin) (off:=0) (by omega) (by omega)) ?_
  rw[Nat.zero_or]
  rw[hL] at hr
  rw[hL]
  refine bs hr ?_
  rfl
end
theorem YP {q i:Nat}:(2^q).testBit i=true↔i=q:=by rw[Nat.testBit_two_pow,decide_eq_true_eq];exact eq_comm
theorem ajt {f:Nat→Bool} {off n j:Nat}:(ei 0 f off n).testBit j=true↔off≤j∧j<n+off∧f (j-off)=true:=by
 rw[Pz,Nat.zero_testBit,Bool.false_or,Bool.and_eq_true,decide_eq_true_eq,and_assoc]
section
variable {m k:Da} (hm:m.Ok) (hk:k.Ok) (hL:m.L=k.L)
include hm hk hL
end
inductive rV (K:List Nat→Prop):List Nat→Prop
 | nil:rV K []
 | app {u v:List Nat}:u≠[]→K u→rV K v→rV K (u++v)
section
variable {K:List Nat→Prop}
theorem rV.one {w:List Nat} (h:K w):rV K w:=by
 by_cases hw:w=[]
 ·rw[hw];exact .nil
 ·have:=rV.app hw h .nil
  rwa [List.append_nil] at this
theorem rV.ext {K2:List Nat→Prop} {L:Nat} (h: ∀u,WL L u→(K u↔K2 u)) {w:List Nat} (hw:WL L w):rV K w↔rV K2 w:=by
 constructor
 ·intro hr
  induction hr with
  | nil=>exact .nil
  | app g1 g2 _ ih=>exact .app g1 ((h _ (WL.app.1 hw).1).1 g2) (ih (WL.app.1 hw).2)
 ·intro hr
  induction hr with
  | nil=>exact .nil
  | app g1 g2 _ ih=>exact .app g1 ((h _ (WL.app.1 hw).1).2 g2) (ih (WL.app.1 hw).2)
end
section
variable {m:Da} (hm:m.Ok)
include hm
end
section
variable {m:Da} (hm:m.Ok)
include hm
theorem PF: ∀{w:List Nat} {i t:Nat},i<m.n→WL m.L w→(iD (dh m 0) i w t↔t=m.run i w)
 | [],i,t,_,_=>by
  show i=t↔_
  exact eq_comm
 | x::w,i,t,hi,hw=>by
  rw[Da.VA]
  have ih:=PF (w:=w) (i:=m.nx i x) (t:=t) (hm.gk hi hw.head) hw.tail
  constructor
  ·rintro ⟨q,h1,h2⟩
   obtain ⟨p',x',g1,g2,g3⟩:=PA.1 h1
   obtain ⟨rfl,rfl,rfl⟩:=YJ.1 g3
   exact ih.1 h2
  ·intro h
   exact ⟨_,PA.2 ⟨i,x,hi,hw.head,rfl⟩,ih.2 h⟩
omit hm in
theorem YQ {f:Nat→Bool} {t:Nat}:(ei 0 f 0 m.n).testBit t=true↔t<m.n∧f t=true:=by
 rw[ajt,Nat.sub_zero]
 constructor
 ·rintro ⟨_,h2,h3⟩;exact ⟨by omega,h3⟩
 ·rintro ⟨h2,h3⟩;exact ⟨by omega,by omega,h3⟩
end
def Ed.rev (e:Ed):Ed:=⟨e.t,e.l,e.f⟩
@[simp] theorem Ed.rev_rev (e:Ed):e.rev.rev=e:=rfl
theorem aju {p x q:Nat}:(eQ p x q).rev=eQ q x p:=rfl
theorem YR {E:List Ed} {p x q:Nat}:eQ p x q∈E.map Ed.rev↔eQ q x p∈E:=by
 rw[List.mem_map]
 constructor
 ·rintro ⟨e,h1,h2⟩
  have:e=eQ q x p:=by rw[←aju,←h2,Ed.rev_rev]
  rw[←this];exact h1
 ·intro h
  exact ⟨_,h,rfl⟩
theorem Ia {E:List Ed}: ∀{w:List Nat} {i t:Nat},iD (E.map Ed.rev) i w t↔iD E t w.reverse i
 | [],i,t=>by
  show i=t↔t=i
  exact eq_comm
 | x::w,i,t=>by
  rw[List.reverse_cons,iD.app]
  constructor
  ·rintro ⟨q,h1,h2⟩
   exact ⟨q,Ia.1 h2,i,YR.1 h1,rfl⟩
  ·rintro ⟨q,h1,j,h2,h3⟩
   have:j=i:=h3
   subst this
   exact ⟨q,YR.2 h2,Ia.2 h1⟩
theorem ajv {E:List Ed} {st fin:Nat} {w:List Nat}:oS fin st (E.map Ed.rev) w↔oS st fin E w.reverse:=by
 unfold oS
 constructor
 ·rintro ⟨i,k,h1,h2,h3⟩;exact ⟨k,i,h2,h1,Ia.1 h3⟩
 ·rintro ⟨i,k,h1,h2,h3⟩;exact ⟨k,i,h2,h1,Ia.2 h3⟩
theorem WL.rev {L:Nat} {w:List Nat} (h:WL L w):WL L w.reverse:=fun x hx=>h x (List.mem_reverse.1 hx)
def Dv (m:Da):Nf:=dD m.L m.n (ei 0 m.fin 0 m.n) (2^m.st) ((dh m 0).map Ed.rev)
section
variable {m:Da} (hm:m.Ok)
include hm
theorem ajw {w:List Nat} (hw:WL m.L w):oS (2^m.st) (ei 0 m.fin 0 m.n) (dh m 0) w↔m.acc m.st w=true:=by
 unfold oS
 constructor
 ·rintro ⟨i,k,h1,h2,h3⟩
  obtain rfl:=YP.1 h1
  obtain rfl:=(PF hm hm.s hw).1 h3
  exact (YQ.1 h2).2
 ·intro h
  exact ⟨m.st,m.run m.st w,YP.2 rfl,YQ.2 ⟨hm.pL w hm.s hw,h⟩,(PF hm hm.s hw).2 rfl⟩
theorem ajx {w:List Nat} (hw:WL m.L w):oS (ei 0 m.fin 0 m.n) (2^m.st) ((dh m 0).map Ed.rev) w↔m.acc m.st w.reverse=true:=by
 rw[ajv,ajw hm hw.rev]
theorem YS (hs:m.n≤64):te m.L m.n (ei 0 m.fin 0 m.n) (2^m.st) ((dh m 0).map Ed.rev) where
 l1:=hm.l1
 l6:=hm.l6
 pK:=hs
 st:=yv (Nat.two_pow_pos _) (by omega)
 fin:=Nat.pow_lt_pow_right (by omega) hm.s
 E:=fun e he=>by
  obtain ⟨e',h1,rfl⟩:=List.mem_map.1 he
  have:=PE hm (off:=0) (S:=m.n) (by omega) h1
  unfold Ed.In at*
  simp only[Ed.rev]
  omega
 len:=by
  have h1:=vB hm (off:=0) (n:=m.n)
  rw[List.length_map]
  unfold dh
  omega
end
section
variable {m:Da} (hm:m.Ok)
include hm
end
end Go.AM
set_option maxRecDepth 100000
namespace Go.AM
open Go.Proofs
namespace Da
end Da
structure nh (X:Da) (L:Nat) (K:List Nat→Prop):Prop where
 ok:X.Ok
 hL:X.L=L
 min:minD X=X
 lR: ∀w,WL L w→(X.acc X.st w=true↔K w)
theorem nh.eq {X Y:Da} {L:Nat} {K K':List Nat→Prop} (h:nh X L K) (h':nh Y L K') (e: ∀w,WL L w→(K w↔K' w)):X=Y:=by
 rw[←h.min,←h'.min]
 refine YH h.ok h'.ok (h.hL.trans h'.hL.symm) fun w hw=> ?_
 have mE:WL L w:=h.hL▸hw
 rw[Bool.eq_iff_iff,h.lR w mE,h'.lR w mE,e w mE]
theorem nh.ext {X:Da} {L:Nat} {K K':List Nat→Prop} (h:nh X L K) (e: ∀w,WL L w→(K w↔K' w)):nh X L K':=⟨h.ok,h.hL,h.min,fun w hw=>(h.lR w hw).trans (e w hw)⟩
theorem nh.acc {X:Da} {L:Nat} {K:List Nat→Prop} (h:nh X L K) {w:List Nat} (hw:WL L w) {b:Bool} (e:K w↔b=true):X.acc X.st w=b:=by
 rw[Bool.eq_iff_iff,h.lR w hw,e]
theorem PH {a:Da} (h:a.Ok):nh (minD a) a.L (fun w=>a.acc a.st w=true):=⟨lp h,ng h,YI h,fun w hw=>by rw[pY h hw]⟩
section
variable {L S st fin:Nat} {l:List Ed} (h:te L S st fin l)
include h
theorem ajy (hn: ¬iB (dD L S st fin l) L S):nh (iC (dD L S st fin l) L S) L (oS st fin l) where
 ok:=aji h hn
 hL:=ajj h hn
 min:=by
  unfold iC
  rw[if_neg hn]
  exact YI (xO (nR h) hn)
 lR:=fun _ hw=>ajk h hn hw
theorem ajz (hn: ¬iB (dD L S st fin l) L S):(iC (dD L S st fin l) L S).n≤2^S:=by
 have h1:=YG (xO (nR h) hn)
 have h2:=xN (nR h) (2^S)
 have h3:(iZ (dD L S st fin l) L S).n=(iA (dD L S st fin l) L S).length:=mQ
 unfold iC
 rw[if_neg hn]
 unfold iA at h3
 omega
theorem ajA:(vy (dD L S st fin l) L S=0∧nh (iC (dD L S st fin l) L S) L (oS st fin l)∧(iC (dD L S st fin l) L S).n≤2^S)∨(vy (dD L S st fin l) L S=3∧iC (dD L S st fin l) L S=zD∧9<S):=by
 by_cases hn:iB (dD L S st fin l) L S
 ·refine .inr ⟨if_pos hn,if_pos hn,?_⟩
  rcases Nat.lt_or_ge 9 S with c|c
  ·exact c
  ·exact absurd hn (ajl h c)
 ·exact .inl ⟨if_neg hn,ajy h hn,ajz h hn⟩
end
def yz (r:Option (List V)) (L S:Nat) (K:List Nat→Prop):Prop:=(∃X,r=some (kX X 0)∧nh X L K∧X.n≤2^S)∨(r=some (kX zD 3)∧9<S)
theorem yz.of {L S st fin:Nat} {l:List Ed} (h:te L S st fin l) {r:Option (List V)} (e:r=some (kX (iC (dD L S st fin l) L S) (vy (dD L S st fin l) L S))) {K:List Nat→Prop} (hK: ∀w,WL L w→(oS st fin l w↔K w)):yz r L S K:=by
 rcases ajA h with ⟨h1,h2,h3⟩|⟨h1,h2,h3⟩
 ·exact .inl ⟨_,by rw[e,h1],h2.ext hK,h3⟩
 ·exact .inr ⟨by rw[e,h1,h2],h3⟩
theorem yz.small {r:Option (List V)} {L S:Nat} {K:List Nat→Prop} (h:yz r L S K) (hS:S≤9): ∃X,r=some (kX X 0)∧nh X L K∧X.n≤2^S:=by
 rcases h with h|⟨_,h⟩
 ·exact h
 ·omega
end Go.AM
set_option maxRecDepth 100000
namespace Go.AM
open Go.Proofs
noncomputable abbrev Ib:Code:=ch Tryd.prog (aq.aO 125)
noncomputable def yA (C:ae) (a b' i j:Int) (ab:List V) {β:Type} (kn:(Int × (List V))→Option β) (kr:(Int × Bool × (List V))→Option β):Option β:=
 bif decide ((j:Int)>a) then
  bif (decide (0≤j))&&(decide (j<(ab.length:Int))) then
  (ab[(j:Int).toNat]?).bind fun x1=>
  bif (decide (0≤(IntKind.wrap .i64 (j-1))))&&(decide ((IntKind.wrap .i64 (j-1))<(ab.length:Int))) then
   (ab[(IntKind.wrap .i64 (j-1):Int).toNat]?).bind fun x2=>
   (C bp [.int .i64 ((x1.cell 0).toInt),.int .i64 ((x1.cell 1).toInt),.int .i64 ((x1.cell 2).toInt),.int .i64 ((x2.cell 0).toInt),.int .i64 ((x2.cell 1).toInt),.int .i64 ((x2.cell 2).toInt)]).bind fun r3=>
   bif decide ((((V.nth r3 0).toInt):Int)<0) then
   bif (decide (0≤(IntKind.wrap .i64 (j-1))))&&(decide ((IntKind.wrap .i64 (j-1))<(ab.length:Int))) then
    (ab[(IntKind.wrap .i64 (j-1):Int).toNat]?).bind fun x4=>
    bif (decide (0≤j))&&(decide (j<(ab.length:Int))) then
    (ab[(j:Int).toNat]?).bind fun x5=>
    bif (decide (0≤j))&&(decide (j<(ab.length:Int))) then
     (ab[(j:Int).toNat]?).bind fun x6=>
     bif (decide (0≤(IntKind.wrap .i64 (j-1))))&&(decide ((IntKind.wrap .i64 (j-1))<((ab.set ((j:Int).toNat) (.agg [.int .i64 ((x4.cell 0).toInt),.int .i64 ((x4.cell 1).toInt),.int .i64 ((x4.cell 2).toInt)])).length:Int))) then
     ((ab.set ((j:Int).toNat) (.agg [.int .i64 ((x4.cell 0).toInt),.int .i64 ((x4.cell 1).toInt),.int .i64 ((x4.cell 2).toInt)]))[(IntKind.wrap .i64 (j-1):Int).toNat]?).bind fun x7=>
     kn (IntKind.wrap .i64 (j-1),(ab.set ((j:Int).toNat) (.agg [.int .i64 ((x4.cell 0).toInt),.int .i64 ((x4.cell 1).toInt),.int .i64 ((x4.cell 2).toInt)])).set ((IntKind.wrap .i64 (j-1):Int).toNat) (.agg [.int .i64 ((x5.cell 0).toInt),.int .i64 ((x5.cell 1).toInt),.int .i64 ((x5.cell 2).toInt)]))
     else none
    else none
    else none
   else none
   else
   kr (j,decide ((((V.nth r3 0).toInt):Int)<0),ab)
  else none
  else none
 else
  kr (j,false,ab)
noncomputable def yB (C:ae) (a b' i:Int):(Int × (List V))→Option ((Int × (List V)) ⊕ (Int × Bool × (List V))):=un fun j ab=>yA C a b' i j ab (fun y=>some (.inl y)) (fun r=>some (.inr r))
noncomputable def Dw (C:ae) (a b' i:Int) (ab:List V) {β:Type} (kn:(Int × (List V))→Option β) (kr:(Int × Bool × (List V))→Option β):Option β:=
 bif decide ((i:Int)<b') then
  (Loop (yB C a b' i) (i,ab)).bind (un fun (j_8:Int)=>un fun (mT:Bool) (gC:List V)=>
   kn (IntKind.wrap .i64 (i+1),gC))
 else
  kr (i,decide ((i:Int)<b'),ab)
noncomputable def Ic (C:ae) (a b':Int):(Int × (List V))→Option ((Int × (List V)) ⊕ (Int × Bool × (List V))):=un fun i ab=>Dw C a b' i ab (fun y=>some (.inl y)) (fun r=>some (.inr r))
noncomputable def YT (C:ae):b6:=fun β n ds k=>
 bif Nat.beq n 65 then bd L5 [false,false,false,true,true] [[1,2,3,0,0,0]] (@yA C) ds k else
 bif Nat.beq n 17 then bd L7 [false,false,true,true] [[1,2,0,0,0]] (@Dw C) ds k else
 none
abbrev YU (C:ae) (b:bY):Prop:=bZ Tryd.prog aq C (YT C) 125 (cm Tryd.prog (aq.aO 125)) (aq.sin 125).aW.length b
theorem ajB (C:ae):YU C (.loop (an [1,0,0,1,0,0,1,0,0] Ib)):=
 bh L5 [false,false,false,true,true] [[1,2,3,0,0,0]] (@yA C) (by kernel_rfl) (aI (bs:=[]) (by kernel_rfl) ao) (fun ds=>by kernel_rfl) (fun i x=>by kernel_rfl) (fun i x β k=>by kernel_rfl) (fun β ds k=>by kernel_rfl)
theorem ajC (C:ae):YU C (.loop (an [1,0,0] Ib)):=
 bh L7 [false,false,true,true] [[1,2,0,0,0]] (@Dw C) (by kernel_rfl) (aI (bs:=[.loop (an [1,0,0,1,0,0,1,0,0] Ib)]) (by kernel_rfl) (aU (ajB C) ao)) (fun ds=>by kernel_rfl) (fun i x=>by kernel_rfl) (fun i x β k=>by kernel_rfl) (fun β ds k=>by kernel_rfl)
noncomputable def YV (C:ae) (a b':Int) (ab:List V):Option (List V):=
 (Loop (Ic C a b') (IntKind.wrap .i64 (a+1),ab)).bind (un fun (ahK:Int)=>un fun (xK:Bool) (va:List V)=>
  some [.list aj va])
theorem ajD {a b':Int} {ab:List V} {r:Option (List V)} (h:YV CC a b' ab=r):CC w6 [.int .i64 a,.int .i64 b',.list aj ab]=r:=
 bf (key:=125) (L:=YT CC) (bs:=[.loop (an [1,0,0] Ib)]) (by kernel_rfl) (aU (ajC CC) ao) (Eq.trans (by kernel_rfl) h)
noncomputable abbrev yC:Code:=ch Tryd.prog (aq.aO 141)
noncomputable def vC (C:ae) (hi first root child:Int) (t40:Bool) (ab:List V) {β:Type} (kr:(Int)→Option β):Option β:=
 bif t40 then
  kr (IntKind.wrap .i64 (child+1))
 else
  kr child
noncomputable def th (C:ae) (hi first root:Int) (ab:List V) {β:Type} (kn:(Int × (List V))→Option β) (kr:((Int × Int × Bool × (List V)) ⊕ (Int × Int × Bool × (List V)))→Option β):Option β:=
 bif decide (((IntKind.wrap .i64 ((IntKind.wrap .i64 (root*2))+1)):Int)≥hi) then
  kr (.inl (root,IntKind.wrap .i64 ((IntKind.wrap .i64 (root*2))+1),decide (((IntKind.wrap .i64 ((IntKind.wrap .i64 (root*2))+1)):Int)≥hi),ab))
 else
  bif decide (((IntKind.wrap .i64 ((IntKind.wrap .i64 ((IntKind.wrap .i64 (root*2))+1))+1)):Int)<hi) then
  bif (decide (0≤(IntKind.wrap .i64 (first+(IntKind.wrap .i64 ((IntKind.wrap .i64 (root*2))+1))))))&&(decide ((IntKind.wrap .i64 (first+(IntKind.wrap .i64 ((IntKind.wrap .i64 (root*2))+1))))<(ab.length:Int))) then
   (ab[(IntKind.wrap .i64 (first+(IntKind.wrap .i64 ((IntKind.wrap .i64 (root*2))+1))):Int).toNat]?).bind fun x1=>
   bif (decide (0≤(IntKind.wrap .i64 ((IntKind.wrap .i64 (first+(IntKind.wrap .i64 ((IntKind.wrap .i64 (root*2))+1))))+1))))&&(decide ((IntKind.wrap .i64 ((IntKind.wrap .i64 (first+(IntKind.wrap .i64 ((IntKind.wrap .i64 (root*2))+1))))+1))<(ab.length:Int))) then
   (ab[(IntKind.wrap .i64 ((IntKind.wrap .i64 (first+(IntKind.wrap .i64 ((IntKind.wrap .i64 (root*2))+1))))+1):Int).toNat]?).bind fun x2=>
   (C bp [.int .i64 ((x1.cell 0).toInt),.int .i64 ((x1.cell 1).toInt),.int .i64 ((x1.cell 2).toInt),.int .i64 ((x2.cell 0).toInt),.int .i64 ((x2.cell 1).toInt),.int .i64 ((x2.cell 2).toInt)]).bind fun r3=>
   vC C hi first root (IntKind.wrap .i64 ((IntKind.wrap .i64 (root*2))+1)) (decide ((((V.nth r3 0).toInt):Int)<0)) ab (fun (fT:Int)=>
    bif (decide (0≤(IntKind.wrap .i64 (first+root))))&&(decide ((IntKind.wrap .i64 (first+root))<(ab.length:Int))) then
     (ab[(IntKind.wrap .i64 (first+root):Int).toNat]?).bind fun x5=>
     bif (decide (0≤(IntKind.wrap .i64 (first+fT))))&&(decide ((IntKind.wrap .i64 (first+fT))<(ab.length:Int))) then
     (ab[(IntKind.wrap .i64 (first+fT):Int).toNat]?).bind fun x6=>
     (C bp [.int .i64 ((x5.cell 0).toInt),.int .i64 ((x5.cell 1).toInt),.int .i64 ((x5.cell 2).toInt),.int .i64 ((x6.cell 0).toInt),.int .i64 ((x6.cell 1).toInt),.int .i64 ((x6.cell 2).toInt)]).bind fun r7=>
     bif !(decide ((((V.nth r7 0).toInt):Int)<0)) then
      kr (.inr (root,fT,!(decide ((((V.nth r7 0).toInt):Int)<0)),ab))
     else
      bif (decide (0≤(IntKind.wrap .i64 (first+fT))))&&(decide ((IntKind.wrap .i64 (first+fT))<(ab.length:Int))) then
      (ab[(IntKind.wrap .i64 (first+fT):Int).toNat]?).bind fun x8=>
      bif (decide (0≤(IntKind.wrap .i64 (first+root))))&&(decide ((IntKind.wrap .i64 (first+root))<(ab.length:Int))) then
       (ab[(IntKind.wrap .i64 (first+root):Int).toNat]?).bind fun x9=>
       bif (decide (0≤(IntKind.wrap .i64 (first+root))))&&(decide ((IntKind.wrap .i64 (first+root))<(ab.length:Int))) then
       (ab[(IntKind.wrap .i64 (first+root):Int).toNat]?).bind fun eO=>
       bif (decide (0≤(IntKind.wrap .i64 (first+fT))))&&(decide ((IntKind.wrap .i64 (first+fT))<((ab.set ((IntKind.wrap .i64 (first+root):Int).toNat) (.agg [.int .i64 ((x8.cell 0).toInt),.int .i64 ((x8.cell 1).toInt),.int .i64 ((x8.cell 2).toInt)])).length:Int))) then
        ((ab.set ((IntKind.wrap .i64 (first+root):Int).toNat) (.agg [.int .i64 ((x8.cell 0).toInt),.int .i64 ((x8.cell 1).toInt),.int .i64 ((x8.cell 2).toInt)]))[(IntKind.wrap .i64 (first+fT):Int).toNat]?).bind fun dH=>
        kn (fT,(ab.set ((IntKind.wrap .i64 (first+root):Int).toNat) (.agg [.int .i64 ((x8.cell 0).toInt),.int .i64 ((x8.cell 1).toInt),.int .i64 ((x8.cell 2).toInt)])).set ((IntKind.wrap .i64 (first+fT):Int).toNat) (.agg [.int .i64 ((x9.cell 0).toInt),.int .i64 ((x9.cell 1).toInt),.int .i64 ((x9.cell 2).toInt)]))
       else none
       else none
      else none
      else none
     else none
    else none)
   else none
  else none
  else
  vC C hi first root (IntKind.wrap .i64 ((IntKind.wrap .i64 (root*2))+1)) false ab (fun (fU:Int)=>
   bif (decide (0≤(IntKind.wrap .i64 (first+root))))&&(decide ((IntKind.wrap .i64 (first+root))<(ab.length:Int))) then
    (ab[(IntKind.wrap .i64 (first+root):Int).toNat]?).bind fun dW=>
    bif (decide (0≤(IntKind.wrap .i64 (first+fU))))&&(decide ((IntKind.wrap .i64 (first+fU))<(ab.length:Int))) then
    (ab[(IntKind.wrap .i64 (first+fU):Int).toNat]?).bind fun gD=>
    (C bp [.int .i64 ((dW.cell 0).toInt),.int .i64 ((dW.cell 1).toInt),.int .i64 ((dW.cell 2).toInt),.int .i64 ((gD.cell 0).toInt),.int .i64 ((gD.cell 1).toInt),.int .i64 ((gD.cell 2).toInt)]).bind fun jv=>
    bif !(decide ((((V.nth jv 0).toInt):Int)<0)) then
     kr (.inr (root,fU,!(decide ((((V.nth jv 0).toInt):Int)<0)),ab))
    else
     bif (decide (0≤(IntKind.wrap .i64 (first+fU))))&&(decide ((IntKind.wrap .i64 (first+fU))<(ab.length:Int))) then
     (ab[(IntKind.wrap .i64 (first+fU):Int).toNat]?).bind fun db=>
     bif (decide (0≤(IntKind.wrap .i64 (first+root))))&&(decide ((IntKind.wrap .i64 (first+root))<(ab.length:Int))) then
      (ab[(IntKind.wrap .i64 (first+root):Int).toNat]?).bind fun ku=>
      bif (decide (0≤(IntKind.wrap .i64 (first+root))))&&(decide ((IntKind.wrap .i64 (first+root))<(ab.length:Int))) then
      (ab[(IntKind.wrap .i64 (first+root):Int).toNat]?).bind fun xJ=>
      bif (decide (0≤(IntKind.wrap .i64 (first+fU))))&&(decide ((IntKind.wrap .i64 (first+fU))<((ab.set ((IntKind.wrap .i64 (first+root):Int).toNat) (.agg [.int .i64 ((db.cell 0).toInt),.int .i64 ((db.cell 1).toInt),.int .i64 ((db.cell 2).toInt)])).length:Int))) then
       ((ab.set ((IntKind.wrap .i64 (first+root):Int).toNat) (.agg [.int .i64 ((db.cell 0).toInt),.int .i64 ((db.cell 1).toInt),.int .i64 ((db.cell 2).toInt)]))[(IntKind.wrap .i64 (first+fU):Int).toNat]?).bind fun fS=>
       kn (fU,(ab.set ((IntKind.wrap .i64 (first+root):Int).toNat) (.agg [.int .i64 ((db.cell 0).toInt),.int .i64 ((db.cell 1).toInt),.int .i64 ((db.cell 2).toInt)])).set ((IntKind.wrap .i64 (first+fU):Int).toNat) (.agg [.int .i64 ((ku.cell 0).toInt),.int .i64 ((ku.cell 1).toInt),.int .i64 ((ku.cell 2).toInt)]))
      else none
      else none
     else none
     else none
    else none
   else none)
noncomputable def oT (C:ae) (hi first:Int):(Int × (List V))→Option ((Int × (List V)) ⊕ ((Int × Int × Bool × (List V)) ⊕ (Int × Int × Bool × (List V)))):=un fun root ab=>th C hi first root ab (fun y=>some (.inl y)) (fun r=>some (.inr r))
noncomputable def YW (C:ae):b6:=fun β n ds k=>
 bif Nat.beq n 655 then iq Mv [[1,2,3,0,6]] (@vC C) ds k else
 bif Nat.beq n 17 then bd Mw [false,false,true,true] [[1,2,0,0,0,0],[1,2,0,0,0,0]] (@th C) ds k else
 none
abbrev YX (C:ae) (b:bY):Prop:=bZ Tryd.prog aq C (YW C) 141 (cm Tryd.prog (aq.aO 141)) (aq.sin 141).aW.length b
theorem ajE (C:ae):YX C (.cond 40 (an [1,0,0,0,1,1,0,1,0] yC) (an [1,0,0,0,1,1,0,1,1] yC)):=
 iT Mv [[1,2,3,0,6]] (@vC C) (by kernel_rfl) (aI (bs:=[]) (by kernel_rfl) ao) (aI (bs:=[]) (by kernel_rfl) ao) (fun ds=>by kernel_rfl) (fun i β k=>by kernel_rfl) (fun β ds k=>by kernel_rfl)
theorem ajF (C:ae):YX C (.loop (an [1,0,0] yC)):=
 bh Mw [false,false,true,true] [[1,2,0,0,0,0],[1,2,0,0,0,0]] (@th C) (by kernel_rfl) (aI (bs:=[.cond 40 (an [1,0,0,0,1,1,0,1,0] yC) (an [1,0,0,0,1,1,0,1,1] yC)]) (by kernel_rfl) (aU (ajE C) ao)) (fun ds=>by kernel_rfl) (fun i x=>by kernel_rfl) (fun i x β k=>by kernel_rfl) (fun β ds k=>by kernel_rfl)
noncomputable def YY (C:ae) (lo hi first:Int) (ab:List V):Option (List V):=
 (Loop (oT C hi first) (lo,ab)).bind (cI (un fun (ahO:Int)=>un fun (ahP:Int)=>un fun (WZ:Bool) (NY:List V)=>
  some [.list aj NY]) (un fun (ahQ:Int)=>un fun (ahR:Int)=>un fun (Xf:Bool) (ja:List V)=>
  some [.list aj ja]))
theorem ajG {lo hi first:Int} {ab:List V} {r:Option (List V)} (h:YY CC lo hi first ab=r):CC w9 [.int .i64 lo,.int .i64 hi,.int .i64 first,.list aj ab]=r:=
 bf (key:=141) (L:=YW CC) (bs:=[.loop (an [1,0,0] yC)]) (by kernel_rfl) (aU (ajF CC) ao) (Eq.trans (by kernel_rfl) h)
noncomputable abbrev Ie:Code:=ch Tryd.prog (aq.aO 126)
noncomputable def Dx (C:ae) (first lo hi i:Int) (ab:List V) {β:Type} (kn:(Int × (List V))→Option β) (kr:(Int × Bool × (List V))→Option β):Option β:=
 bif decide ((i:Int)≥0) then
  (C w9 [.int .i64 i,.int .i64 hi,.int .i64 first,.list aj ab]).bind fun r1=>
  kn (IntKind.wrap .i64 (i-1),(V.nth r1 0).toList)
 else
  kr (i,decide ((i:Int)≥0),ab)
noncomputable def Ig (C:ae) (first lo hi:Int):(Int × (List V))→Option ((Int × (List V)) ⊕ (Int × Bool × (List V))):=un fun i ab=>Dx C first lo hi i ab (fun y=>some (.inl y)) (fun r=>some (.inr r))
noncomputable def Dy (C:ae) (first lo i:Int) (ab:List V) {β:Type} (kn:(Int × (List V))→Option β) (kr:(Int × Bool × (List V))→Option β):Option β:=
 bif decide ((i:Int)≥0) then
  bif (decide (0≤(IntKind.wrap .i64 (first+i))))&&(decide ((IntKind.wrap .i64 (first+i))<(ab.length:Int))) then
  (ab[(IntKind.wrap .i64 (first+i):Int).toNat]?).bind fun x5=>
  bif (decide (0≤first))&&(decide (first<(ab.length:Int))) then
   (ab[(first:Int).toNat]?).bind fun x6=>
   bif (decide (0≤first))&&(decide (first<(ab.length:Int))) then
   (ab[(first:Int).toNat]?).bind fun x7=>
   bif (decide (0≤(IntKind.wrap .i64 (first+i))))&&(decide ((IntKind.wrap .i64 (first+i))<((ab.set ((first:Int).toNat) (.agg [.int .i64 ((x5.cell 0).toInt),.int .i64 ((x5.cell 1).toInt),.int .i64 ((x5.cell 2).toInt)])).length:Int))) then
    ((ab.set ((first:Int).toNat) (.agg [.int .i64 ((x5.cell 0).toInt),.int .i64 ((x5.cell 1).toInt),.int .i64 ((x5.cell 2).toInt)]))[(IntKind.wrap .i64 (first+i):Int).toNat]?).bind fun x8=>
    (C w9 [.int .i64 lo,.int .i64 i,.int .i64 first,.list aj ((ab.set ((first:Int).toNat) (.agg [.int .i64 ((x5.cell 0).toInt),.int .i64 ((x5.cell 1).toInt),.int .i64 ((x5.cell 2).toInt)])).set ((IntKind.wrap .i64 (first+i):Int).toNat) (.agg [.int .i64 ((x6.cell 0).toInt),.int .i64 ((x6.cell 1).toInt),.int .i64 ((x6.cell 2).toInt)]))]).bind fun r9=>
    kn (IntKind.wrap .i64 (i-1),(V.nth r9 0).toList)
   else none
   else none
  else none
  else none
 else
  kr (i,decide ((i:Int)≥0),ab)
noncomputable def Ih (C:ae) (first lo:Int):(Int × (List V))→Option ((Int × (List V)) ⊕ (Int × Bool × (List V))):=un fun i ab=>Dy C first lo i ab (fun y=>some (.inl y)) (fun r=>some (.inr r))
noncomputable def YZ (C:ae):b6:=fun β n ds k=>
 bif Nat.beq n 65 then bd L8 [false,false,false,true,true] [[1,2,3,0,0,0]] (@Dx C) ds k else
 bif Nat.beq n 129 then bd L9 [false,false,true,true] [[1,2,0,0,0]] (@Dy C) ds k else
 none
abbrev Y0 (C:ae) (b:bY):Prop:=bZ Tryd.prog aq C (YZ C) 126 (cm Tryd.prog (aq.aO 126)) (aq.sin 126).aW.length b
theorem ajH (C:ae):Y0 C (.loop (an [1,1,1,0,1,0,0] Ie)):=
 bh L8 [false,false,false,true,true] [[1,2,3,0,0,0]] (@Dx C) (by kernel_rfl) (aI (bs:=[]) (by kernel_rfl) ao) (fun ds=>by kernel_rfl) (fun i x=>by kernel_rfl) (fun i x β k=>by kernel_rfl) (fun β ds k=>by kernel_rfl)
theorem ajI (C:ae):Y0 C (.loop (an [1,1,1,1,1,0,0] Ie)):=
 bh L9 [false,false,true,true] [[1,2,0,0,0]] (@Dy C) (by kernel_rfl) (aI (bs:=[]) (by kernel_rfl) ao) (fun ds=>by kernel_rfl) (fun i x=>by kernel_rfl) (fun i x β k=>by kernel_rfl) (fun β ds k=>by kernel_rfl)
noncomputable def Y1 (C:ae) (a b':Int) (ab:List V):Option (List V):=
 (Loop (Ig C a 0 (IntKind.wrap .i64 (b'-a))) (IntKind.wrap .i64 (Int.tdiv (IntKind.wrap .i64 ((IntKind.wrap .i64 (b'-a))-1)) 2),ab)).bind (un fun (i_2:Int)=>un fun (jN:Bool) (NZ:List V)=>
  (Loop (Ih C a 0) (IntKind.wrap .i64 ((IntKind.wrap .i64 (b'-a))-1),NZ)).bind (un fun (ahV:Int)=>un fun (NO:Bool) (fx:List V)=>
   some [.list aj fx]))
theorem ajJ {a b':Int} {ab:List V} {r:Option (List V)} (h:Y1 CC a b' ab=r):CC w7 [.int .i64 a,.int .i64 b',.list aj ab]=r:=
 bf (key:=126) (L:=YZ CC) (bs:=[.loop (an [1,1,1,0,1,0,0] Ie),.loop (an [1,1,1,1,1,0,0] Ie)]) (by kernel_rfl) (aU (ajH CC) (aU (ajI CC) ao)) (Eq.trans (by kernel_rfl) h)
noncomputable abbrev Y2:Code:=ch Tryd.prog (aq.aO 129)
noncomputable def yD (C:ae) (i j:Int) (ab:List V) {β:Type} (kn:(Int × Int × (List V))→Option β) (kr:(Int × Int × Bool × (List V))→Option β):Option β:=
 bif decide ((i:Int)<j) then
  bif (decide (0≤j))&&(decide (j<(ab.length:Int))) then
  (ab[(j:Int).toNat]?).bind fun x1=>
  bif (decide (0≤i))&&(decide (i<(ab.length:Int))) then
   (ab[(i:Int).toNat]?).bind fun x2=>
   bif (decide (0≤i))&&(decide (i<(ab.length:Int))) then
   (ab[(i:Int).toNat]?).bind fun x3=>
   bif (decide (0≤j))&&(decide (j<((ab.set ((i:Int).toNat) (.agg [.int .i64 ((x1.cell 0).toInt),.int .i64 ((x1.cell 1).toInt),.int .i64 ((x1.cell 2).toInt)])).length:Int))) then
    ((ab.set ((i:Int).toNat) (.agg [.int .i64 ((x1.cell 0).toInt),.int .i64 ((x1.cell 1).toInt),.int .i64 ((x1.cell 2).toInt)]))[(j:Int).toNat]?).bind fun x4=>
    kn (IntKind.wrap .i64 (i+1),IntKind.wrap .i64 (j-1),(ab.set ((i:Int).toNat) (.agg [.int .i64 ((x1.cell 0).toInt),.int .i64 ((x1.cell 1).toInt),.int .i64 ((x1.cell 2).toInt)])).set ((j:Int).toNat) (.agg [.int .i64 ((x2.cell 0).toInt),.int .i64 ((x2.cell 1).toInt),.int .i64 ((x2.cell 2).toInt)]))
   else none
   else none
  else none
  else none
 else
  kr (i,j,decide ((i:Int)<j),ab)
noncomputable def Dz (C:ae):(Int × Int × (List V))→Option ((Int × Int × (List V)) ⊕ (Int × Int × Bool × (List V))):=un fun i=>un fun j ab=>yD C i j ab (fun y=>some (.inl y)) (fun r=>some (.inr r))
noncomputable def Y3 (C:ae):b6:=fun β n ds k=>
 bif Nat.beq n 33 then bd Me [true,true,true] [[0,0,0,0]] (@yD C) ds k else
 none
abbrev ajK (C:ae) (b:bY):Prop:=bZ Tryd.prog aq C (Y3 C) 129 (cm Tryd.prog (aq.aO 129)) (aq.sin 129).aW.length b
theorem ajL (C:ae):ajK C (.loop (an [1,1,0,0] Y2)):=
 bh Me [true,true,true] [[0,0,0,0]] (@yD C) (by kernel_rfl) (aI (bs:=[]) (by kernel_rfl) ao) (fun ds=>by kernel_rfl) (fun i x=>by kernel_rfl) (fun i x β k=>by kernel_rfl) (fun β ds k=>by kernel_rfl)
noncomputable def Y4 (C:ae) (a b':Int) (ab:List V):Option (List V):=
 (Loop (Dz C) (a,IntKind.wrap .i64 (b'-1),ab)).bind (un fun (V8:Int)=>un fun (j_6:Int)=>un fun (mO:Bool) (N0:List V)=>
  some [.list aj N0])
theorem ajM {a b':Int} {ab:List V} {r:Option (List V)} (h:Y4 CC a b' ab=r):CC AJ [.int .i64 a,.int .i64 b',.list aj ab]=r:=
 bf (key:=129) (L:=Y3 CC) (bs:=[.loop (an [1,1,0,0] Y2)]) (by kernel_rfl) (aU (ajL CC) ao) (Eq.trans (by kernel_rfl) h)
end Go.AM
set_option maxRecDepth 100000
set_option maxHeartbeats 4000000
namespace Go.AM
open Go.Proofs Go.Sort
def ag (a b:Ed):Bool:=decide (aR a b<0)
theorem jV (a b:Ed):(ag a b=true)=(aR a b<0):=by unfold ag;rw[decide_eq_true_eq]
theorem jb (a b:Ed):((!ag a b)=true)= ¬(aR a b<0):=by unfold ag;simp
abbrev eA (d:Array Ed):List V:=oJ Ed.enc d
theorem N3 (a j:Nat) (d:Array Ed):insInner ag a (j+1) d=if j+1>a then (if aR d[j+1]! d[j]! <0 then insInner ag a j (swp d (j+1) j) else d) else d:=by
 rw[NS]
 by_cases h1:j+1>a
 ·rw[if_pos h1];simp only[h1,decide_true,Bool.true_and,jV]
 ·rw[if_neg h1,if_neg (by simp[h1])]
theorem vc (hi first root:Nat) (d:Array Ed):siftDown ag hi first root d=
  if 2*root+1≥hi then d else
   if 2*root+2<hi then
    (if aR d[first+(2*root+1)]! d[first+(2*root+2)]! <0 then
     (if aR d[first+root]! d[first+(2*root+2)]! <0 then siftDown ag hi first (2*root+2) (swp d (first+root) (first+(2*root+2))) else d)
    else (if aR d[first+root]! d[first+(2*root+1)]! <0 then siftDown ag hi first (2*root+1) (swp d (first+root) (first+(2*root+1))) else d))
   else (if aR d[first+root]! d[first+(2*root+1)]! <0 then siftDown ag hi first (2*root+1) (swp d (first+root) (first+(2*root+1))) else d):=by
 rw[siftDown]
 by_cases h1:2*root+1≥hi
 ·rw[dif_pos h1,if_pos h1]
 rw[dif_neg h1,if_neg h1]
 by_cases h2:2*root+2<hi
 ·rw[if_pos h2]
  by_cases h3:aR d[first+(2*root+1)]! d[first+(2*root+2)]! <0
  ·rw[if_pos h3,if_pos (by simp only[Bool.and_eq_true,decide_eq_true_eq,jV];exact ⟨h2,h3⟩)]
   simp only[jb]
   by_cases h4:aR d[first+root]! d[first+(2*root+2)]! <0
   ·rw[if_neg (not_not_intro h4),dif_pos h2,if_pos h4]
   ·rw[if_pos h4,if_neg h4]
  ·rw[if_neg h3,if_neg (by simp only[Bool.and_eq_true,decide_eq_true_eq,jV];exact fun h=>h3 h.2)]
   simp only[jb]
   by_cases h4:aR d[first+root]! d[first+(2*root+1)]! <0
   ·rw[if_neg (not_not_intro h4),if_pos h4]
   ·rw[if_pos h4,if_neg h4]
 ·rw[if_neg h2,if_neg (by simp only[Bool.and_eq_true,decide_eq_true_eq,jV];exact fun h=>h2 h.1)]
  simp only[jb]
  by_cases h4:aR d[first+root]! d[first+(2*root+1)]! <0
  ·rw[if_neg (not_not_intro h4),if_pos h4]
  ·rw[if_pos h4,if_neg h4]
theorem Cy {a b i:Nat}: ∀(j:Nat) (d:Array Ed),j<d.size→d.size<1152921504606846976→
  ∃j' t,Loop (yB CC a b i) ((j:Int),eA d)=some (j',t,eA (insInner ag a j d))
 | 0,d,hj,hs=>⟨(0:Nat),false,aZ (by
   simp (disch:=omega) only[yB,yA,un,ar,if_neg]
   rfl)⟩
 | j+1,d,hj,hs=>by
  obtain ⟨j',t,ih⟩:=Cy (a:=a) (b:=b) (i:=i) j (swp d (j+1) j) (by rw[size_swp];omega) (by rw[size_swp];omega)
  rw[N3]
  by_cases h1:j+1>a
  ·rw[if_pos h1]
   have e:yB CC a b i (((j+1:Nat):Int),eA d)=if aR d[j+1]! d[j]! <0 then some (.inl ((j:Int),eA (swp d (j+1) j))) else some (.inr (((j+1:Nat):Int),decide (aR d[j+1]! d[j]! <0),eA d)):=by
    simp (disch:=omega) only[yB,yA,un,ar,cl,dp,if_pos,if_neg,wrap64,bK,cT,Int.toNat_natCast,Option.bind_some,cR,cU,Ed.bR,Ed.bS,Ed.bU,Ed.re,cS,dC,Array.size_setIfInBounds,gB,V.ba,V.toInt_int,cond_true,cond_false,me]
    rfl
   by_cases h2:aR d[j+1]! d[j]! <0
   ·rw[if_pos h2] at e⊢
    exact ⟨j',t,(cF e).trans ih⟩
   ·rw[if_neg h2] at e⊢
    exact ⟨_,_,aZ e⟩
  ·rw[if_neg h1]
   exact ⟨((j+1:Nat):Int),false,aZ (by
    simp (disch:=omega) only[yB,yA,un,ar,if_neg])⟩
theorem N4 {a b:Nat}: ∀(n i:Nat) (d:Array Ed),b-i=n→b≤d.size→d.size<1152921504606846976→
  ∃j' t,Loop (Ic CC a b) ((i:Int),eA d)=some (j',t,eA (insOuter ag a b i d)):=by
 intro n
 induction n with
 | zero=>
  intro i d hn hb hs
  rw[insOuter,if_neg (by omega)]
  exact ⟨(i:Int),false,aZ (by
   simp (disch:=omega) only[Ic,Dw,un,jS,cond_false])⟩
 | succ n ih=>
  intro i d hn hb hs
  obtain ⟨j1,t1,h1⟩:=Cy (a:=a) (b:=b) (i:=i) i d (by omega) hs
  obtain ⟨j',t,h2⟩:=ih (i+1) (insInner ag a i d) (by omega) (by rw[Cq];omega) (by rw[Cq];omega)
  rw[insOuter,if_pos (by omega)]
  refine ⟨j',t,(cF ?_).trans h2⟩
  simp (disch:=omega) only[Ic,Dw,un,ar,if_pos,h1,Option.bind_some,bK,wrap64]
theorem Cz {a b:Nat} {d:Array Ed} (hb:b≤d.size) (hs:d.size<1152921504606846976) (ha:a<1152921504606846976):
  CC w6 [.int .i64 (a:Int),.int .i64 (b:Int),.list aj (eA d)]=some [.list aj (eA (insertionSort ag d a b))]:=by
 refine ajD ?_
 unfold YV
 obtain ⟨j',t,h⟩:=N4 (a:=a) (b:=b) _ (a+1) d rfl hb hs
 simp (disch:=omega) only[bK,wrap64]
 rw[h]
 rfl
theorem N5 (hi first:Nat): ∀(n root:Nat) (d:Array Ed),hi-root≤n→root<1152921504606846976→first+hi≤d.size→d.size<1152921504606846976→
  (∃x y z,Loop (oT CC hi first) ((root:Int),eA d)=some (.inl (x,y,z,eA (siftDown ag hi first root d))))∨
  (∃x y z,Loop (oT CC hi first) ((root:Int),eA d)=some (.inr (x,y,z,eA (siftDown ag hi first root d)))):=by
 intro n
 induction n with
 | zero=>
  intro root d hn hr hb hs
  rw[vc,if_pos (by omega)]
  exact .inl ⟨(root:Int),((root*2+1:Nat):Int),true,aZ (by
   simp (disch:=omega) only[oT,th,un,pS,bK,wrap64];rw[gp (by omega)];rfl)⟩
 | succ n ih=>
  intro root d hn hr hb hs
  by_cases h1:2*root+1≥hi
  ·rw[vc,if_pos h1]
   exact .inl ⟨(root:Int),((root*2+1:Nat):Int),true,aZ (by
    simp (disch:=omega) only[oT,th,un,pS,bK,wrap64];rw[gp (by omega)];rfl)⟩
  ·have go: ∀c:Nat,c<hi→root<c→(oT CC hi first ((root:Int),eA d)=
      if aR d[first+root]! d[first+c]! <0 then some (.inl ((c:Int),eA (swp d (first+root) (first+c)))) else some (.inr (.inr ((root:Int),(c:Int),true,eA d))))→
     siftDown ag hi first root d=(if aR d[first+root]! d[first+c]! <0 then siftDown ag hi first c (swp d (first+root) (first+c)) else d)→
     ((∃x y z,Loop (oT CC hi first) ((root:Int),eA d)=some (.inl (x,y,z,eA (siftDown ag hi first root d))))∨
     (∃x y z,Loop (oT CC hi first) ((root:Int),eA d)=some (.inr (x,y,z,eA (siftDown ag hi first root d))))):=by
    intro c hc hrc e1 e2
    rw[e2]
    by_cases h3:aR d[first+root]! d[first+c]! <0
    ·rw[if_pos h3] at e1
     rw[if_pos h3,cF e1]
     exact ih c _ (by omega) (by omega) (by rw[size_swp];omega) (by rw[size_swp];omega)
    ·rw[if_neg h3] at e1
     rw[if_neg h3,aZ e1]
     exact .inr ⟨_,_,_,rfl⟩
   have e0:=vc hi first root d
   rw[if_neg h1] at e0
   by_cases h2:2*root+2<hi
   ·rw[if_pos h2] at e0
    by_cases h3:aR d[first+(2*root+1)]! d[first+(2*root+2)]! <0
    ·rw[if_pos h3] at e0
     refine go (2*root+2) (by omega) (by omega) ?_ e0
     rw[Nat.mul_comm 2 root] at h3
     simp (disch:=omega) only[oT,th,un,pS,bK,cT,wrap64]
     rw[ar,if_neg (by omega),ar,if_pos (by omega)]
     simp (disch:=omega) only[vC,ar,cl,dp,if_pos,if_neg,wrap64,bK,cT,Int.toNat_natCast,Option.bind_some,cR,cU,Ed.bR,Ed.bS,Ed.bU,Ed.re,cS,dC,Array.size_setIfInBounds,gB,V.ba,V.toInt_int,cond_true,cond_false,Nat.mul_comm 2 root,gp]
     by_cases h4:aR d[first+root]! d[first+(root*2+2)]! <0
     ·simp only[h4,if_true];rfl
     ·simp only[h4,if_false];rfl
    ·rw[if_neg h3] at e0
     refine go (2*root+1) (by omega) (by omega) ?_ e0
     rw[Nat.mul_comm 2 root] at h3
     simp (disch:=omega) only[oT,th,un,pS,bK,cT,wrap64]
     rw[ar,if_neg (by omega),ar,if_pos (by omega)]
     simp (disch:=omega) only[vC,ar,cl,dp,if_pos,if_neg,wrap64,bK,cT,Int.toNat_natCast,Option.bind_some,cR,cU,Ed.bR,Ed.bS,Ed.bU,Ed.re,cS,dC,Array.size_setIfInBounds,gB,V.ba,V.toInt_int,cond_true,cond_false,Nat.mul_comm 2 root,jS]
     by_cases h4:aR d[first+root]! d[first+(root*2+1)]! <0
     ·simp only[h4,if_true];rfl
     ·simp only[h4,if_false];rfl
   ·rw[if_neg h2] at e0
    refine go (2*root+1) (by omega) (by omega) ?_ e0
    simp (disch:=omega) only[oT,th,un,pS,bK,cT,wrap64]
    rw[ar,if_neg (by omega),ar,if_neg (by omega)]
    simp (disch:=omega) only[vC,ar,cl,dp,if_pos,if_neg,wrap64,bK,cT,Int.toNat_natCast,Option.bind_some,cR,cU,Ed.bR,Ed.bS,Ed.bU,Ed.re,cS,dC,Array.size_setIfInBounds,gB,V.ba,V.toInt_int,cond_true,cond_false,Nat.mul_comm 2 root]
    by_cases h4:aR d[first+root]! d[first+(root*2+1)]! <0
    ·simp only[h4,if_true];rfl
    ·simp only[h4,if_false];rfl
theorem CA {lo hi first:Nat} {d:Array Ed} (hl:lo<1152921504606846976) (hb:first+hi≤d.size) (hs:d.size<1152921504606846976):
  CC w9 [.int .i64 (lo:Int),.int .i64 (hi:Int),.int .i64 (first:Int),.list aj (eA d)]=some [.list aj (eA (siftDown ag hi first lo d))]:=by
 refine ajG ?_
 unfold YY
 rcases N5 hi first _ lo d (Nat.le_refl _) hl hb hs with ⟨x,y,z,h⟩|⟨x,y,z,h⟩
 ·rw[h];rfl
 ·rw[h];rfl
theorem CB {hi first:Nat}: ∀(k:Nat) (d:Array Ed),k<1152921504606846976→first+hi≤d.size→d.size<1152921504606846976→
  ∃x y,Loop (Ig CC first 0 hi) ((k:Int)-1,eA d)=some (x,y,eA (heapBuild ag hi first k d))
 | 0,d,hk,hb,hs=>⟨-1,false,aZ (by
   simp (disch:=omega) only[Ig,Dx,un,ar,if_neg]
   rfl)⟩
 | k+1,d,hk,hb,hs=>by
  obtain ⟨x,y,ih⟩:=CB (hi:=hi) (first:=first) k (siftDown ag hi first k d) (by omega) (by rw[rH _ _ _ _ _ (Nat.le_refl _)];omega) (by rw[rH _ _ _ _ _ (Nat.le_refl _)];omega)
  refine ⟨x,y,(cF ?_).trans ih⟩
  simp (disch:=omega) only[Ig,Dx,un,ar,if_pos,me,CA,Option.bind_some,V.ba,V.jM,wrap64]
theorem CD {first:Nat}: ∀(k:Nat) (d:Array Ed),k<1152921504606846976→first+k≤d.size→d.size<1152921504606846976→
  ∃x y,Loop (Ih CC first 0) ((k:Int)-1,eA d)=some (x,y,eA (heapPop ag first k d))
 | 0,d,hk,hb,hs=>⟨-1,false,aZ (by
   simp (disch:=omega) only[Ih,Dy,un,ar,if_neg]
   rfl)⟩
 | k+1,d,hk,hb,hs=>by
  obtain ⟨x,y,ih⟩:=CD (first:=first) k (siftDown ag k first 0 (swp d first (first+k))) (by omega) (by rw[rH _ _ _ _ _ (Nat.le_refl _),size_swp];omega) (by rw[rH _ _ _ _ _ (Nat.le_refl _),size_swp];omega)
  refine ⟨x,y,(cF ?_).trans ih⟩
  have iN:=CA (lo:=0) (hi:=k) (first:=first) (d:=swp d first (first+k)) (by omega) (by rw[size_swp];omega) (by rw[size_swp];omega)
  unfold swp at iN⊢
  rw[show ((0:Nat):Int)=0 from rfl] at iN
  simp (disch:=omega) only[Ih,Dy,un,me,ar,cl,dp,if_pos,if_neg,wrap64,bK,cT,Int.toNat_natCast,Option.bind_some,cR,cU,Ed.bR,Ed.bS,Ed.bU,Ed.re,cS,dC,Array.size_setIfInBounds,gB,V.ba,V.toInt_int,cond_true,cond_false]
  rw[iN]
  simp (disch:=omega) only[Option.bind_some,V.ba,V.jM,wrap64]
theorem N6 {a b:Nat} {d:Array Ed} (cP:a<b) (hb:b≤d.size) (hs:d.size<1152921504606846976):
  CC w7 [.int .i64 (a:Int),.int .i64 (b:Int),.list aj (eA d)]=some [.list aj (eA (heapSort ag d a b))]:=by
 refine ajJ ?_
 unfold Y1
 obtain ⟨x,y,h1⟩:=CB (hi:=b-a) (first:=a) ((b-a-1)/2+1) d (by omega) (by omega) hs
 obtain ⟨x2,y2,h2⟩:=CD (first:=a) (b-a) (heapBuild ag (b-a) a ((b-a-1)/2+1) d) (by omega) (by rw[Cr];omega) (by rw[Cr];omega)
 have e1:((((b-a-1)/2+1:Nat):Int)-1)=Int.tdiv (((b-a:Nat):Int)-1) 2:=by
  rw[Int.tdiv_eq_ediv_of_nonneg (by omega)]
  omega
 rw[e1] at h1
 simp (disch:=omega) only[fE,wrap64]
 rw[h1]
 simp only[Option.bind_some,un]
 rw[h2]
 rfl
theorem N7: ∀(n i j:Nat) (d:Array Ed),j-i≤n→j<d.size→d.size<1152921504606846976→
  ∃x y z,Loop (Dz CC) ((i:Int),(j:Int),eA d)=some (x,y,z,eA (reverseLoop i j d)):=by
 intro n
 induction n with
 | zero=>
  intro i j d hn hj hs
  rw[reverseLoop,if_neg (by omega)]
  exact ⟨(i:Int),(j:Int),false,aZ (by
   simp (disch:=omega) only[Dz,yD,un,jS,cond_false])⟩
 | succ n ih=>
  intro i j d hn hj hs
  rw[reverseLoop]
  by_cases h:i<j
  ·rw[if_pos h]
   obtain ⟨x,y,z,h2⟩:=ih (i+1) (j-1) (swp d i j) (by omega) (by rw[size_swp];omega) (by rw[size_swp];omega)
   refine ⟨x,y,z,(cF ?_).trans h2⟩
   simp (disch:=omega) only[Dz,yD,un,ar,cl,dp,if_pos,if_neg,wrap64,bK,cT,Int.toNat_natCast,Option.bind_some,cR,cU,Ed.bR,Ed.bS,Ed.bU,Ed.re,cS,dC,Array.size_setIfInBounds,gB,V.ba,V.toInt_int,cond_true,cond_false,eJ]
   rfl
  ·rw[if_neg h]
   exact ⟨(i:Int),(j:Int),false,aZ (by
    simp (disch:=omega) only[Dz,yD,un,jS,cond_false])⟩
theorem N8 {a b:Nat} {d:Array Ed} (cP:a<b) (hb:b≤d.size) (hs:d.size<1152921504606846976):
  CC AJ [.int .i64 (a:Int),.int .i64 (b:Int),.list aj (eA d)]=some [.list aj (eA (reverseRange d a b))]:=by
 refine ajM ?_
 unfold Y4
 obtain ⟨x,y,z,h⟩:=N7 _ a (b-1) d (Nat.le_refl _) (by omega) hs
 simp (disch:=omega) only[eJ,wrap64]
 rw[h]
 rfl
end Go.AM
set_option maxRecDepth 100000
namespace Go.AM
open Go.Proofs
noncomputable abbrev pZ:Code:=ch Tryd.prog (aq.aO 132)
noncomputable def DA (C:ae) (a j:Int) (ab:List V) (i:Int) {β:Type} (kn:Int→Option β) (kr:(Int × Bool)→Option β):Option β:=
 bif decide ((i:Int)≤j) then
  bif (decide (0≤i))&&(decide (i<(ab.length:Int))) then
  (ab[(i:Int).toNat]?).bind fun x5=>
  bif (decide (0≤a))&&(decide (a<(ab.length:Int))) then
   (ab[(a:Int).toNat]?).bind fun x6=>
   (C bp [.int .i64 ((x5.cell 0).toInt),.int .i64 ((x5.cell 1).toInt),.int .i64 ((x5.cell 2).toInt),.int .i64 ((x6.cell 0).toInt),.int .i64 ((x6.cell 1).toInt),.int .i64 ((x6.cell 2).toInt)]).bind fun r7=>
   bif decide ((((V.nth r7 0).toInt):Int)<0) then
   kn (IntKind.wrap .i64 (i+1))
   else
   kr (i,decide ((((V.nth r7 0).toInt):Int)<0))
  else none
  else none
 else
  kr (i,false)
noncomputable def DB (C:ae) (a j:Int) (ab:List V):(Int)→Option ((Int) ⊕ (Int × Bool)):=fun i=>DA C a j ab i (fun y=>some (.inl y)) (fun r=>some (.inr r))
noncomputable def yE (C:ae) (a i:Int) (ab:List V) (j:Int) {β:Type} (kn:Int→Option β) (kr:(Int × Bool)→Option β):Option β:=
 bif decide ((i:Int)≤j) then
  bif (decide (0≤j))&&(decide (j<(ab.length:Int))) then
  (ab[(j:Int).toNat]?).bind fun eO=>
  bif (decide (0≤a))&&(decide (a<(ab.length:Int))) then
   (ab[(a:Int).toNat]?).bind fun dH=>
   (C bp [.int .i64 ((eO.cell 0).toInt),.int .i64 ((eO.cell 1).toInt),.int .i64 ((eO.cell 2).toInt),.int .i64 ((dH.cell 0).toInt),.int .i64 ((dH.cell 1).toInt),.int .i64 ((dH.cell 2).toInt)]).bind fun fw=>
   bif !(decide ((((V.nth fw 0).toInt):Int)<0)) then
   kn (IntKind.wrap .i64 (j-1))
   else
   kr (j,!(decide ((((V.nth fw 0).toInt):Int)<0)))
  else none
  else none
 else
  kr (j,false)
noncomputable def yF (C:ae) (a i:Int) (ab:List V):(Int)→Option ((Int) ⊕ (Int × Bool)):=fun j=>yE C a i ab j (fun y=>some (.inl y)) (fun r=>some (.inr r))
noncomputable def DC (C:ae) (a j:Int) (ab:List V) (i:Int) {β:Type} (kn:Int→Option β) (kr:(Int × Bool)→Option β):Option β:=
 bif decide ((i:Int)≤j) then
  bif (decide (0≤i))&&(decide (i<(ab.length:Int))) then
  (ab[(i:Int).toNat]?).bind fun fl=>
  bif (decide (0≤a))&&(decide (a<(ab.length:Int))) then
   (ab[(a:Int).toNat]?).bind fun la=>
   (C bp [.int .i64 ((fl.cell 0).toInt),.int .i64 ((fl.cell 1).toInt),.int .i64 ((fl.cell 2).toInt),.int .i64 ((la.cell 0).toInt),.int .i64 ((la.cell 1).toInt),.int .i64 ((la.cell 2).toInt)]).bind fun CH=>
   bif decide ((((V.nth CH 0).toInt):Int)<0) then
   kn (IntKind.wrap .i64 (i+1))
   else
   kr (i,decide ((((V.nth CH 0).toInt):Int)<0))
  else none
  else none
 else
  kr (i,false)
noncomputable def DD (C:ae) (a j:Int) (ab:List V):(Int)→Option ((Int) ⊕ (Int × Bool)):=fun i=>DC C a j ab i (fun y=>some (.inl y)) (fun r=>some (.inr r))
noncomputable def yG (C:ae) (a i:Int) (ab:List V) (j:Int) {β:Type} (kn:Int→Option β) (kr:(Int × Bool)→Option β):Option β:=
 bif decide ((i:Int)≤j) then
  bif (decide (0≤j))&&(decide (j<(ab.length:Int))) then
  (ab[(j:Int).toNat]?).bind fun lb=>
  bif (decide (0≤a))&&(decide (a<(ab.length:Int))) then
   (ab[(a:Int).toNat]?).bind fun ld=>
   (C bp [.int .i64 ((lb.cell 0).toInt),.int .i64 ((lb.cell 1).toInt),.int .i64 ((lb.cell 2).toInt),.int .i64 ((ld.cell 0).toInt),.int .i64 ((ld.cell 1).toInt),.int .i64 ((ld.cell 2).toInt)]).bind fun oL=>
   bif !(decide ((((V.nth oL 0).toInt):Int)<0)) then
   kn (IntKind.wrap .i64 (j-1))
   else
   kr (j,!(decide ((((V.nth oL 0).toInt):Int)<0)))
  else none
  else none
 else
  kr (j,false)
noncomputable def yH (C:ae) (a i:Int) (ab:List V):(Int)→Option ((Int) ⊕ (Int × Bool)):=fun j=>yG C a i ab j (fun y=>some (.inl y)) (fun r=>some (.inr r))
noncomputable def DE (C:ae) (a i j:Int) (ab:List V) {β:Type} (kn:(Int × Int × (List V))→Option β) (kr:(Int × Int × Bool × (List V))→Option β):Option β:=
 (Loop (DD C a j ab) i).bind (un fun (eU:Int) (Wv:Bool)=>
  (Loop (yH C a eU ab) j).bind (un fun (gE:Int) (ah0:Bool)=>
   bif decide ((eU:Int)>gE) then
    kr (eU,gE,decide ((eU:Int)>gE),ab)
   else
    bif (decide (0≤gE))&&(decide (gE<(ab.length:Int))) then
    (ab[(gE:Int).toNat]?).bind fun jc=>
    bif (decide (0≤eU))&&(decide (eU<(ab.length:Int))) then
     (ab[(eU:Int).toNat]?).bind fun vd=>
     bif (decide (0≤eU))&&(decide (eU<(ab.length:Int))) then
     (ab[(eU:Int).toNat]?).bind fun x35=>
     bif (decide (0≤gE))&&(decide (gE<((ab.set ((eU:Int).toNat) (.agg [.int .i64 ((jc.cell 0).toInt),.int .i64 ((jc.cell 1).toInt),.int .i64 ((jc.cell 2).toInt)])).length:Int))) then
      ((ab.set ((eU:Int).toNat) (.agg [.int .i64 ((jc.cell 0).toInt),.int .i64 ((jc.cell 1).toInt),.int .i64 ((jc.cell 2).toInt)]))[(gE:Int).toNat]?).bind fun x36=>
      kn (IntKind.wrap .i64 (eU+1),IntKind.wrap .i64 (gE-1),(ab.set ((eU:Int).toNat) (.agg [.int .i64 ((jc.cell 0).toInt),.int .i64 ((jc.cell 1).toInt),.int .i64 ((jc.cell 2).toInt)])).set ((gE:Int).toNat) (.agg [.int .i64 ((vd.cell 0).toInt),.int .i64 ((vd.cell 1).toInt),.int .i64 ((vd.cell 2).toInt)]))
     else none
     else none
    else none
    else none))
noncomputable def yI (C:ae) (a:Int):(Int × Int × (List V))→Option ((Int × Int × (List V)) ⊕ (Int × Int × Bool × (List V))):=un fun i=>un fun j ab=>DE C a i j ab (fun y=>some (.inl y)) (fun r=>some (.inr r))
noncomputable def Y5 (C:ae):b6:=fun β n ds k=>
 bif Nat.beq n 49 then bd Mn [false,true,false,false] [[1,0,3,0,4]] (@DA C) ds k else
 bif Nat.beq n 81 then bd Mo [false,false,true,false] [[1,2,0,0,4]] (@yE C) ds k else
 bif Nat.beq n 209 then bd Mp [false,true,false,false] [[1,0,3,0,4]] (@DC C) ds k else
 bif Nat.beq n 241 then bd Mq [false,false,true,false] [[1,2,0,0,4]] (@yG C) ds k else
 bif Nat.beq n 210 then bd Mr [false,true,true,true] [[1,0,0,0,0]] (@DE C) ds k else
 none
abbrev DF (C:ae) (b:bY):Prop:=bZ Tryd.prog aq C (Y5 C) 132 (cm Tryd.prog (aq.aO 132)) (aq.sin 132).aW.length b
theorem ajN (C:ae):DF C (.loop (an [1,1,1,0,0,0] pZ)):=
 bh Mn [false,true,false,false] [[1,0,3,0,4]] (@DA C) (by kernel_rfl) (aI (bs:=[]) (by kernel_rfl) ao) (fun ds=>by kernel_rfl) (fun i x=>by kernel_rfl) (fun i x β k=>by kernel_rfl) (fun β ds k=>by kernel_rfl)
theorem ajO (C:ae):DF C (.loop (an [1,1,1,1,0,0,0] pZ)):=
 bh Mo [false,false,true,false] [[1,2,0,0,4]] (@yE C) (by kernel_rfl) (aI (bs:=[]) (by kernel_rfl) ao) (fun ds=>by kernel_rfl) (fun i x=>by kernel_rfl) (fun i x β k=>by kernel_rfl) (fun β ds k=>by kernel_rfl)
theorem ajP (C:ae):DF C (.loop (an [1,1,1,1,1,1,1,1,1,0,0,0,0,0,0,0] pZ)):=
 bh Mp [false,true,false,false] [[1,0,3,0,4]] (@DC C) (by kernel_rfl) (aI (bs:=[]) (by kernel_rfl) ao) (fun ds=>by kernel_rfl) (fun i x=>by kernel_rfl) (fun i x β k=>by kernel_rfl) (fun β ds k=>by kernel_rfl)
theorem ajQ (C:ae):DF C (.loop (an [1,1,1,1,1,1,1,1,1,0,0,0,0,1,0,0,0] pZ)):=
 bh Mq [false,false,true,false] [[1,2,0,0,4]] (@yG C) (by kernel_rfl) (aI (bs:=[]) (by kernel_rfl) ao) (fun ds=>by kernel_rfl) (fun i x=>by kernel_rfl) (fun i x β k=>by kernel_rfl) (fun β ds k=>by kernel_rfl)
theorem ajR (C:ae):DF C (.loop (an [1,1,1,1,1,1,1,1,1,0,0,0] pZ)):=
 bh Mr [false,true,true,true] [[1,0,0,0,0]] (@DE C) (by kernel_rfl) (aI (bs:=[.loop (an [1,1,1,1,1,1,1,1,1,0,0,0,0,0,0,0] pZ),.loop (an [1,1,1,1,1,1,1,1,1,0,0,0,0,1,0,0,0] pZ)]) (by kernel_rfl) (aU (ajP C) (aU (ajQ C) ao))) (fun ds=>by kernel_rfl) (fun i x=>by kernel_rfl) (fun i x β k=>by kernel_rfl) (fun β ds k=>by kernel_rfl)
noncomputable def Y6 (C:ae) (a b' pivot:Int) (ab:List V):Option (List V):=
 bif (decide (0≤pivot))&&(decide (pivot<(ab.length:Int))) then
  (ab[(pivot:Int).toNat]?).bind fun x1=>
  bif (decide (0≤a))&&(decide (a<(ab.length:Int))) then
  (ab[(a:Int).toNat]?).bind fun x2=>
  bif (decide (0≤a))&&(decide (a<(ab.length:Int))) then
   (ab[(a:Int).toNat]?).bind fun x3=>
   bif (decide (0≤pivot))&&(decide (pivot<((ab.set ((a:Int).toNat) (.agg [.int .i64 ((x1.cell 0).toInt),.int .i64 ((x1.cell 1).toInt),.int .i64 ((x1.cell 2).toInt)])).length:Int))) then
   ((ab.set ((a:Int).toNat) (.agg [.int .i64 ((x1.cell 0).toInt),.int .i64 ((x1.cell 1).toInt),.int .i64 ((x1.cell 2).toInt)]))[(pivot:Int).toNat]?).bind fun x4=>
   (Loop (DB C a (IntKind.wrap .i64 (b'-1)) ((ab.set ((a:Int).toNat) (.agg [.int .i64 ((x1.cell 0).toInt),.int .i64 ((x1.cell 1).toInt),.int .i64 ((x1.cell 2).toInt)])).set ((pivot:Int).toNat) (.agg [.int .i64 ((x2.cell 0).toInt),.int .i64 ((x2.cell 1).toInt),.int .i64 ((x2.cell 2).toInt)]))) (IntKind.wrap .i64 (a+1))).bind (un fun (cw:Int) (mT:Bool)=>
    (Loop (yF C a cw ((ab.set ((a:Int).toNat) (.agg [.int .i64 ((x1.cell 0).toInt),.int .i64 ((x1.cell 1).toInt),.int .i64 ((x1.cell 2).toInt)])).set ((pivot:Int).toNat) (.agg [.int .i64 ((x2.cell 0).toInt),.int .i64 ((x2.cell 1).toInt),.int .i64 ((x2.cell 2).toInt)]))) (IntKind.wrap .i64 (b'-1))).bind (un fun (bW:Int) (uS:Bool)=>
     bif decide ((cw:Int)>bW) then
      bif (decide (0≤a))&&(decide (a<(((ab.set ((a:Int).toNat) (.agg [.int .i64 ((x1.cell 0).toInt),.int .i64 ((x1.cell 1).toInt),.int .i64 ((x1.cell 2).toInt)])).set ((pivot:Int).toNat) (.agg [.int .i64 ((x2.cell 0).toInt),.int .i64 ((x2.cell 1).toInt),.int .i64 ((x2.cell 2).toInt)])).length:Int))) then
      (((ab.set ((a:Int).toNat) (.agg [.int .i64 ((x1.cell 0).toInt),.int .i64 ((x1.cell 1).toInt),.int .i64 ((x1.cell 2).toInt)])).set ((pivot:Int).toNat) (.agg [.int .i64 ((x2.cell 0).toInt),.int .i64 ((x2.cell 1).toInt),.int .i64 ((x2.cell 2).toInt)]))[(a:Int).toNat]?).bind fun cO=>
      bif (decide (0≤bW))&&(decide (bW<(((ab.set ((a:Int).toNat) (.agg [.int .i64 ((x1.cell 0).toInt),.int .i64 ((x1.cell 1).toInt),.int .i64 ((x1.cell 2).toInt)])).set ((pivot:Int).toNat) (.agg [.int .i64 ((x2.cell 0).toInt),.int .i64 ((x2.cell 1).toInt),.int .i64 ((x2.cell 2).toInt)])).length:Int))) then
       (((ab.set ((a:Int).toNat) (.agg [.int .i64 ((x1.cell 0).toInt),.int .i64 ((x1.cell 1).toInt),.int .i64 ((x1.cell 2).toInt)])).set ((pivot:Int).toNat) (.agg [.int .i64 ((x2.cell 0).toInt),.int .i64 ((x2.cell 1).toInt),.int .i64 ((x2.cell 2).toInt)]))[(bW:Int).toNat]?).bind fun db=>
       bif (decide (0≤bW))&&(decide (bW<(((ab.set ((a:Int).toNat) (.agg [.int .i64 ((x1.cell 0).toInt),.int .i64 ((x1.cell 1).toInt),.int .i64 ((x1.cell 2).toInt)])).set ((pivot:Int).toNat) (.agg [.int .i64 ((x2.cell 0).toInt),.int .i64 ((x2.cell 1).toInt),.int .i64 ((x2.cell 2).toInt)])).length:Int))) then
       (((ab.set ((a:Int).toNat) (.agg [.int .i64 ((x1.cell 0).toInt),.int .i64 ((x1.cell 1).toInt),.int .i64 ((x1.cell 2).toInt)])).set ((pivot:Int).toNat) (.agg [.int .i64 ((x2.cell 0).toInt),.int .i64 ((x2.cell 1).toInt),.int .i64 ((x2.cell 2).toInt)]))[(bW:Int).toNat]?).bind fun ku=>
       bif (decide (0≤a))&&(decide (a<((((ab.set ((a:Int).toNat) (.agg [.int .i64 ((x1.cell 0).toInt),.int .i64 ((x1.cell 1).toInt),.int .i64 ((x1.cell 2).toInt)])).set ((pivot:Int).toNat) (.agg [.int .i64 ((x2.cell 0).toInt),.int .i64 ((x2.cell 1).toInt),.int .i64 ((x2.cell 2).toInt)])).set ((bW:Int).toNat) (.agg [.int .i64 ((cO.cell 0).toInt),.int .i64 ((cO.cell 1).toInt),.int .i64 ((cO.cell 2).toInt)])).length:Int))) then
        ((((ab.set ((a:Int).toNat) (.agg [.int .i64 ((x1.cell 0).toInt),.int .i64 ((x1.cell 1).toInt),.int .i64 ((x1.cell 2).toInt)])).set ((pivot:Int).toNat) (.agg [.int .i64 ((x2.cell 0).toInt),.int .i64 ((x2.cell 1).toInt),.int .i64 ((x2.cell 2).toInt)])).set ((bW:Int).toNat) (.agg [.int .i64 ((cO.cell 0).toInt),.int .i64 ((cO.cell 1).toInt),.int .i64 ((cO.cell 2).toInt)]))[(a:Int).toNat]?).bind fun xJ=>
        some [.int .i64 bW,.bool true,.list aj ((((ab.set ((a:Int).toNat) (.agg [.int .i64 ((x1.cell 0).toInt),.int .i64 ((x1.cell 1).toInt),.int .i64 ((x1.cell 2).toInt)])).set ((pivot:Int).toNat) (.agg [.int .i64 ((x2.cell 0).toInt),.int .i64 ((x2.cell 1).toInt),.int .i64 ((x2.cell 2).toInt)])).set ((bW:Int).toNat) (.agg [.int .i64 ((cO.cell 0).toInt),.int .i64 ((cO.cell 1).toInt),.int .i64 ((cO.cell 2).toInt)])).set ((a:Int).toNat) (.agg [.int .i64 ((db.cell 0).toInt),.int .i64 ((db.cell 1).toInt),.int .i64 ((db.cell 2).toInt)]))]
       else none
       else none
      else none
      else none
     else
      bif (decide (0≤bW))&&(decide (bW<(((ab.set ((a:Int).toNat) (.agg [.int .i64 ((x1.cell 0).toInt),.int .i64 ((x1.cell 1).toInt),.int .i64 ((x1.cell 2).toInt)])).set ((pivot:Int).toNat) (.agg [.int .i64 ((x2.cell 0).toInt),.int .i64 ((x2.cell 1).toInt),.int .i64 ((x2.cell 2).toInt)])).length:Int))) then
      (((ab.set ((a:Int).toNat) (.agg [.int .i64 ((x1.cell 0).toInt),.int .i64 ((x1.cell 1).toInt),.int .i64 ((x1.cell 2).toInt)])).set ((pivot:Int).toNat) (.agg [.int .i64 ((x2.cell 0).toInt),.int .i64 ((x2.cell 1).toInt),.int .i64 ((x2.cell 2).toInt)]))[(bW:Int).toNat]?).bind fun fS=>
      bif (decide (0≤cw))&&(decide (cw<(((ab.set ((a:Int).toNat) (.agg [.int .i64 ((x1.cell 0).toInt),.int .i64 ((x1.cell 1).toInt),.int .i64 ((x1.cell 2).toInt)])).set ((pivot:Int).toNat) (.agg [.int .i64 ((x2.cell 0).toInt),.int .i64 ((x2.cell 1).toInt),.int .i64 ((x2.cell 2).toInt)])).length:Int))) then
       (((ab.set ((a:Int).toNat) (.agg [.int .i64 ((x1.cell 0).toInt),.int .i64 ((x1.cell 1).toInt),.int .i64 ((x1.cell 2).toInt)])).set ((pivot:Int).toNat) (.agg [.int .i64 ((x2.cell 0).toInt),.int .i64 ((x2.cell 1).toInt),.int .i64 ((x2.cell 2).toInt)]))[(cw:Int).toNat]?).bind fun jQ=>
       bif (decide (0≤cw))&&(decide (cw<(((ab.set ((a:Int).toNat) (.agg [.int .i64 ((x1.cell 0).toInt),.int .i64 ((x1.cell 1).toInt),.int .i64 ((x1.cell 2).toInt)])).set ((pivot:Int).toNat) (.agg [.int .i64 ((x2.cell 0).toInt),.int .i64 ((x2.cell 1).toInt),.int .i64 ((x2.cell 2).toInt)])).length:Int))) then
       (((ab.set ((a:Int).toNat) (.agg [.int .i64 ((x1.cell 0).toInt),.int .i64 ((x1.cell 1).toInt),.int .i64 ((x1.cell 2).toInt)])).set ((pivot:Int).toNat) (.agg [.int .i64 ((x2.cell 0).toInt),.int .i64 ((x2.cell 1).toInt),.int .i64 ((x2.cell 2).toInt)]))[(cw:Int).toNat]?).bind fun nP=>
       bif (decide (0≤bW))&&(decide (bW<((((ab.set ((a:Int).toNat) (.agg [.int .i64 ((x1.cell 0).toInt),.int .i64 ((x1.cell 1).toInt),.int .i64 ((x1.cell 2).toInt)])).set ((pivot:Int).toNat) (.agg [.int .i64 ((x2.cell 0).toInt),.int .i64 ((x2.cell 1).toInt),.int .i64 ((x2.cell 2).toInt)])).set ((cw:Int).toNat) (.agg [.int .i64 ((fS.cell 0).toInt),.int .i64 ((fS.cell 1).toInt),.int .i64 ((fS.cell 2).toInt)])).length:Int))) then
        ((((ab.set ((a:Int).toNat) (.agg [.int .i64 ((x1.cell 0).toInt),.int .i64 ((x1.cell 1).toInt),.int .i64 ((x1.cell 2).toInt)])).set ((pivot:Int).toNat) (.agg [.int .i64 ((x2.cell 0).toInt),.int .i64 ((x2.cell 1).toInt),.int .i64 ((x2.cell 2).toInt)])).set ((cw:Int).toNat) (.agg [.int .i64 ((fS.cell 0).toInt),.int .i64 ((fS.cell 1).toInt),.int .i64 ((fS.cell 2).toInt)]))[(bW:Int).toNat]?).bind fun B0=>
        (Loop (yI C a) (IntKind.wrap .i64 (cw+1),IntKind.wrap .i64 (bW-1),(((ab.set ((a:Int).toNat) (.agg [.int .i64 ((x1.cell 0).toInt),.int .i64 ((x1.cell 1).toInt),.int .i64 ((x1.cell 2).toInt)])).set ((pivot:Int).toNat) (.agg [.int .i64 ((x2.cell 0).toInt),.int .i64 ((x2.cell 1).toInt),.int .i64 ((x2.cell 2).toInt)])).set ((cw:Int).toNat) (.agg [.int .i64 ((fS.cell 0).toInt),.int .i64 ((fS.cell 1).toInt),.int .i64 ((fS.cell 2).toInt)])).set ((bW:Int).toNat) (.agg [.int .i64 ((jQ.cell 0).toInt),.int .i64 ((jQ.cell 1).toInt),.int .i64 ((jQ.cell 2).toInt)]))).bind (un fun (ah6:Int)=>un fun (gZ:Int)=>un fun (ah7:Bool) (eg:List V)=>
         bif (decide (0≤a))&&(decide (a<(eg.length:Int))) then
         (eg[(a:Int).toNat]?).bind fun fy=>
         bif (decide (0≤gZ))&&(decide (gZ<(eg.length:Int))) then
          (eg[(gZ:Int).toNat]?).bind fun lf=>
          bif (decide (0≤gZ))&&(decide (gZ<(eg.length:Int))) then
          (eg[(gZ:Int).toNat]?).bind fun x43=>
          bif (decide (0≤a))&&(decide (a<((eg.set ((gZ:Int).toNat) (.agg [.int .i64 ((fy.cell 0).toInt),.int .i64 ((fy.cell 1).toInt),.int .i64 ((fy.cell 2).toInt)])).length:Int))) then
           ((eg.set ((gZ:Int).toNat) (.agg [.int .i64 ((fy.cell 0).toInt),.int .i64 ((fy.cell 1).toInt),.int .i64 ((fy.cell 2).toInt)]))[(a:Int).toNat]?).bind fun x44=>
           some [.int .i64 gZ,.bool false,.list aj ((eg.set ((gZ:Int).toNat) (.agg [.int .i64 ((fy.cell 0).toInt),.int .i64 ((fy.cell 1).toInt),.int .i64 ((fy.cell 2).toInt)])).set ((a:Int).toNat) (.agg [.int .i64 ((lf.cell 0).toInt),.int .i64 ((lf.cell 1).toInt),.int .i64 ((lf.cell 2).toInt)]))]
          else none
          else none
         else none
         else none)
       else none
       else none
      else none
      else none))
   else none
  else none
  else none
 else none
theorem ajS {a b' pivot:Int} {ab:List V} {r:Option (List V)} (h:Y6 CC a b' pivot ab=r):CC mM [.int .i64 a,.int .i64 b',.int .i64 pivot,.list aj ab]=r:=
 bf (key:=132) (L:=Y5 CC) (bs:=[.loop (an [1,1,1,0,0,0] pZ),.loop (an [1,1,1,1,0,0,0] pZ),.loop (an [1,1,1,1,1,1,1,1,1,0,0,0] pZ)]) (by kernel_rfl) (aU (ajN CC) (aU (ajO CC) (aU (ajR CC) ao))) (Eq.trans (by kernel_rfl) h)
noncomputable abbrev yJ:Code:=ch Tryd.prog (aq.aO 131)
noncomputable def DG (C:ae) (a j:Int) (ab:List V) (i:Int) {β:Type} (kn:Int→Option β) (kr:(Int × Bool)→Option β):Option β:=
 bif decide ((i:Int)≤j) then
  bif (decide (0≤a))&&(decide (a<(ab.length:Int))) then
  (ab[(a:Int).toNat]?).bind fun x5=>
  bif (decide (0≤i))&&(decide (i<(ab.length:Int))) then
   (ab[(i:Int).toNat]?).bind fun x6=>
   (C bp [.int .i64 ((x5.cell 0).toInt),.int .i64 ((x5.cell 1).toInt),.int .i64 ((x5.cell 2).toInt),.int .i64 ((x6.cell 0).toInt),.int .i64 ((x6.cell 1).toInt),.int .i64 ((x6.cell 2).toInt)]).bind fun r7=>
   bif !(decide ((((V.nth r7 0).toInt):Int)<0)) then
   kn (IntKind.wrap .i64 (i+1))
   else
   kr (i,!(decide ((((V.nth r7 0).toInt):Int)<0)))
  else none
  else none
 else
  kr (i,false)
noncomputable def DH (C:ae) (a j:Int) (ab:List V):(Int)→Option ((Int) ⊕ (Int × Bool)):=fun i=>DG C a j ab i (fun y=>some (.inl y)) (fun r=>some (.inr r))
noncomputable def yK (C:ae) (a i:Int) (ab:List V) (j:Int) {β:Type} (kn:Int→Option β) (kr:(Int × Bool)→Option β):Option β:=
 bif decide ((i:Int)≤j) then
  bif (decide (0≤a))&&(decide (a<(ab.length:Int))) then
  (ab[(a:Int).toNat]?).bind fun eO=>
  bif (decide (0≤j))&&(decide (j<(ab.length:Int))) then
   (ab[(j:Int).toNat]?).bind fun dH=>
   (C bp [.int .i64 ((eO.cell 0).toInt),.int .i64 ((eO.cell 1).toInt),.int .i64 ((eO.cell 2).toInt),.int .i64 ((dH.cell 0).toInt),.int .i64 ((dH.cell 1).toInt),.int .i64 ((dH.cell 2).toInt)]).bind fun fw=>
   bif decide ((((V.nth fw 0).toInt):Int)<0) then
   kn (IntKind.wrap .i64 (j-1))
   else
   kr (j,decide ((((V.nth fw 0).toInt):Int)<0))
  else none
  else none
 else
  kr (j,false)
noncomputable def yL (C:ae) (a i:Int) (ab:List V):(Int)→Option ((Int) ⊕ (Int × Bool)):=fun j=>yK C a i ab j (fun y=>some (.inl y)) (fun r=>some (.inr r))
noncomputable def DI (C:ae) (a i j:Int) (ab:List V) {β:Type} (kn:(Int × Int × (List V))→Option β) (kr:(Int × Int × Bool × (List V))→Option β):Option β:=
 (Loop (DH C a j ab) i).bind (un fun (cw:Int) (mT:Bool)=>
  (Loop (yL C a cw ab) j).bind (un fun (bW:Int) (uS:Bool)=>
   bif decide ((cw:Int)>bW) then
    kr (cw,bW,decide ((cw:Int)>bW),ab)
   else
    bif (decide (0≤bW))&&(decide (bW<(ab.length:Int))) then
    (ab[(bW:Int).toNat]?).bind fun cO=>
    bif (decide (0≤cw))&&(decide (cw<(ab.length:Int))) then
     (ab[(cw:Int).toNat]?).bind fun db=>
     bif (decide (0≤cw))&&(decide (cw<(ab.length:Int))) then
     (ab[(cw:Int).toNat]?).bind fun ku=>
     bif (decide (0≤bW))&&(decide (bW<((ab.set ((cw:Int).toNat) (.agg [.int .i64 ((cO.cell 0).toInt),.int .i64 ((cO.cell 1).toInt),.int .i64 ((cO.cell 2).toInt)])).length:Int))) then
      ((ab.set ((cw:Int).toNat) (.agg [.int .i64 ((cO.cell 0).toInt),.int .i64 ((cO.cell 1).toInt),.int .i64 ((cO.cell 2).toInt)]))[(bW:Int).toNat]?).bind fun xJ=>
      kn (IntKind.wrap .i64 (cw+1),IntKind.wrap .i64 (bW-1),(ab.set ((cw:Int).toNat) (.agg [.int .i64 ((cO.cell 0).toInt),.int .i64 ((cO.cell 1).toInt),.int .i64 ((cO.cell 2).toInt)])).set ((bW:Int).toNat) (.agg [.int .i64 ((db.cell 0).toInt),.int .i64 ((db.cell 1).toInt),.int .i64 ((db.cell 2).toInt)]))
     else none
     else none
    else none
    else none))
noncomputable def yM (C:ae) (a:Int):(Int × Int × (List V))→Option ((Int × Int × (List V)) ⊕ (Int × Int × Bool × (List V))):=un fun i=>un fun j ab=>DI C a i j ab (fun y=>some (.inl y)) (fun r=>some (.inr r))
noncomputable def Y7 (C:ae):b6:=fun β n ds k=>
 bif Nat.beq n 49 then bd Mk [false,true,false,false] [[1,0,3,0,4]] (@DG C) ds k else
 bif Nat.beq n 81 then bd Ml [false,false,true,false] [[1,2,0,0,4]] (@yK C) ds k else
 bif Nat.beq n 50 then bd Mm [false,true,true,true] [[1,0,0,0,0]] (@DI C) ds k else
 none
abbrev PI (C:ae) (b:bY):Prop:=bZ Tryd.prog aq C (Y7 C) 131 (cm Tryd.prog (aq.aO 131)) (aq.sin 131).aW.length b
theorem ajT (C:ae):PI C (.loop (an [1,1,1,0,0,0,0,0,0,0] yJ)):=
 bh Mk [false,true,false,false] [[1,0,3,0,4]] (@DG C) (by kernel_rfl) (aI (bs:=[]) (by kernel_rfl) ao) (fun ds=>by kernel_rfl) (fun i x=>by kernel_rfl) (fun i x β k=>by kernel_rfl) (fun β ds k=>by kernel_rfl)
theorem ajU (C:ae):PI C (.loop (an [1,1,1,0,0,0,0,1,0,0,0] yJ)):=
 bh Ml [false,false,true,false] [[1,2,0,0,4]] (@yK C) (by kernel_rfl) (aI (bs:=[]) (by kernel_rfl) ao) (fun ds=>by kernel_rfl) (fun i x=>by kernel_rfl) (fun i x β k=>by kernel_rfl) (fun β ds k=>by kernel_rfl)
theorem ajV (C:ae):PI C (.loop (an [1,1,1,0,0,0] yJ)):=
 bh Mm [false,true,true,true] [[1,0,0,0,0]] (@DI C) (by kernel_rfl) (aI (bs:=[.loop (an [1,1,1,0,0,0,0,0,0,0] yJ),.loop (an [1,1,1,0,0,0,0,1,0,0,0] yJ)]) (by kernel_rfl) (aU (ajT C) (aU (ajU C) ao))) (fun ds=>by kernel_rfl) (fun i x=>by kernel_rfl) (fun i x β k=>by kernel_rfl) (fun β ds k=>by kernel_rfl)
noncomputable def Y8 (C:ae) (a b' pivot:Int) (ab:List V):Option (List V):=
 bif (decide (0≤pivot))&&(decide (pivot<(ab.length:Int))) then
  (ab[(pivot:Int).toNat]?).bind fun x1=>
  bif (decide (0≤a))&&(decide (a<(ab.length:Int))) then
  (ab[(a:Int).toNat]?).bind fun x2=>
  bif (decide (0≤a))&&(decide (a<(ab.length:Int))) then
   (ab[(a:Int).toNat]?).bind fun x3=>
   bif (decide (0≤pivot))&&(decide (pivot<((ab.set ((a:Int).toNat) (.agg [.int .i64 ((x1.cell 0).toInt),.int .i64 ((x1.cell 1).toInt),.int .i64 ((x1.cell 2).toInt)])).length:Int))) then
   ((ab.set ((a:Int).toNat) (.agg [.int .i64 ((x1.cell 0).toInt),.int .i64 ((x1.cell 1).toInt),.int .i64 ((x1.cell 2).toInt)]))[(pivot:Int).toNat]?).bind fun x4=>
   (Loop (yM C a) (IntKind.wrap .i64 (a+1),IntKind.wrap .i64 (b'-1),(ab.set ((a:Int).toNat) (.agg [.int .i64 ((x1.cell 0).toInt),.int .i64 ((x1.cell 1).toInt),.int .i64 ((x1.cell 2).toInt)])).set ((pivot:Int).toNat) (.agg [.int .i64 ((x2.cell 0).toInt),.int .i64 ((x2.cell 1).toInt),.int .i64 ((x2.cell 2).toInt)]))).bind (un fun (Oa:Int)=>un fun (aic:Int)=>un fun (aid:Bool) (Ob:List V)=>
    some [.int .i64 Oa,.list aj Ob])
   else none
  else none
  else none
 else none
theorem ajW {a b' pivot:Int} {ab:List V} {r:Option (List V)} (h:Y8 CC a b' pivot ab=r):CC sO [.int .i64 a,.int .i64 b',.int .i64 pivot,.list aj ab]=r:=
 bf (key:=131) (L:=Y7 CC) (bs:=[.loop (an [1,1,1,0,0,0] yJ)]) (by kernel_rfl) (aU (ajV CC) ao) (Eq.trans (by kernel_rfl) h)
noncomputable abbrev nU:Code:=ch Tryd.prog (aq.aO 130)
noncomputable def DJ (C:ae) (a b' j:Int) (ab:List V) (i:Int) {β:Type} (kn:Int→Option β) (kr:(Int × Bool)→Option β):Option β:=
 bif decide ((i:Int)<b') then
  bif (decide (0≤i))&&(decide (i<(ab.length:Int))) then
  (ab[(i:Int).toNat]?).bind fun x1=>
  bif (decide (0≤(IntKind.wrap .i64 (i-1))))&&(decide ((IntKind.wrap .i64 (i-1))<(ab.length:Int))) then
   (ab[(IntKind.wrap .i64 (i-1):Int).toNat]?).bind fun x2=>
   (C bp [.int .i64 ((x1.cell 0).toInt),.int .i64 ((x1.cell 1).toInt),.int .i64 ((x1.cell 2).toInt),.int .i64 ((x2.cell 0).toInt),.int .i64 ((x2.cell 1).toInt),.int .i64 ((x2.cell 2).toInt)]).bind fun r3=>
   bif !(decide ((((V.nth r3 0).toInt):Int)<0)) then
   kn (IntKind.wrap .i64 (i+1))
   else
   kr (i,!(decide ((((V.nth r3 0).toInt):Int)<0)))
  else none
  else none
 else
  kr (i,false)
noncomputable def DK (C:ae) (a b' j:Int) (ab:List V):(Int)→Option ((Int) ⊕ (Int × Bool)):=fun i=>DJ C a b' j ab i (fun y=>some (.inl y)) (fun r=>some (.inr r))
noncomputable def DL (C:ae) (a b' i j j':Int) (ab:List V) {β:Type} (kn:(Int × (List V))→Option β) (kr:(Int × (List V))→Option β):Option β:=
 bif decide ((j':Int)≥1) then
  bif (decide (0≤j'))&&(decide (j'<(ab.length:Int))) then
  (ab[(j':Int).toNat]?).bind fun eO=>
  bif (decide (0≤(IntKind.wrap .i64 (j'-1))))&&(decide ((IntKind.wrap .i64 (j'-1))<(ab.length:Int))) then
   (ab[(IntKind.wrap .i64 (j'-1):Int).toNat]?).bind fun dH=>
   (C bp [.int .i64 ((eO.cell 0).toInt),.int .i64 ((eO.cell 1).toInt),.int .i64 ((eO.cell 2).toInt),.int .i64 ((dH.cell 0).toInt),.int .i64 ((dH.cell 1).toInt),.int .i64 ((dH.cell 2).toInt)]).bind fun fw=>
   bif !(decide ((((V.nth fw 0).toInt):Int)<0)) then
   kr (j',ab)
   else
   bif (decide (0≤(IntKind.wrap .i64 (j'-1))))&&(decide ((IntKind.wrap .i64 (j'-1))<(ab.length:Int))) then
    (ab[(IntKind.wrap .i64 (j'-1):Int).toNat]?).bind fun dW=>
    bif (decide (0≤j'))&&(decide (j'<(ab.length:Int))) then
    (ab[(j':Int).toNat]?).bind fun gD=>
    bif (decide (0≤j'))&&(decide (j'<(ab.length:Int))) then
     (ab[(j':Int).toNat]?).bind fun cO=>
     bif (decide (0≤(IntKind.wrap .i64 (j'-1))))&&(decide ((IntKind.wrap .i64 (j'-1))<((ab.set ((j':Int).toNat) (.agg [.int .i64 ((dW.cell 0).toInt),.int .i64 ((dW.cell 1).toInt),.int .i64 ((dW.cell 2).toInt)])).length:Int))) then
     ((ab.set ((j':Int).toNat) (.agg [.int .i64 ((dW.cell 0).toInt),.int .i64 ((dW.cell 1).toInt),.int .i64 ((dW.cell 2).toInt)]))[(IntKind.wrap .i64 (j'-1):Int).toNat]?).bind fun db=>
     kn (IntKind.wrap .i64 (j'-1),(ab.set ((j':Int).toNat) (.agg [.int .i64 ((dW.cell 0).toInt),.int .i64 ((dW.cell 1).toInt),.int .i64 ((dW.cell 2).toInt)])).set ((IntKind.wrap .i64 (j'-1):Int).toNat) (.agg [.int .i64 ((gD.cell 0).toInt),.int .i64 ((gD.cell 1).toInt),.int .i64 ((gD.cell 2).toInt)]))
     else none
    else none
    else none
   else none
  else none
  else none
 else
  kr (j',ab)
noncomputable def DM (C:ae) (a b' i j:Int):(Int × (List V))→Option ((Int × (List V)) ⊕ (Int × (List V))):=un fun j' ab=>DL C a b' i j j' ab (fun y=>some (.inl y)) (fun r=>some (.inr r))
noncomputable def Ii (C:ae) (a b' i j:Int) (t65:Bool) (ab:List V) {β:Type} (kr:(List V)→Option β):Option β:=
 bif t65 then
  (Loop (DM C a b' i j) (IntKind.wrap .i64 (i-1),ab)).bind (un fun (aif:Int) (Oc:List V)=>
   kr Oc)
 else
  kr ab
noncomputable def DN (C:ae) (a b' i j j':Int) (ab:List V) {β:Type} (kn:(Int × (List V))→Option β) (kr:(Int × (List V))→Option β):Option β:=
 bif decide ((j':Int)<b') then
  bif (decide (0≤j'))&&(decide (j'<(ab.length:Int))) then
  (ab[(j':Int).toNat]?).bind fun jQ=>
  bif (decide (0≤(IntKind.wrap .i64 (j'-1))))&&(decide ((IntKind.wrap .i64 (j'-1))<(ab.length:Int))) then
   (ab[(IntKind.wrap .i64 (j'-1):Int).toNat]?).bind fun nP=>
   (C bp [.int .i64 ((jQ.cell 0).toInt),.int .i64 ((jQ.cell 1).toInt),.int .i64 ((jQ.cell 2).toInt),.int .i64 ((nP.cell 0).toInt),.int .i64 ((nP.cell 1).toInt),.int .i64 ((nP.cell 2).toInt)]).bind fun ew=>
   bif !(decide ((((V.nth ew 0).toInt):Int)<0)) then
   kr (j',ab)
   else
   bif (decide (0≤(IntKind.wrap .i64 (j'-1))))&&(decide ((IntKind.wrap .i64 (j'-1))<(ab.length:Int))) then
    (ab[(IntKind.wrap .i64 (j'-1):Int).toNat]?).bind fun fl=>
    bif (decide (0≤j'))&&(decide (j'<(ab.length:Int))) then
    (ab[(j':Int).toNat]?).bind fun la=>
    bif (decide (0≤j'))&&(decide (j'<(ab.length:Int))) then
     (ab[(j':Int).toNat]?).bind fun x25=>
     bif (decide (0≤(IntKind.wrap .i64 (j'-1))))&&(decide ((IntKind.wrap .i64 (j'-1))<((ab.set ((j':Int).toNat) (.agg [.int .i64 ((fl.cell 0).toInt),.int .i64 ((fl.cell 1).toInt),.int .i64 ((fl.cell 2).toInt)])).length:Int))) then
     ((ab.set ((j':Int).toNat) (.agg [.int .i64 ((fl.cell 0).toInt),.int .i64 ((fl.cell 1).toInt),.int .i64 ((fl.cell 2).toInt)]))[(IntKind.wrap .i64 (j'-1):Int).toNat]?).bind fun x26=>
     kn (IntKind.wrap .i64 (j'+1),(ab.set ((j':Int).toNat) (.agg [.int .i64 ((fl.cell 0).toInt),.int .i64 ((fl.cell 1).toInt),.int .i64 ((fl.cell 2).toInt)])).set ((IntKind.wrap .i64 (j'-1):Int).toNat) (.agg [.int .i64 ((la.cell 0).toInt),.int .i64 ((la.cell 1).toInt),.int .i64 ((la.cell 2).toInt)]))
     else none
    else none
    else none
   else none
  else none
  else none
 else
  kr (j',ab)
noncomputable def DO (C:ae) (a b' i j:Int):(Int × (List V))→Option ((Int × (List V)) ⊕ (Int × (List V))):=un fun j' ab=>DN C a b' i j j' ab (fun y=>some (.inl y)) (fun r=>some (.inr r))
noncomputable def DP (C:ae) (a b' i j:Int) (ab:List V) {β:Type} (kn:(Int × Int × (List V))→Option β) (kr:((Bool × (List V)) ⊕ (Int × Int × Bool × (List V)))→Option β):Option β:=
 bif decide ((j:Int)<5) then
  (Loop (DK C a b' j ab) i).bind (un fun (cE:Int) (lP:Bool)=>
   bif (cE:Int)==b' then
   kr (.inl (true,ab))
   else
   bif decide (((IntKind.wrap .i64 (b'-a)):Int)<50) then
    kr (.inl (false,ab))
   else
    bif (decide (0≤(IntKind.wrap .i64 (cE-1))))&&(decide ((IntKind.wrap .i64 (cE-1))<(ab.length:Int))) then
    (ab[(IntKind.wrap .i64 (cE-1):Int).toNat]?).bind fun x6=>
    bif (decide (0≤cE))&&(decide (cE<(ab.length:Int))) then
     (ab[(cE:Int).toNat]?).bind fun x7=>
     bif (decide (0≤cE))&&(decide (cE<(ab.length:Int))) then
     (ab[(cE:Int).toNat]?).bind fun x8=>
     bif (decide (0≤(IntKind.wrap .i64 (cE-1))))&&(decide ((IntKind.wrap .i64 (cE-1))<((ab.set ((cE:Int).toNat) (.agg [.int .i64 ((x6.cell 0).toInt),.int .i64 ((x6.cell 1).toInt),.int .i64 ((x6.cell 2).toInt)])).length:Int))) then
      ((ab.set ((cE:Int).toNat) (.agg [.int .i64 ((x6.cell 0).toInt),.int .i64 ((x6.cell 1).toInt),.int .i64 ((x6.cell 2).toInt)]))[(IntKind.wrap .i64 (cE-1):Int).toNat]?).bind fun x9=>
      Ii C a b' cE j (decide (((IntKind.wrap .i64 (cE-a)):Int)≥2)) ((ab.set ((cE:Int).toNat) (.agg [.int .i64 ((x6.cell 0).toInt),.int .i64 ((x6.cell 1).toInt),.int .i64 ((x6.cell 2).toInt)])).set ((IntKind.wrap .i64 (cE-1):Int).toNat) (.agg [.int .i64 ((x7.cell 0).toInt),.int .i64 ((x7.cell 1).toInt),.int .i64 ((x7.cell 2).toInt)])) (fun (CV:List V)=>
       bif decide (((IntKind.wrap .i64 (b'-cE)):Int)≥2) then
       (Loop (DO C a b' cE j) (IntKind.wrap .i64 (cE+1),CV)).bind (un fun (aih:Int) (Od:List V)=>
        kn (cE,IntKind.wrap .i64 (j+1),Od))
       else
       kn (cE,IntKind.wrap .i64 (j+1),CV))
     else none
     else none
    else none
    else none)
 else
  kr (.inr (i,j,decide ((j:Int)<5),ab))
noncomputable def ti (C:ae) (a b':Int):(Int × Int × (List V))→Option ((Int × Int × (List V)) ⊕ ((Bool × (List V)) ⊕ (Int × Int × Bool × (List V)))):=un fun i=>un fun j ab=>DP C a b' i j ab (fun y=>some (.inl y)) (fun r=>some (.inr r))
noncomputable def Y9 (C:ae):b6:=fun β n ds k=>
 bif Nat.beq n 81 then bd Mf [false,false,true,false,false] [[1,2,0,4,0,5]] (@DJ C) ds k else
 bif Nat.beq n 225 then bd Mg [false,false,false,false,true,true] [[1,2,3,4,0,0]] (@DL C) ds k else
 bif Nat.beq n 1055 then iq Mh [[1,2,3,4,0]] (@Ii C) ds k else
 bif Nat.beq n 321 then bd Mi [false,false,false,false,true,true] [[1,2,3,4,0,0]] (@DN C) ds k else
 bif Nat.beq n 49 then bd Mj [false,false,true,true,true] [[0,0],[1,2,0,0,0,0]] (@DP C) ds k else
 none
abbrev DQ (C:ae) (b:bY):Prop:=bZ Tryd.prog aq C (Y9 C) 130 (cm Tryd.prog (aq.aO 130)) (aq.sin 130).aW.length b
theorem ajX (C:ae):DQ C (.loop (an [1,1,0,1,0,0,1,0,0,0,0,0] nU)):=
 bh Mf [false,false,true,false,false] [[1,2,0,4,0,5]] (@DJ C) (by kernel_rfl) (aI (bs:=[]) (by kernel_rfl) ao) (fun ds=>by kernel_rfl) (fun i x=>by kernel_rfl) (fun i x β k=>by kernel_rfl) (fun β ds k=>by kernel_rfl)
theorem ajY (C:ae):DQ C (.loop (an [1,1,0,1,0,0,1,0,0,1,1,1,1,0,1,0,1,0,0] nU)):=
 bh Mg [false,false,false,false,true,true] [[1,2,3,4,0,0]] (@DL C) (by kernel_rfl) (aI (bs:=[]) (by kernel_rfl) ao) (fun ds=>by kernel_rfl) (fun i x=>by kernel_rfl) (fun i x β k=>by kernel_rfl) (fun β ds k=>by kernel_rfl)
theorem ajZ (C:ae):DQ C (.cond 65 (an [1,1,0,1,0,0,1,0,0,1,1,1,1,0,1,0] nU) (an [1,1,0,1,0,0,1,0,0,1,1,1,1,0,1,1] nU)):=
 iT Mh [[1,2,3,4,0]] (@Ii C) (by kernel_rfl) (aI (bs:=[.loop (an [1,1,0,1,0,0,1,0,0,1,1,1,1,0,1,0,1,0,0] nU)]) (by kernel_rfl) (aU (ajY C) ao)) (aI (bs:=[]) (by kernel_rfl) ao) (fun ds=>by kernel_rfl) (fun i β k=>by kernel_rfl) (fun β ds k=>by kernel_rfl)
theorem aj0 (C:ae):DQ C (.loop (an [1,1,0,1,0,0,1,0,0,1,1,1,1,1,1,0,1,0,0] nU)):=
 bh Mi [false,false,false,false,true,true] [[1,2,3,4,0,0]] (@DN C) (by kernel_rfl) (aI (bs:=[]) (by kernel_rfl) ao) (fun ds=>by kernel_rfl) (fun i x=>by kernel_rfl) (fun i x β k=>by kernel_rfl) (fun β ds k=>by kernel_rfl)
theorem aj1 (C:ae):DQ C (.loop (an [1,1,0,1,0,0] nU)):=
 bh Mj [false,false,true,true,true] [[0,0],[1,2,0,0,0,0]] (@DP C) (by kernel_rfl) (aI (bs:=[.loop (an [1,1,0,1,0,0,1,0,0,0,0,0] nU),.cond 65 (an [1,1,0,1,0,0,1,0,0,1,1,1,1,0,1,0] nU) (an [1,1,0,1,0,0,1,0,0,1,1,1,1,0,1,1] nU),.loop (an [1,1,0,1,0,0,1,0,0,1,1,1,1,1,1,0,1,0,0] nU)]) (by kernel_rfl) (aU (ajX C) (aU (ajZ C) (aU (aj0 C) ao)))) (fun ds=>by kernel_rfl) (fun i x=>by kernel_rfl) (fun i x β k=>by kernel_rfl) (fun β ds k=>by kernel_rfl)
noncomputable def Za (C:ae) (a b':Int) (ab:List V):Option (List V):=
 (Loop (ti C a b') (IntKind.wrap .i64 (a+1),0,ab)).bind (cI (un fun (Oe:Bool) (Of:List V)=>
  some [.bool Oe,.list aj Of]) (un fun (ain:Int)=>un fun (aio:Int)=>un fun (aip:Bool) (Og:List V)=>
  some [.bool false,.list aj Og]))
theorem aj2 {a b':Int} {ab:List V} {r:Option (List V)} (h:Za CC a b' ab=r):CC AK [.int .i64 a,.int .i64 b',.list aj ab]=r:=
 bf (key:=130) (L:=Y9 CC) (bs:=[.loop (an [1,1,0,1,0,0] nU)]) (by kernel_rfl) (aU (aj1 CC) ao) (Eq.trans (by kernel_rfl) h)
end Go.AM
