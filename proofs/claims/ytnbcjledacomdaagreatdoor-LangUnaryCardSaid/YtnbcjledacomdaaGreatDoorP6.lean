/-
  Functions of the program, lifted to plain data.
-/
import Derived.Test.YtnbcjledacomdaaGreatDoorP5
set_option linter.unusedVariables false
set_option linter.unusedSimpArgs false
set_option maxRecDepth 100000
set_option maxHeartbeats 4000000
namespace Go.AM
open Go.Proofs Go.Sort
variable {α:Type} [Inhabited α] [aq α]
theorem LU (d:Array α) (b i:Nat):scanSorted aK d b i=if i<b then (if aq.cmp d[i]! d[i-1]! <0 then i else scanSorted aK d b (i+1)) else i:=by
 conv=>lhs;rw[scanSorted]
 by_cases h:i<b
 ·rw[af h];simp only[h,wg,zh,uq]
  by_cases h2:aq.cmp d[i]! d[i-1]! <0
  ·rw[ag (qe h2),af h2]
  ·rw[af h2,ag h2]
 ·rw[ag h,ag (by simp[h])]
theorem adk (j:Nat) (d:Array α):shiftDown aK (j+1) d=if aq.cmp d[j+1]! d[j]! <0 then shiftDown aK j (swp d (j+1) j) else d:=by
 conv=>lhs;rw[shiftDown]
 simp only[uq]
 by_cases h2:aq.cmp d[j+1]! d[j]! <0
 ·rw[ag (qe h2),af h2]
 ·rw[af h2,ag h2]
theorem LW (b j:Nat) (d:Array α):shiftUp aK b j d=if j<b then (if aq.cmp d[j]! d[j-1]! <0 then shiftUp aK b (j+1) (swp d j (j-1)) else d) else d:=by
 conv=>lhs;rw[shiftUp]
 simp only[uq]
 by_cases h:j<b
 ·rw[af h,af h]
  by_cases h2:aq.cmp d[j]! d[j-1]! <0
  ·rw[ag (qe h2),af h2]
  ·rw[af h2,ag h2]
 ·rw[ag h,ag h]
theorem an0 {a:Nat}: ∀(n i j:Nat) (d:Array α),j+1-i≤n→(partLoop aK a i j d).2.size=d.size∧(partLoop aK a i j d).1≤j:=by
 intro n
 induction n with
 | zero=>
  intro i j d hn
  have h1:=scanUp_ge (fun x=>aK x d[a]!) d j i
  have h2:=scanDown_le (fun x=> !aK x d[a]!) d (scanUp (fun x=>aK x d[a]!) d j i) j
  rw[partLoop_eq,aZ]
  exact ⟨rfl,h2⟩
 | succ n ih=>
  intro i j d hn
  rw[partLoop_eq]
  have h1:=scanUp_ge (fun x=>aK x d[a]!) d j i
  have h2:=scanDown_le (fun x=> !aK x d[a]!) d (scanUp (fun x=>aK x d[a]!) d j i) j
  split
  ·exact ⟨rfl,h2⟩
  ·obtain ⟨h3,h4⟩:=ih (scanUp (fun x=>aK x d[a]!) d j i+1) (scanDown (fun x=> !aK x d[a]!) d (scanUp (fun x=>aK x d[a]!) d j i) j-1) (swp d (scanUp (fun x=>aK x d[a]!) d j i) (scanDown (fun x=> !aK x d[a]!) d (scanUp (fun x=>aK x d[a]!) d j i) j)) (by omega)
   exact ⟨by rw[h3,size_swp],by omega⟩
theorem mg {β:Type} {d:Array α} {i:Nat} {f:V→Option β} (h:i<d.size:=by omega):ar (eA d) (i:Int) f=f (aq.enc (d[i]!)):=by
 unfold ar;rw[iy,dx,aG,aZ,aG,aZ,Int.toNat_natCast,iz h];rfl
theorem an1 {a j:Nat} {d:Array α} (ha:a<d.size) (hj:j<d.size) (hs:d.size<1152921504606846976): ∀(n i:Nat),j+1-i=n→i≤d.size→
  ∃t,Loop (FW (aq.E α) CC a j (eA d)) (i:Int)=some (((scanUp (fun x=>aK x d[a]!) d j i:Nat):Int),t):=by
 intro n
 induction n with
 | zero=>
  intro i hn hi
  rw[A9,bK]
  exact ⟨false,cI (by simp (disch:=omega) only[FW,yE,aG,ag])⟩
 | succ n ih=>
  intro i hn hi
  obtain ⟨t,h⟩:=ih (i+1) (by omega) (by omega)
  rw[A9,aZ]
  have e:FW (aq.E α) CC a j (eA d) (i:Int)=if aq.cmp d[i]! d[a]! <0 then some (.inl ((i+1:Nat):Int)) else some (.inr ((i:Int),decide (aq.cmp d[i]! d[a]! <0))):=by
   simp (disch:=omega) only[FW,yE,aG,dx,iu,af,ag,wrap64,dP,g9,Int.toNat_natCast,Option.bind_some,iy,iz,aq.re,gZ,jI,iX,aq.cs,V.bZ,V.toInt_int,cond_true,cond_false]
  simp only[v5]
  by_cases h2:aq.cmp d[i]! d[a]! <0
  ·rw[af h2] at e
   rw[af h2]
   exact ⟨t,(eQ e).trans h⟩
  ·rw[ag h2] at e
   rw[ag h2]
   exact ⟨_,cI e⟩
theorem adl {a j:Nat} {d:Array α} (ha:a<d.size) (hj:j<d.size) (hs:d.size<1152921504606846976): ∀(n i:Nat),j+1-i=n→i≤d.size→
  ∃t,Loop (FX (aq.E α) CC a j (eA d)) (i:Int)=some (((scanUp (fun x=>aK x d[a]!) d j i:Nat):Int),t):=by
 intro n
 induction n with
 | zero=>
  intro i hn hi
  rw[A9,bK]
  exact ⟨false,cI (by simp (disch:=omega) only[FX,yF,aG,ag])⟩
 | succ n ih=>
  intro i hn hi
  obtain ⟨t,h⟩:=ih (i+1) (by omega) (by omega)
  rw[A9,aZ]
  have e:FX (aq.E α) CC a j (eA d) (i:Int)=if aq.cmp d[i]! d[a]! <0 then some (.inl ((i+1:Nat):Int)) else some (.inr ((i:Int),decide (aq.cmp d[i]! d[a]! <0))):=by
   simp (disch:=omega) only[FX,yF,aG,dx,iu,af,ag,wrap64,dP,g9,Int.toNat_natCast,Option.bind_some,iy,iz,aq.re,gZ,jI,iX,aq.cs,V.bZ,V.toInt_int,cond_true,cond_false]
  simp only[v5]
  by_cases h2:aq.cmp d[i]! d[a]! <0
  ·rw[af h2] at e
   rw[af h2]
   exact ⟨t,(eQ e).trans h⟩
  ·rw[ag h2] at e
   rw[ag h2]
   exact ⟨_,cI e⟩
theorem adm {a i:Nat} {d:Array α} (ha:a<d.size) (hi:1≤i) (hs:d.size<1152921504606846976): ∀(j:Nat),j<d.size→
  ∃t,Loop (Bg (aq.E α) CC a i (eA d)) (j:Int)=some (((scanDown (fun x=> !aK x d[a]!) d i j:Nat):Int),t)
 | 0,hj=>⟨false,cI (by simp (disch:=omega) only[Bg,vS,aG,ag];rfl)⟩
 | j+1,hj=>by
  obtain ⟨t,h⟩:=adm ha hi hs j (by omega)
  rw[S4]
  by_cases h1:i≤j+1
  ·rw[af h1]
   have e:Bg (aq.E α) CC a i (eA d) ((j+1:Nat):Int)=if aq.cmp d[j+1]! d[a]! <0 then some (.inr (((j+1:Nat):Int),!decide (aq.cmp d[j+1]! d[a]! <0))) else some (.inl (j:Int)):=by
    simp (disch:=omega) only[Bg,vS,aG,dx,iu,af,ag,wrap64,dP,g9,Int.toNat_natCast,Option.bind_some,iy,iz,aq.re,gZ,jI,iX,aq.cs,V.bZ,V.toInt_int,cond_true,cond_false,vP]
   simp only[uq]
   by_cases h2:aq.cmp d[j+1]! d[a]! <0
   ·rw[af h2] at e
    rw[ag (qe h2)]
    exact ⟨_,cI e⟩
   ·rw[ag h2] at e
    rw[af h2]
    exact ⟨t,(eQ e).trans h⟩
  ·rw[ag h1]
   exact ⟨false,cI (by simp (disch:=omega) only[Bg,vS,aG,ag])⟩
theorem TB {a i:Nat} {d:Array α} (ha:a<d.size) (hi:1≤i) (hs:d.size<1152921504606846976): ∀(j:Nat),j<d.size→
  ∃t,Loop (Bi (aq.E α) CC a i (eA d)) (j:Int)=some (((scanDown (fun x=> !aK x d[a]!) d i j:Nat):Int),t)
 | 0,hj=>⟨false,cI (by simp (disch:=omega) only[Bi,vT,aG,ag];rfl)⟩
 | j+1,hj=>by
  obtain ⟨t,h⟩:=TB ha hi hs j (by omega)
  rw[S4]
  by_cases h1:i≤j+1
  ·rw[af h1]
   have e:Bi (aq.E α) CC a i (eA d) ((j+1:Nat):Int)=if aq.cmp d[j+1]! d[a]! <0 then some (.inr (((j+1:Nat):Int),!decide (aq.cmp d[j+1]! d[a]! <0))) else some (.inl (j:Int)):=by
    simp (disch:=omega) only[Bi,vT,aG,dx,iu,af,ag,wrap64,dP,g9,Int.toNat_natCast,Option.bind_some,iy,iz,aq.re,gZ,jI,iX,aq.cs,V.bZ,V.toInt_int,cond_true,cond_false,vP]
   simp only[uq]
   by_cases h2:aq.cmp d[j+1]! d[a]! <0
   ·rw[af h2] at e
    rw[ag (qe h2)]
    exact ⟨_,cI e⟩
   ·rw[ag h2] at e
    rw[af h2]
    exact ⟨t,(eQ e).trans h⟩
  ·rw[ag h1]
   exact ⟨false,cI (by simp (disch:=omega) only[Bi,vT,aG,ag])⟩
theorem adn {a j:Nat} {d:Array α} (ha:a<d.size) (hj:j<d.size) (hs:d.size<1152921504606846976): ∀(n i:Nat),j+1-i=n→i≤d.size→
  ∃t,Loop (FZ (aq.E α) CC a j (eA d)) (i:Int)=some (((scanUp (fun x=> !aK d[a]! x) d j i:Nat):Int),t):=by
 intro n
 induction n with
 | zero=>
  intro i hn hi
  rw[A9,bK]
  exact ⟨false,cI (by simp (disch:=omega) only[FZ,yI,aG,ag])⟩
 | succ n ih=>
  intro i hn hi
  obtain ⟨t,h⟩:=ih (i+1) (by omega) (by omega)
  rw[A9,aZ]
  have e:FZ (aq.E α) CC a j (eA d) (i:Int)=if aq.cmp d[a]! d[i]! <0 then some (.inr ((i:Int),!decide (aq.cmp d[a]! d[i]! <0))) else some (.inl ((i+1:Nat):Int)):=by
   simp (disch:=omega) only[FZ,yI,aG,dx,iu,af,ag,wrap64,dP,g9,Int.toNat_natCast,Option.bind_some,iy,iz,aq.re,gZ,jI,iX,aq.cs,V.bZ,V.toInt_int,cond_true,cond_false]
  simp only[uq]
  by_cases h2:aq.cmp d[a]! d[i]! <0
  ·rw[af h2] at e
   rw[ag (qe h2)]
   exact ⟨_,cI e⟩
  ·rw[ag h2] at e
   rw[af h2]
   exact ⟨t,(eQ e).trans h⟩
theorem TC {a i:Nat} {d:Array α} (ha:a<d.size) (hi:1≤i) (hs:d.size<1152921504606846976): ∀(j:Nat),j<d.size→
  ∃t,Loop (Bk (aq.E α) CC a i (eA d)) (j:Int)=some (((scanDown (fun x=>aK d[a]! x) d i j:Nat):Int),t)
 | 0,hj=>⟨false,cI (by simp (disch:=omega) only[Bk,vV,aG,ag];rfl)⟩
 | j+1,hj=>by
  obtain ⟨t,h⟩:=TC ha hi hs j (by omega)
  rw[S4]
  by_cases h1:i≤j+1
  ·rw[af h1]
   have e:Bk (aq.E α) CC a i (eA d) ((j+1:Nat):Int)=if aq.cmp d[a]! d[j+1]! <0 then some (.inl (j:Int)) else some (.inr (((j+1:Nat):Int),decide (aq.cmp d[a]! d[j+1]! <0))):=by
    simp (disch:=omega) only[Bk,vV,aG,dx,iu,af,ag,wrap64,dP,g9,Int.toNat_natCast,Option.bind_some,iy,iz,aq.re,gZ,jI,iX,aq.cs,V.bZ,V.toInt_int,cond_true,cond_false,vP]
   simp only[v5]
   by_cases h2:aq.cmp d[a]! d[j+1]! <0
   ·rw[af h2] at e
    rw[af h2]
    exact ⟨t,(eQ e).trans h⟩
   ·rw[ag h2] at e
    rw[ag h2]
    exact ⟨_,cI e⟩
  ·rw[ag h1]
   exact ⟨false,cI (by simp (disch:=omega) only[Bk,vV,aG,ag])⟩
theorem an2 {a:Nat}: ∀(n i j:Nat) (d:Array α),j+1-i≤n→1≤i→i≤d.size→a<d.size→j<d.size→d.size<1152921504606846976→
  ∃x z,Loop (Bj (aq.E α) CC a) ((i:Int),(j:Int),eA d)=some (x,(((partLoop aK a i j d).1:Nat):Int),z,eA (partLoop aK a i j d).2):=by
 intro n
 induction n with
 | zero=>
  intro i j d hn h1 h2 ha hj hs
  obtain ⟨t3,e3⟩:=adl (a:=a) ha hj hs _ i rfl h2
  have g1:=scanUp_ge (fun x=>aK x d[a]!) d j i
  have g2:=scanDown_le (fun x=> !aK x d[a]!) d (scanUp (fun x=>aK x d[a]!) d j i) j
  obtain ⟨t4,e4⟩:=TB (a:=a) (i:=scanUp (fun x=>aK x d[a]!) d j i) ha (by omega) hs j hj
  rw[partLoop_eq,aZ]
  refine ⟨((scanUp (fun x=>aK x d[a]!) d j i:Nat):Int),true,cI ?_⟩
  simp only[Bj,yG,un]
  rw[e3]
  simp only[Option.bind_some,un]
  rw[e4]
  simp (disch:=omega) only[Option.bind_some,un,pO,cond_true]
 | succ n ih=>
  intro i j d hn h1 h2 ha hj hs
  obtain ⟨t3,e3⟩:=adl (a:=a) ha hj hs _ i rfl h2
  have g1:=scanUp_ge (fun x=>aK x d[a]!) d j i
  have g2:=scanDown_le (fun x=> !aK x d[a]!) d (scanUp (fun x=>aK x d[a]!) d j i) j
  obtain ⟨t4,e4⟩:=TB (a:=a) (i:=scanUp (fun x=>aK x d[a]!) d j i) ha (by omega) hs j hj
  rw[partLoop_eq]
  have f:Bj (aq.E α) CC a ((i:Int),(j:Int),eA d)=Bj (aq.E α) CC a ((i:Int),(j:Int),eA d):=rfl
  conv at f=>rhs;simp only[Bj,yG,un];rw[e3];simp only[Option.bind_some,un];rw[e4];simp only[Option.bind_some,un]
  generalize kD:scanUp (fun x=>aK x d[a]!) d j i=i2 at*
  generalize cK:scanDown (fun x=> !aK x d[a]!) d i2 j=j2 at*
  by_cases h:i2>j2
  ·rw[af h]
   refine ⟨(i2:Int),true,cI (f.trans ?_)⟩
   simp (disch:=omega) only[Option.bind_some,pO,cond_true]
  ·rw[ag h]
   obtain ⟨x,z,e⟩:=ih (i2+1) (j2-1) (swp d i2 j2) (by omega) (by omega) (by rw[size_swp];omega) (by rw[size_swp];omega) (by rw[size_swp];omega) (by rw[size_swp];omega)
   refine ⟨x,z,(eQ (f.trans ?_)).trans e⟩
   simp (disch:=omega) only[aG,dx,iu,af,ag,wrap64,dP,g9,Int.toNat_natCast,Option.bind_some,iy,iz,aq.re,gZ,jI,iX,aq.cs,V.bZ,V.toInt_int,cond_true,cond_false,ll]
   rfl
theorem an3 (d:Array α) (a b pivot:Nat):partition aK d a b pivot=
  if scanUp (fun x=>aK x (swp d a pivot)[a]!) (swp d a pivot) (b-1) (a+1)>scanDown (fun x=> !aK x (swp d a pivot)[a]!) (swp d a pivot) (scanUp (fun x=>aK x (swp d a pivot)[a]!) (swp d a pivot) (b-1) (a+1)) (b-1) then
   (scanDown (fun x=> !aK x (swp d a pivot)[a]!) (swp d a pivot) (scanUp (fun x=>aK x (swp d a pivot)[a]!) (swp d a pivot) (b-1) (a+1)) (b-1),true,swp (swp d a pivot) (scanDown (fun x=> !aK x (swp d a pivot)[a]!) (swp d a pivot) (scanUp (fun x=>aK x (swp d a pivot)[a]!) (swp d a pivot) (b-1) (a+1)) (b-1)) a)
  else
   ((partLoop aK a (scanUp (fun x=>aK x (swp d a pivot)[a]!) (swp d a pivot) (b-1) (a+1)+1) (scanDown (fun x=> !aK x (swp d a pivot)[a]!) (swp d a pivot) (scanUp (fun x=>aK x (swp d a pivot)[a]!) (swp d a pivot) (b-1) (a+1)) (b-1)-1) (swp (swp d a pivot) (scanUp (fun x=>aK x (swp d a pivot)[a]!) (swp d a pivot) (b-1) (a+1)) (scanDown (fun x=> !aK x (swp d a pivot)[a]!) (swp d a pivot) (scanUp (fun x=>aK x (swp d a pivot)[a]!) (swp d a pivot) (b-1) (a+1)) (b-1)))).1,false,
    swp (partLoop aK a (scanUp (fun x=>aK x (swp d a pivot)[a]!) (swp d a pivot) (b-1) (a+1)+1) (scanDown (fun x=> !aK x (swp d a pivot)[a]!) (swp d a pivot) (scanUp (fun x=>aK x (swp d a pivot)[a]!) (swp d a pivot) (b-1) (a+1)) (b-1)-1) (swp (swp d a pivot) (scanUp (fun x=>aK x (swp d a pivot)[a]!) (swp d a pivot) (b-1) (a+1)) (scanDown (fun x=> !aK x (swp d a pivot)[a]!) (swp d a pivot) (scanUp (fun x=>aK x (swp d a pivot)[a]!) (swp d a pivot) (b-1) (a+1)) (b-1)))).2
    (partLoop aK a (scanUp (fun x=>aK x (swp d a pivot)[a]!) (swp d a pivot) (b-1) (a+1)+1) (scanDown (fun x=> !aK x (swp d a pivot)[a]!) (swp d a pivot) (scanUp (fun x=>aK x (swp d a pivot)[a]!) (swp d a pivot) (b-1) (a+1)) (b-1)-1) (swp (swp d a pivot) (scanUp (fun x=>aK x (swp d a pivot)[a]!) (swp d a pivot) (b-1) (a+1)) (scanDown (fun x=> !aK x (swp d a pivot)[a]!) (swp d a pivot) (scanUp (fun x=>aK x (swp d a pivot)[a]!) (swp d a pivot) (b-1) (a+1)) (b-1)))).1 a):=rfl
theorem Bp (d:Array α) (i j:Nat):eA ((d.setIfInBounds i d[j]!).setIfInBounds j d[i]!)=eA (swp d i j):=rfl
theorem an4 {a b pivot:Nat} {d:Array α} (hp:pivot<b) (fN:a<b) (hb:b≤d.size) (hs:d.size<1152921504606846976):
  CC ((aq.E α).k 4) [.int .i64 (a:Int),.int .i64 (b:Int),.int .i64 (pivot:Int),.list (aq.E α).T (eA d)]=
   some [.int .i64 ((partition aK d a b pivot).1:Int),.bool (partition aK d a b pivot).2.1,.list (aq.E α).T (eA (partition aK d a b pivot).2.2)]:=by
 refine aq.Tr ?_
 unfold LD
 have z1:(swp d a pivot).size=d.size:=size_swp ..
 obtain ⟨t1,e1⟩:=an1 (a:=a) (j:=b-1) (d:=swp d a pivot) (by omega) (by omega) (by omega) _ (a+1) rfl (by omega)
 have g1:=scanUp_ge (fun x=>aK x (swp d a pivot)[a]!) (swp d a pivot) (b-1) (a+1)
 have g2:=scanDown_le (fun x=> !aK x (swp d a pivot)[a]!) (swp d a pivot) (scanUp (fun x=>aK x (swp d a pivot)[a]!) (swp d a pivot) (b-1) (a+1)) (b-1)
 obtain ⟨t2,e2⟩:=adm (a:=a) (i:=scanUp (fun x=>aK x (swp d a pivot)[a]!) (swp d a pivot) (b-1) (a+1)) (d:=swp d a pivot) (by omega) (by omega) (by omega) (b-1) (by omega)
 have e0:=an3 d a b pivot
 rw[mg (i:=pivot),mg (i:=a),mg (i:=a),LR (i:=pivot)]
 simp only[aq.re,Int.toNat_natCast,gZ,Bp]
 simp (disch:=omega) only[ll,dP,wrap64]
 rw[e1]
 simp only[Option.bind_some,un]
 rw[e2]
 simp only[Option.bind_some,un]
 generalize kD:scanUp (fun x=>aK x (swp d a pivot)[a]!) (swp d a pivot) (b-1) (a+1)=i2 at*
 generalize cK:scanDown (fun x=> !aK x (swp d a pivot)[a]!) (swp d a pivot) i2 (b-1)=j2 at*
 generalize swp d a pivot=d1 at*
 by_cases h:i2>j2
 ·rw[af h] at e0
  rw[e0,aG,aZ]
  rw[mg (i:=a),mg (i:=j2)];rw[mg (i:=j2),LR (i:=a)]
  simp only[aq.re,Int.toNat_natCast,gZ,Bp]
 ·rw[ag h] at e0
  rw[e0,aG,bK]
  have z2:(swp d1 i2 j2).size=d1.size:=size_swp ..
  obtain ⟨x,z,e5⟩:=an2 (a:=a) _ (i2+1) (j2-1) (swp d1 i2 j2) (aw _) (by omega) (by omega) (by omega) (by omega) (by omega)
  obtain ⟨q1,q2⟩:=an0 (a:=a) _ (i2+1) (j2-1) (swp d1 i2 j2) (aw _)
  rw[mg (i:=j2),mg (i:=i2)];rw[mg (i:=i2),LR (i:=j2)]
  simp only[aq.re,Int.toNat_natCast,gZ,Bp]
  simp (disch:=omega) only[ll,dP,wrap64]
  rw[e5]
  generalize partLoop aK a (i2+1) (j2-1) (swp d1 i2 j2)=r at*
  simp only[Option.bind_some,un]
  rw[mg (i:=a),mg (i:=r.1)];rw[mg (i:=r.1),LR (i:=a)]
  simp only[aq.re,Int.toNat_natCast,gZ,Bp]
theorem an5 {a:Nat}: ∀(n i j:Nat) (d:Array α),j+1-i≤n→1≤i→i≤d.size→a<d.size→j<d.size→d.size<1152921504606846976→
  ∃x z,Loop (Bl (aq.E α) CC a) ((i:Int),(j:Int),eA d)=some ((((partEqLoop aK a i j d).1:Nat):Int),x,z,eA (partEqLoop aK a i j d).2):=by
 intro n
 induction n with
 | zero=>
  intro i j d hn h1 h2 ha hj hs
  obtain ⟨t3,e3⟩:=adn (a:=a) ha hj hs _ i rfl h2
  have g1:=scanUp_ge (fun x=> !aK d[a]! x) d j i
  have g2:=scanDown_le (fun x=>aK d[a]! x) d (scanUp (fun x=> !aK d[a]! x) d j i) j
  obtain ⟨t4,e4⟩:=TC (a:=a) (i:=scanUp (fun x=> !aK d[a]! x) d j i) ha (by omega) hs j hj
  rw[partEqLoop_eq,aZ]
  refine ⟨((scanDown (fun x=>aK d[a]! x) d (scanUp (fun x=> !aK d[a]! x) d j i) j:Nat):Int),true,cI ?_⟩
  simp only[Bl,yJ,un]
  rw[e3]
  simp only[Option.bind_some,un]
  rw[e4]
  simp (disch:=omega) only[Option.bind_some,un,pO,cond_true]
 | succ n ih=>
  intro i j d hn h1 h2 ha hj hs
  obtain ⟨t3,e3⟩:=adn (a:=a) ha hj hs _ i rfl h2
  have g1:=scanUp_ge (fun x=> !aK d[a]! x) d j i
  have g2:=scanDown_le (fun x=>aK d[a]! x) d (scanUp (fun x=> !aK d[a]! x) d j i) j
  obtain ⟨t4,e4⟩:=TC (a:=a) (i:=scanUp (fun x=> !aK d[a]! x) d j i) ha (by omega) hs j hj
  rw[partEqLoop_eq]
  have f:Bl (aq.E α) CC a ((i:Int),(j:Int),eA d)=Bl (aq.E α) CC a ((i:Int),(j:Int),eA d):=rfl
  conv at f=>rhs;simp only[Bl,yJ,un];rw[e3];simp only[Option.bind_some,un];rw[e4];simp only[Option.bind_some,un]
  generalize kD:scanUp (fun x=> !aK d[a]! x) d j i=i2 at*
  generalize cK:scanDown (fun x=>aK d[a]! x) d i2 j=j2 at*
  by_cases h:i2>j2
  ·rw[af h]
   refine ⟨(j2:Int),true,cI (f.trans ?_)⟩
   simp (disch:=omega) only[Option.bind_some,pO,cond_true]
  ·rw[ag h]
   obtain ⟨x,z,e⟩:=ih (i2+1) (j2-1) (swp d i2 j2) (by omega) (by omega) (by rw[size_swp];omega) (by rw[size_swp];omega) (by rw[size_swp];omega) (by rw[size_swp];omega)
   refine ⟨x,z,(eQ (f.trans ?_)).trans e⟩
   simp (disch:=omega) only[aG,dx,iu,af,ag,wrap64,dP,g9,Int.toNat_natCast,Option.bind_some,iy,iz,aq.re,gZ,jI,iX,aq.cs,V.bZ,V.toInt_int,cond_true,cond_false,ll]
   rfl
theorem an6 {a b pivot:Nat} {d:Array α} (hp:pivot<b) (fN:a<b) (hb:b≤d.size) (hs:d.size<1152921504606846976):
  CC ((aq.E α).k 5) [.int .i64 (a:Int),.int .i64 (b:Int),.int .i64 (pivot:Int),.list (aq.E α).T (eA d)]=
   some [.int .i64 ((partitionEqual aK d a b pivot).1:Int),.list (aq.E α).T (eA (partitionEqual aK d a b pivot).2)]:=by
 refine aq.Ts ?_
 unfold LG
 have z1:(swp d a pivot).size=d.size:=size_swp ..
 obtain ⟨x,z,e⟩:=an5 (a:=a) _ (a+1) (b-1) (swp d a pivot) (aw _) (by omega) (by omega) (by omega) (by omega) (by omega)
 simp (disch:=omega) only[aG,dx,af,iy,iz,Int.toNat_natCast,Option.bind_some,aq.re,gZ,jI,iX,ll,dP,wrap64,Bp]
 rw[e]
 rfl
theorem an7 {a b j:Nat} {d:Array α} (hb:b≤d.size) (hs:d.size<1152921504606846976): ∀(n i:Nat),b-i=n→1≤i→i≤b→
  ∃t,Loop (F0 (aq.E α) CC a b j (eA d)) (i:Int)=some (((scanSorted aK d b i:Nat):Int),t):=by
 intro n
 induction n with
 | zero=>
  intro i hn h1 hi
  rw[LU,bK]
  exact ⟨false,cI (by simp (disch:=omega) only[F0,yK,aG,ag])⟩
 | succ n ih=>
  intro i hn h1 hi
  obtain ⟨t,h⟩:=ih (i+1) (by omega) (by omega) (by omega)
  rw[LU,aZ]
  have e:F0 (aq.E α) CC a b j (eA d) (i:Int)=if aq.cmp d[i]! d[i-1]! <0 then some (.inr ((i:Int),!decide (aq.cmp d[i]! d[i-1]! <0))) else some (.inl ((i+1:Nat):Int)):=by
   simp (disch:=omega) only[F0,yK,ll,aG,dx,iu,af,ag,wrap64,dP,g9,Int.toNat_natCast,Option.bind_some,iy,iz,aq.re,gZ,jI,iX,aq.cs,V.bZ,V.toInt_int,cond_true,cond_false]
  by_cases h2:aq.cmp d[i]! d[i-1]! <0
  ·rw[af h2] at e⊢
   exact ⟨_,cI e⟩
  ·rw[ag h2] at e⊢
   exact ⟨t,(eQ e).trans h⟩
theorem ado: ∀(j:Nat) (d:Array α),(shiftDown aK j d).size=d.size
 | 0,_=>rfl
 | j+1,d=>by
  rw[adk]
  split
  ·rw[ado j,size_swp]
  ·rfl
theorem an8 {b:Nat}: ∀(n j:Nat) (d:Array α),b-j=n→(shiftUp aK b j d).size=d.size:=by
 intro n
 induction n with
 | zero=>intro j d h;rw[LW,bK]
 | succ n ih=>
  intro j d h
  rw[LW,aZ]
  split
  ·rw[ih _ _ (by omega),size_swp]
  ·rfl
theorem adp {a b i k:Nat}: ∀(j:Nat) (d:Array α),j<d.size→d.size<1152921504606846976→
  ∃t,Loop (F3 (aq.E α) CC a b i k) ((j:Int),eA d)=some (t,eA (shiftDown aK j d))
 | 0,d,hj,hs=>⟨(0:Nat),cI (by
   simp (disch:=omega) only[F3,yL,un,aG,ag]
   rfl)⟩
 | j+1,d,hj,hs=>by
  obtain ⟨t,ih⟩:=adp (a:=a) (b:=b) (i:=i) (k:=k) j (swp d (j+1) j) (by rw[size_swp];omega) (by rw[size_swp];omega)
  rw[adk]
  have e:F3 (aq.E α) CC a b i k (((j+1:Nat):Int),eA d)=if aq.cmp d[j+1]! d[j]! <0 then some (.inl ((j:Int),eA (swp d (j+1) j))) else some (.inr (((j+1:Nat):Int),eA d)):=by
   simp (disch:=omega) only[F3,yL,un,aG,dx,iu,af,ag,wrap64,dP,g9,Int.toNat_natCast,Option.bind_some,iy,iz,aq.re,gZ,jI,iX,aq.cs,V.bZ,V.toInt_int,cond_true,cond_false,vP]
   rfl
  by_cases h2:aq.cmp d[j+1]! d[j]! <0
  ·rw[af h2] at e⊢
   exact ⟨t,(eQ e).trans ih⟩
  ·rw[ag h2] at e⊢
   exact ⟨_,cI e⟩
theorem an9 {a b i k:Nat}: ∀(n j:Nat) (d:Array α),b-j=n→1≤j→j≤b→b≤d.size→d.size<1152921504606846976→
  ∃t,Loop (F4 (aq.E α) CC a b i k) ((j:Int),eA d)=some (t,eA (shiftUp aK b j d)):=by
 intro n
 induction n with
 | zero=>
  intro j d hn h1 hj hb hs
  rw[LW,bK]
  exact ⟨(j:Int),cI (by
   simp (disch:=omega) only[F4,yM,un,aG,ag])⟩
 | succ n ih=>
  intro j d hn h1 hj hb hs
  obtain ⟨t,h⟩:=ih (j+1) (swp d j (j-1)) (by omega) (by omega) (by omega) (by rw[size_swp];omega) (by rw[size_swp];omega)
  rw[LW,aZ]
  have e:F4 (aq.E α) CC a b i k ((j:Int),eA d)=if aq.cmp d[j]! d[j-1]! <0 then some (.inl (((j+1:Nat):Int),eA (swp d j (j-1)))) else some (.inr ((j:Int),eA d)):=by
   simp (disch:=omega) only[F4,yM,un,ll,aG,dx,iu,af,ag,wrap64,dP,g9,Int.toNat_natCast,Option.bind_some,iy,iz,aq.re,gZ,jI,iX,aq.cs,V.bZ,V.toInt_int,cond_true,cond_false]
   rfl
  by_cases h2:aq.cmp d[j]! d[j-1]! <0
  ·rw[af h2] at e⊢
   exact ⟨t,(eQ e).trans h⟩
  ·rw[ag h2] at e⊢
   exact ⟨_,cI e⟩
theorem aoa {d:Array α} {b:Nat}: ∀(n i:Nat),b-i=n→i≤b→i≤scanSorted aK d b i∧scanSorted aK d b i≤b:=by
 intro n
 induction n with
 | zero=>intro i hn hi;rw[LU,bK];omega
 | succ n ih=>
  intro i hn hi
  rw[LU,aZ]
  obtain ⟨h1,h2⟩:=ih (i+1) (by omega) (by omega)
  split<;>omega
theorem aob {a b:Nat}: ∀(s i:Nat) (d:Array α),s≤5→a<i→i≤b→b≤d.size→d.size<1152921504606846976→
  (Loop (vW (aq.E α) CC a b) ((i:Int),((5-s:Nat):Int),eA d)=some (.inl ((partialIns aK a b s i d).2,eA (partialIns aK a b s i d).1)))∨
  (∃x y z,(partialIns aK a b s i d).2=false∧Loop (vW (aq.E α) CC a b) ((i:Int),((5-s:Nat):Int),eA d)=some (.inr (x,y,z,eA (partialIns aK a b s i d).1))):=by
 intro s
 induction s with
 | zero=>
  intro i d hs5 hi TD hb hs
  refine .inr ⟨(i:Int),((5:Nat):Int),false,rfl,cI ?_⟩
  simp (disch:=omega) only[vW,yN,un,pP,cond_false]
  rfl
 | succ s ih=>
  intro i d hs5 hi TD hb hs
  obtain ⟨t1,e1⟩:=an7 (a:=a) (j:=5-(s+1)) hb hs _ i rfl (by omega) TD
  obtain ⟨q1,q2⟩:=aoa (d:=d) _ i rfl TD
  rw[partialIns_succ]
  have f:vW (aq.E α) CC a b ((i:Int),((5-(s+1):Nat):Int),eA d)=vW (aq.E α) CC a b ((i:Int),((5-(s+1):Nat):Int),eA d):=rfl
  conv at f=>rhs;simp only[vW,yN,un];rw[aG,aZ,e1];simp only[Option.bind_some,un]
  generalize scanSorted aK d b i=k at*
  by_cases h1:k=b
  ·rw[af h1]
   left
   refine cI (f.trans ?_)
   rw[pw,aZ]
  ·rw[ag h1]
   by_cases h2:b-a<50
   ·rw[af h2]
    left
    refine cI (f.trans ?_)
    rw[pw,bK,dr,aG,aZ]
   ·rw[ag h2]
    have z1:(swp d k (k-1)).size=d.size:=size_swp ..
    have z2:(fixDown aK a k (swp d k (k-1))).size=d.size:=by
     unfold fixDown
     split
     ·rw[ado,z1]
     ·exact z1
    have z3:(fixUp aK b k (fixDown aK a k (swp d k (k-1)))).size=d.size:=by
     unfold fixUp
     split
     ·rw[an8 _ _ _ rfl,z2]
     ·exact z2
    obtain ⟨t2,e2⟩:=adp (a:=a) (b:=b) (i:=k) (k:=5-(s+1)) (k-1) (swp d k (k-1)) (by omega) (by omega)
    obtain ⟨t4,e4⟩:=an9 (a:=a) (b:=b) (i:=k) (k:=5-(s+1)) _ (k+1) (fixDown aK a k (swp d k (k-1))) rfl (by omega) (by omega) (by omega) (by omega)
    have e5:vW (aq.E α) CC a b ((i:Int),((5-(s+1):Nat):Int),eA d)=some (.inl ((k:Int),((5-s:Nat):Int),eA (fixUp aK b k (fixDown aK a k (swp d k (k-1)))))):=by
     refine f.trans ?_
     rw[pw,bK,dr,aG,bK]
     simp (disch:=omega) only[aG,dx,af,iy,iz,Int.toNat_natCast,Option.bind_some,aq.re,gZ,jI,iX,ll,dP,oN,wrap64,Bp,Bm]
     rw[show 5-(s+1)+1=5-s by omega]
     unfold fixDown at e4⊢
     unfold fixUp
     have c1:(((k-a:Nat):Int)≥2)=(k-a≥2):=propext (by omega)
     have c2:(((b-k:Nat):Int)≥2)=(b-k≥2):=propext (by omega)
     simp only[c1,c2]
     by_cases g1:k-a≥2
     ·by_cases g2:b-k≥2
      ·simp only[g1,g2,jO,e2,Option.bind_some,un] at e4⊢
       rw[e4]
       rfl
      ·simp only[g1,g2,jO,lz,e2,Option.bind_some,un]
     ·by_cases g2:b-k≥2
      ·simp only[g1,g2,jO,lz] at e4⊢
       rw[e4]
       rfl
      ·exact absurd (show b-k≥2 by omega) g2
    rw[eQ e5]
    exact ih k _ (by omega) (by omega) (by omega) (by omega) (by omega)
theorem adq {a b:Nat} {d:Array α} (fN:a<b) (hb:b≤d.size) (hs:d.size<1152921504606846976):
  CC ((aq.E α).k 6) [.int .i64 (a:Int),.int .i64 (b:Int),.list (aq.E α).T (eA d)]=
   some [.bool (partialInsertionSort aK d a b).2,.list (aq.E α).T (eA (partialInsertionSort aK d a b).1)]:=by
 refine aq.Tt ?_
 unfold LH
 simp (disch:=omega) only[dP,wrap64]
 rcases aob (a:=a) (b:=b) 5 (a+1) d (aw _) (by omega) (by omega) hb hs with h|⟨x,y,z,h0,h⟩
 ·rw[show ((5-5:Nat):Int)=0 from rfl] at h
  rw[h]
  rfl
 ·rw[show ((5-5:Nat):Int)=0 from rfl] at h
  rw[h]
  unfold partialInsertionSort
  rw[h0]
  rfl
end Go.AM
set_option maxRecDepth 100000
namespace Go.AM
open Go.Proofs
noncomputable def adr (C:ab) (kf:Int):Option LV:=
 some [.int .u64 (IntKind.wrap .u64 ((BitVec.ofInt (IntKind.bits .u64) (IntKind.wrap .u64 ((BitVec.ofInt (IntKind.bits .u64) (IntKind.wrap .u64 ((BitVec.ofInt (IntKind.bits .u64) kf ^^^ BitVec.ofInt (IntKind.bits .u64) (IntKind.wrap .u64 (kf*2^(min (13:Int).toNat (IntKind.bits .u64))))).toNat)) ^^^ BitVec.ofInt (IntKind.bits .u64) (Int.fdiv (IntKind.wrap .u64 ((BitVec.ofInt (IntKind.bits .u64) kf ^^^ BitVec.ofInt (IntKind.bits .u64) (IntKind.wrap .u64 (kf*2^(min (13:Int).toNat (IntKind.bits .u64))))).toNat)) (2^(min (7:Int).toNat (IntKind.bits .u64))))).toNat)) ^^^ BitVec.ofInt (IntKind.bits .u64) (IntKind.wrap .u64 ((IntKind.wrap .u64 ((BitVec.ofInt (IntKind.bits .u64) (IntKind.wrap .u64 ((BitVec.ofInt (IntKind.bits .u64) kf ^^^ BitVec.ofInt (IntKind.bits .u64) (IntKind.wrap .u64 (kf*2^(min (13:Int).toNat (IntKind.bits .u64))))).toNat)) ^^^ BitVec.ofInt (IntKind.bits .u64) (Int.fdiv (IntKind.wrap .u64 ((BitVec.ofInt (IntKind.bits .u64) kf ^^^ BitVec.ofInt (IntKind.bits .u64) (IntKind.wrap .u64 (kf*2^(min (13:Int).toNat (IntKind.bits .u64))))).toNat)) (2^(min (7:Int).toNat (IntKind.bits .u64))))).toNat))*2^(min (17:Int).toNat (IntKind.bits .u64))))).toNat)),.int .u64 (IntKind.wrap .u64 ((BitVec.ofInt (IntKind.bits .u64) (IntKind.wrap .u64 ((BitVec.ofInt (IntKind.bits .u64) (IntKind.wrap .u64 ((BitVec.ofInt (IntKind.bits .u64) kf ^^^ BitVec.ofInt (IntKind.bits .u64) (IntKind.wrap .u64 (kf*2^(min (13:Int).toNat (IntKind.bits .u64))))).toNat)) ^^^ BitVec.ofInt (IntKind.bits .u64) (Int.fdiv (IntKind.wrap .u64 ((BitVec.ofInt (IntKind.bits .u64) kf ^^^ BitVec.ofInt (IntKind.bits .u64) (IntKind.wrap .u64 (kf*2^(min (13:Int).toNat (IntKind.bits .u64))))).toNat)) (2^(min (7:Int).toNat (IntKind.bits .u64))))).toNat)) ^^^ BitVec.ofInt (IntKind.bits .u64) (IntKind.wrap .u64 ((IntKind.wrap .u64 ((BitVec.ofInt (IntKind.bits .u64) (IntKind.wrap .u64 ((BitVec.ofInt (IntKind.bits .u64) kf ^^^ BitVec.ofInt (IntKind.bits .u64) (IntKind.wrap .u64 (kf*2^(min (13:Int).toNat (IntKind.bits .u64))))).toNat)) ^^^ BitVec.ofInt (IntKind.bits .u64) (Int.fdiv (IntKind.wrap .u64 ((BitVec.ofInt (IntKind.bits .u64) kf ^^^ BitVec.ofInt (IntKind.bits .u64) (IntKind.wrap .u64 (kf*2^(min (13:Int).toNat (IntKind.bits .u64))))).toNat)) (2^(min (7:Int).toNat (IntKind.bits .u64))))).toNat))*2^(min (17:Int).toNat (IntKind.bits .u64))))).toNat))]
theorem aoc {kf:Int} {r:Option LV} (h:adr CC kf=r):CC J1 [.int .u64 kf]=r:=bu (L:=bw) ak h
noncomputable def ads (C:ab) (length:Int):Option LV:=
 (C DW [.int .u64 (IntKind.wrap .u64 length)]).bind fun r1=>
 bif decide (0≤((V.nth r1 0).toInt)) then
  some [.int .u64 (IntKind.wrap .u64 (1*2^(min ((V.nth r1 0).toInt).toNat (IntKind.bits .u64))))]
 else none
theorem aod {length:Int} {r:Option LV} (h:ads CC length=r):CC J0 [V.int .i64 length]=r:=bu (L:=bw) ak h
noncomputable def adt (C:ab) (x:Int):Option LV:=
 (C JV [.int .u64 x]).bind fun r1=>
 some [V.int .i64 ((V.nth r1 0).toInt)]
theorem aoe {x:Int} {r:Option LV} (h:adt CC x=r):CC DW [.int .u64 x]=r:=bu (L:=bw) ak h
noncomputable def yS (C:ab) (x n:Int) (t4:Bool) {β:Type} (kr:(Int × Int)→Option β):Option β:=
 bif t4 then
  kr (Int.fdiv x (2^(min (32:Int).toNat (IntKind.bits .u64))),32)
 else
  kr (x,n)
noncomputable def yT (C:ab) (x n:Int) (t8:Bool) {β:Type} (kr:(Int × Int)→Option β):Option β:=
 bif t8 then
  kr (Int.fdiv x (2^(min (16:Int).toNat (IntKind.bits .u64))),IntKind.wrap .i64 (n+16))
 else
  kr (x,n)
noncomputable def adu (C:ab):bR:=fS 79 Rn [[0,0]] (@yS C) (fS 143 Ro [[0,0]] (@yT C) bw)
theorem aof (C:ab):aQ C (adu C) 91 (Cd 4 [1,0,1,0] [1,0,1,1] 91):=fR Rn [[0,0]] (@yS C) (aA ak) (aA ak)
theorem aog (C:ab):aQ C (adu C) 91 (Cd 8 [1,1,0,1,0] [1,1,0,1,1] 91):=fR Ro [[0,0]] (@yT C) (aA ak) (aA ak)
noncomputable def aoh (C:ab) (x:Int):Option LV:=
 yS C x 0 (decide ((x:Int)≥4294967296)) (un fun (v7:Int) (cv:Int)=>
  yT C v7 cv (decide ((v7:Int)≥65536)) (un fun (Bq:Int) (cw:Int)=>
   bif decide ((Bq:Int)≥256) then
    (bif decide (0≤(IntKind.wrap .u8 (Int.fdiv Bq (2^(min (8:Int).toNat (IntKind.bits .u64)))))) then (([0,1,2,2,3,3,3,3,4,4,4,4,4,4,4,4,5,5,5,5,5,5,5,5,5,5,5,5,5,5,5,5,6,6,6,6,6,6,6,6,6,6,6,6,6,6,6,6,6,6,6,6,6,6,6,6,6,6,6,6,6,6,6,6,7,7,7,7,7,7,7,7,7,7,7,7,7,7,7,7,7,7,7,7,7,7,7,7,7,7,7,7,7,7,7,7,7,7,7,7,7,7,7,7,7,7,7,7,7,7,7,7,7,7,7,7,7,7,7,7,7,7,7,7,7,7,7,7,8,8,8,8,8,8,8,8,8,8,8,8,8,8,8,8,8,8,8,8,8,8,8,8,8,8,8,8,8,8,8,8,8,8,8,8,8,8,8,8,8,8,8,8,8,8,8,8,8,8,8,8,8,8,8,8,8,8,8,8,8,8,8,8,8,8,8,8,8,8,8,8,8,8,8,8,8,8,8,8,8,8,8,8,8,8,8,8,8,8,8,8,8,8,8,8,8,8,8,8,8,8,8,8,8,8,8,8,8,8,8,8,8,8,8,8,8,8,8,8,8,8,8,8,8,8,8,8]:List UInt8)[(IntKind.wrap .u8 (Int.fdiv Bq (2^(min (8:Int).toNat (IntKind.bits .u64)))):Int).toNat]?).map fun b=>V.int .u8 b.toNat else none).bind fun x5=>
    some [V.int .i64 (IntKind.wrap .i64 ((IntKind.wrap .i64 (cw+8))+(IntKind.wrap .i64 x5.toInt)))]
   else
    (bif decide (0≤(IntKind.wrap .u8 Bq)) then (([0,1,2,2,3,3,3,3,4,4,4,4,4,4,4,4,5,5,5,5,5,5,5,5,5,5,5,5,5,5,5,5,6,6,6,6,6,6,6,6,6,6,6,6,6,6,6,6,6,6,6,6,6,6,6,6,6,6,6,6,6,6,6,6,7,7,7,7,7,7,7,7,7,7,7,7,7,7,7,7,7,7,7,7,7,7,7,7,7,7,7,7,7,7,7,7,7,7,7,7,7,7,7,7,7,7,7,7,7,7,7,7,7,7,7,7,7,7,7,7,7,7,7,7,7,7,7,7,8,8,8,8,8,8,8,8,8,8,8,8,8,8,8,8,8,8,8,8,8,8,8,8,8,8,8,8,8,8,8,8,8,8,8,8,8,8,8,8,8,8,8,8,8,8,8,8,8,8,8,8,8,8,8,8,8,8,8,8,8,8,8,8,8,8,8,8,8,8,8,8,8,8,8,8,8,8,8,8,8,8,8,8,8,8,8,8,8,8,8,8,8,8,8,8,8,8,8,8,8,8,8,8,8,8,8,8,8,8,8,8,8,8,8,8,8,8,8,8,8,8,8,8,8,8,8,8]:List UInt8)[(IntKind.wrap .u8 Bq:Int).toNat]?).map fun b=>V.int .u8 b.toNat else none).bind fun x6=>
    some [V.int .i64 (IntKind.wrap .i64 (cw+(IntKind.wrap .i64 x6.toInt)))]))
theorem adv {x:Int} {r:Option LV} (h:aoh CC x=r):CC JV [.int .u64 x]=r:=bu (aO (aof CC) (aO (aog CC) ak)) h
end Go.AM
set_option maxRecDepth 100000
set_option maxHeartbeats 4000000
namespace Go.AM
open Go.Proofs Go.Sort
variable {α:Type} [aq α]
theorem adw (a b:α):(aK a b=false)= ¬(aq.cmp a b<0):=by rw[←v5];simp
theorem Br:SWO (aK (α:=α)):=aq.Tm
variable [Inhabited α]
def LX:List UInt8:=([0,1,2,2,3,3,3,3,4,4,4,4,4,4,4,4,5,5,5,5,5,5,5,5,5,5,5,5,5,5,5,5,6,6,6,6,6,6,6,6,6,6,6,6,6,6,6,6,6,6,6,6,6,6,6,6,6,6,6,6,6,6,6,6,7,7,7,7,7,7,7,7,7,7,7,7,7,7,7,7,7,7,7,7,7,7,7,7,7,7,7,7,7,7,7,7,7,7,7,7,7,7,7,7,7,7,7,7,7,7,7,7,7,7,7,7,7,7,7,7,7,7,7,7,7,7,7,7,8,8,8,8,8,8,8,8,8,8,8,8,8,8,8,8,8,8,8,8,8,8,8,8,8,8,8,8,8,8,8,8,8,8,8,8,8,8,8,8,8,8,8,8,8,8,8,8,8,8,8,8,8,8,8,8,8,8,8,8,8,8,8,8,8,8,8,8,8,8,8,8,8,8,8,8,8,8,8,8,8,8,8,8,8,8,8,8,8,8,8,8,8,8,8,8,8,8,8,8,8,8,8,8,8,8,8,8,8,8,8,8,8,8,8,8,8,8,8,8,8,8,8,8,8,8,8,8]:List UInt8)
theorem aoi:(List.range 256).all (fun y=>match LX[y]? with|some b=>decide (b.toNat≤8)&&(Nat.beq y 0||(decide (1≤b.toNat)&&decide (2^(b.toNat-1)≤y)))|none=>false)=true:=by decide+kernel
theorem adx {y:Nat} (h:y<256): ∃b,LX[y]? =some b∧b.toNat≤8∧(0<y→1≤b.toNat∧2^(b.toNat-1)≤y):=by
 have:=gv.1 aoi y (ia.2 h)
 cases hb:LX[y]? with
 | none=>rw[hb] at this;cases this
 | some b=>
  rw[hb] at this
  simp only[bn,qc,dW] at this
  refine ⟨b,rfl,this.1,fun hy=> ?_⟩
  rcases this.2 with h2|h2
  ·have:=BI h2;omega
  ·exact h2
theorem TE {y t k:Nat} (h:2^(t-1)≤y/2^k) (ht:1≤t):2^(t+k-1)≤y:=by
 have e:t+k-1=(t-1)+k:=by omega
 rw[e,Nat.pow_add]
 exact kh (dM _ h) (Nat.div_mul_le_self _ _)
noncomputable def Bs (y n:Int):Option (List V):=
(bif decide ((y:Int)≥256) then
    (bif decide (0≤(IntKind.wrap .u8 (Int.fdiv y (2^(min (8:Int).toNat (IntKind.bits .u64)))))) then (([0,1,2,2,3,3,3,3,4,4,4,4,4,4,4,4,5,5,5,5,5,5,5,5,5,5,5,5,5,5,5,5,6,6,6,6,6,6,6,6,6,6,6,6,6,6,6,6,6,6,6,6,6,6,6,6,6,6,6,6,6,6,6,6,7,7,7,7,7,7,7,7,7,7,7,7,7,7,7,7,7,7,7,7,7,7,7,7,7,7,7,7,7,7,7,7,7,7,7,7,7,7,7,7,7,7,7,7,7,7,7,7,7,7,7,7,7,7,7,7,7,7,7,7,7,7,7,7,8,8,8,8,8,8,8,8,8,8,8,8,8,8,8,8,8,8,8,8,8,8,8,8,8,8,8,8,8,8,8,8,8,8,8,8,8,8,8,8,8,8,8,8,8,8,8,8,8,8,8,8,8,8,8,8,8,8,8,8,8,8,8,8,8,8,8,8,8,8,8,8,8,8,8,8,8,8,8,8,8,8,8,8,8,8,8,8,8,8,8,8,8,8,8,8,8,8,8,8,8,8,8,8,8,8,8,8,8,8,8,8,8,8,8,8,8,8,8,8,8,8,8,8,8,8,8,8]:List UInt8)[(IntKind.wrap .u8 (Int.fdiv y (2^(min (8:Int).toNat (IntKind.bits .u64)))):Int).toNat]?).map fun b=>V.int .u8 b.toNat else none).bind fun x5=>
    some [V.int .i64 (IntKind.wrap .i64 ((IntKind.wrap .i64 (n+8))+(IntKind.wrap .i64 x5.toInt)))]
   else
    (bif decide (0≤(IntKind.wrap .u8 y)) then (([0,1,2,2,3,3,3,3,4,4,4,4,4,4,4,4,5,5,5,5,5,5,5,5,5,5,5,5,5,5,5,5,6,6,6,6,6,6,6,6,6,6,6,6,6,6,6,6,6,6,6,6,6,6,6,6,6,6,6,6,6,6,6,6,7,7,7,7,7,7,7,7,7,7,7,7,7,7,7,7,7,7,7,7,7,7,7,7,7,7,7,7,7,7,7,7,7,7,7,7,7,7,7,7,7,7,7,7,7,7,7,7,7,7,7,7,7,7,7,7,7,7,7,7,7,7,7,7,8,8,8,8,8,8,8,8,8,8,8,8,8,8,8,8,8,8,8,8,8,8,8,8,8,8,8,8,8,8,8,8,8,8,8,8,8,8,8,8,8,8,8,8,8,8,8,8,8,8,8,8,8,8,8,8,8,8,8,8,8,8,8,8,8,8,8,8,8,8,8,8,8,8,8,8,8,8,8,8,8,8,8,8,8,8,8,8,8,8,8,8,8,8,8,8,8,8,8,8,8,8,8,8,8,8,8,8,8,8,8,8,8,8,8,8,8,8,8,8,8,8,8,8,8,8,8,8]:List UInt8)[(IntKind.wrap .u8 y:Int).toNat]?).map fun b=>V.int .u8 b.toNat else none).bind fun x6=>
    some [V.int .i64 (IntKind.wrap .i64 (n+(IntKind.wrap .i64 x6.toInt)))])
theorem aoj {x:Nat} (h:x<2^64): ∃L:Nat,CC JV [.int .u64 (x:Int)]=some [.int .i64 (L:Int)]∧L≤64∧(0<x→1≤L∧2^(L-1)≤x):=by
 have last: ∀y n:Nat,y<65536→n≤48→∃t:Nat,
   Bs (y:Int) (n:Int)=some [V.int .i64 ((n+t:Nat):Int)]∧t≤16∧(0<y→1≤t∧2^(t-1)≤y):=by
  intro y n hy hn
  unfold Bs
  rw[show ([0,1,2,2,3,3,3,3,4,4,4,4,4,4,4,4,5,5,5,5,5,5,5,5,5,5,5,5,5,5,5,5,6,6,6,6,6,6,6,6,6,6,6,6,6,6,6,6,6,6,6,6,6,6,6,6,6,6,6,6,6,6,6,6,7,7,7,7,7,7,7,7,7,7,7,7,7,7,7,7,7,7,7,7,7,7,7,7,7,7,7,7,7,7,7,7,7,7,7,7,7,7,7,7,7,7,7,7,7,7,7,7,7,7,7,7,7,7,7,7,7,7,7,7,7,7,7,7,8,8,8,8,8,8,8,8,8,8,8,8,8,8,8,8,8,8,8,8,8,8,8,8,8,8,8,8,8,8,8,8,8,8,8,8,8,8,8,8,8,8,8,8,8,8,8,8,8,8,8,8,8,8,8,8,8,8,8,8,8,8,8,8,8,8,8,8,8,8,8,8,8,8,8,8,8,8,8,8,8,8,8,8,8,8,8,8,8,8,8,8,8,8,8,8,8,8,8,8,8,8,8,8,8,8,8,8,8,8,8,8,8,8,8,8,8,8,8,8,8,8,8,8,8,8,8,8]:List UInt8)=LX from rfl]
  by_cases h1:y≥256
  ·have e:Int.fdiv (y:Int) (2^(min (8:Int).toNat (IntKind.bits .u64)))=((y/2^8:Nat):Int):=Ee (m:=8) (by omega)
   obtain ⟨b,hb,b1,b2⟩:=adx (y:=y/2^8) (by omega)
   refine ⟨b.toNat+8,?_,by omega,fun _=> ?_⟩
   ·rw[e,aG,aZ,OM (by omega) (by omega),aG,aZ,Int.toNat_natCast,hb]
    simp only[Option.map_some,Option.bind_some,V.toInt_int]
    simp (disch:=omega) only[wrap64]
    congr 3
    omega
   ·obtain ⟨b3,b4⟩:=b2 (by omega)
    exact ⟨by omega,TE b4 b3⟩
  ·obtain ⟨b,hb,b1,b2⟩:=adx (y:=y) (by omega)
   refine ⟨b.toNat,?_,by omega,b2⟩
   rw[aG,bK,OM (by omega) (by omega),aG,aZ,Int.toNat_natCast,hb]
   simp (disch:=omega) only[Option.map_some,Option.bind_some,V.toInt_int,wrap64]
   congr 3
 have mid: ∀y n:Nat,y<4294967296→n≤32→∃t:Nat,∀F:Int→Int→Option (List V),
   (∀y n:Nat,y<65536→n≤48→∃t:Nat,F (y:Int) (n:Int)=some [V.int .i64 ((n+t:Nat):Int)]∧t≤16∧(0<y→1≤t∧2^(t-1)≤y))→
   ∃t:Nat,yT CC (y:Int) (n:Int) (decide (((y:Int):Int)≥65536)) (un F)=some [V.int .i64 ((n+t:Nat):Int)]∧t≤32∧(0<y→1≤t∧2^(t-1)≤y):=by
  intro y n hy hn
  refine ⟨0,fun F hF=> ?_⟩
  unfold yT
  by_cases h1:y≥65536
  ·have e:Int.fdiv (y:Int) (2^(min (16:Int).toNat (IntKind.bits .u64)))=((y/2^16:Nat):Int):=Ee (m:=16) (by omega)
   rw[aG,aZ,e,dr]
   obtain ⟨t,h2,h3,h4⟩:=hF (y/2^16) (n+16) (by omega) (by omega)
   refine ⟨t+16,?_,by omega,fun _=> ?_⟩
   ·rw[show ((n:Int)+16)=((n+16:Nat):Int) by omega]
    simp only[un]
    rw[h2]
    congr 3
    omega
   ·obtain ⟨b3,b4⟩:=h4 (by omega)
    exact ⟨by omega,TE b4 b3⟩
  ·rw[aG,bK]
   obtain ⟨t,h2,h3,h4⟩:=hF y n (by omega) (by omega)
   exact ⟨t,h2,by omega,h4⟩
 by_cases h1:x≥4294967296
 ·have e:Int.fdiv (x:Int) (2^(min (32:Int).toNat (IntKind.bits .u64)))=((x/2^32:Nat):Int):=Ee (m:=32) (by omega)
  obtain ⟨_,hm⟩:=mid (x/2^32) 32 (by omega) (by omega)
  obtain ⟨t,h2,h3,h4⟩:=hm Bs last
  refine ⟨32+t,adv ?_,by omega,fun _=> ?_⟩
  ·show yS CC (x:Int) 0 (decide (((x:Int):Int)≥4294967296)) (un fun (v7:Int) (cv:Int)=>yT CC v7 cv (decide ((v7:Int)≥65536)) (un Bs))=_
   unfold yS
   rw[aG,aZ,e]
   exact h2
  ·obtain ⟨b3,b4⟩:=h4 (by omega)
   rw[Nat.add_comm 32 t]
   exact ⟨by omega,TE b4 b3⟩
 ·obtain ⟨_,hm⟩:=mid x 0 (by omega) (by omega)
  obtain ⟨t,h2,h3,h4⟩:=hm Bs last
  refine ⟨t,adv ?_,by omega,h4⟩
  show yS CC (x:Int) 0 (decide (((x:Int):Int)≥4294967296)) (un fun (v7:Int) (cv:Int)=>yT CC v7 cv (decide ((v7:Int)≥65536)) (un Bs))=_
  unfold yS
  rw[aG,bK]
  rw[dE] at h2
  exact h2
theorem ady {x:Nat} (h:x<2^64): ∃L:Nat,CC DW [.int .u64 (x:Int)]=some [.int .i64 (L:Int)]∧L≤64∧(0<x→1≤L∧2^(L-1)≤x):=by
 obtain ⟨L,h1,h2⟩:=aoj h
 refine ⟨L,aoe ?_,h2⟩
 unfold adt
 rw[h1]
 rfl
theorem aok {x:Nat} (h0:0<x) (h:x<1152921504606846976): ∃M:Nat,CC J0 [.int .i64 (x:Int)]=some [.int .u64 (M:Int)]∧1≤M∧M≤2*x:=by
 obtain ⟨L,h1,h2,h3⟩:=ady (x:=x) (by omega)
 obtain ⟨h4,h5⟩:=h3 h0
 have e:2^L=2*2^(L-1):=by
  obtain ⟨k,rfl⟩: ∃k,L=k+1:=⟨L-1,by omega⟩
  rw[Nat.pow_succ];simp only[zc];omega
 have hL:L<64:=by
  by_cases hx:L<64
  ·exact hx
  ·have:2^63≤2^(L-1):=o5 (by omega) (by omega)
   omega
 refine ⟨2^L,aod ?_,oX (by simp),by omega⟩
 unfold ads
 rw[vE (A:=x) (by omega),h1]
 simp only[Option.bind_some,V.bZ,V.toInt_int]
 rw[aG,aZ,Int.toNat_natCast,tU hL]
theorem aol (r:Int): ∃R:Nat,CC J1 [.int .u64 r]=some [.int .u64 (R:Int),.int .u64 (R:Int)]∧R<2^64:=by
 have h: ∀n:Int,∃R:Nat,IntKind.wrap .u64 n=(R:Int)∧R<2^64:=fun n=>⟨(IntKind.wrap .u64 n).toNat,by rw[wrap_u64];omega,by rw[wrap_u64];omega⟩
 obtain ⟨R,h1,h2⟩:=h _
 exact ⟨R,aoc (by unfold adr;rw[h1]),h2⟩
theorem LY {d:Array α} {i:Nat} (h:i<d.size):idx (eA d) (i:Int)=some (aq.enc (d[i]!)):=by rw[Ji,iz h]
theorem TF {d:Array α} {a b:Nat} {s:Int} (ha:a<d.size) (hb:b<d.size): ∃(x y:Nat) (s':Int),CC ((aq.E α).k 10) [.list (aq.E α).T (eA d),.int .i64 (a:Int),.int .i64 (b:Int),.int .i64 s]=some [.int .i64 (x:Int),.int .i64 (y:Int),.int .i64 s']∧(x=a∧y=b∨x=b∧y=a):=by
 by_cases h:aq.cmp d[b]! d[a]! <0
 ·refine ⟨b,a,_,aq.LP (by unfold F6;rw[LY hb,LY ha];simp only[Option.bind_some,aq.re,aq.cs,V.bZ,V.toInt_int];rw[aG,af h]),.inr ⟨rfl,rfl⟩⟩
 ·refine ⟨a,b,_,aq.LP (by unfold F6;rw[LY hb,LY ha];simp only[Option.bind_some,aq.re,aq.cs,V.bZ,V.toInt_int];rw[aG,ag h]),.inl ⟨rfl,rfl⟩⟩
theorem TG {d:Array α} {a b c:Nat} {s:Int} (ha:a<d.size) (hb:b<d.size) (hc:c<d.size): ∃(m:Nat) (s':Int),CC ((aq.E α).k 8) [.list (aq.E α).T (eA d),.int .i64 (a:Int),.int .i64 (b:Int),.int .i64 (c:Int),.int .i64 s]=some [.int .i64 (m:Int),.int .i64 s']∧(m=a∨m=b∨m=c):=by
 obtain ⟨x1,y1,s1,e1,o1⟩:=TF (s:=s) ha hb
 obtain ⟨x2,y2,s2,e2,o2⟩:=TF (d:=d) (a:=y1) (b:=c) (s:=s1) (by omega) hc
 obtain ⟨x3,y3,s3,e3,o3⟩:=TF (d:=d) (a:=x1) (b:=x2) (s:=s2) (by omega) (by omega)
 refine ⟨y3,s3,aq.Tv ?_,by omega⟩
 unfold LL
 rw[e1]
 simp only[Option.bind_some,V.bZ,V.tD,V.toInt_int,jn,hZ]
 rw[e2]
 simp only[Option.bind_some,V.bZ,V.tD,V.toInt_int,jn,hZ]
 rw[e3]
 rfl
theorem TH {d:Array α} {a:Nat} {s:Int} (h1:1≤a) (ha:a+1<d.size) (hs:d.size<1152921504606846976): ∃(m:Nat) (s':Int),CC ((aq.E α).k 9) [.list (aq.E α).T (eA d),.int .i64 (a:Int),.int .i64 s]=some [.int .i64 (m:Int),.int .i64 s']∧a≤m+1∧m≤a+1:=by
 obtain ⟨m,s',e,o⟩:=TG (d:=d) (a:=a-1) (b:=a) (c:=a+1) (s:=s) (by omega) (by omega) (by omega)
 refine ⟨m,s',aq.Tw ?_,by omega,by omega⟩
 unfold LM
 simp (disch:=omega) only[ll,dP,wrap64]
 rw[e]
 rfl
theorem TI (n:Nat):Int.tdiv (n:Int) 4=((n/4:Nat):Int):=by
 have:=divC n 4
 exact this
theorem mulC (k n:Nat):((k:Nat):Int)*(n:Int)=((k*n:Nat):Int):=(Int.natCast_mul k n).symm
theorem aom {d:Array α} {a b:Nat} (fN:a+12<b) (hb:b≤d.size) (hs:d.size<1152921504606846976): ∃(p:Nat) (h:Int),CC ((aq.E α).k 11) [.list (aq.E α).T (eA d),.int .i64 (a:Int),.int .i64 (b:Int)]=some [.int .i64 (p:Int),.int .i64 h]∧a≤p∧p<b:=by
 have fin: ∀(p:Nat) (s:Int),∃h:Int,(bif (s:Int)==0 then some [V.int .i64 (p:Int),V.int .i64 1] else bif (s:Int)==12 then some [V.int .i64 (p:Int),V.int .i64 2] else some [V.int .i64 (p:Int),V.int .i64 0])=some [V.int .i64 (p:Int),V.int .i64 h]:=by
  intro p s
  rw[pw]
  split
  ·exact ⟨1,rfl⟩
  ·rw[pw]
   split
   ·exact ⟨2,rfl⟩
   ·exact ⟨0,rfl⟩
 have e1:IntKind.wrap .i64 ((b:Int)-(a:Int))=((b-a:Nat):Int):=by rw[oN (by omega),dr]
 have e2:IntKind.wrap .i64 (Int.tdiv ((b-a:Nat):Int) 4)=(((b-a)/4:Nat):Int):=by rw[TI,dr]
 have e3: ∀k:Nat,k≤3→IntKind.wrap .i64 ((a:Int)+IntKind.wrap .i64 ((k:Int)*(((b-a)/4:Nat):Int)))=((a+k*((b-a)/4):Nat):Int):=by
  intro k hk
  have rX:k*((b-a)/4)≤3*((b-a)/4):=dM _ hk
  simp (disch:=omega) only[mulC,wrap64,g9]
 have TJ:=e3 1 (by omega)
 have v8:=e3 2 (by omega)
 have TK:=e3 3 (by omega)
 rw[show ((1:Nat):Int)=1 from rfl] at TJ
 rw[show ((2:Nat):Int)=2 from rfl] at v8
 rw[show ((3:Nat):Int)=3 from rfl] at TK
 by_cases h50:b-a≥50
 ·obtain ⟨m1,s1,q1,r1⟩:=TH (d:=d) (a:=a+1*((b-a)/4)) (s:=0) (by omega) (by omega) hs
  obtain ⟨m2,s2,q2,r2⟩:=TH (d:=d) (a:=a+2*((b-a)/4)) (s:=s1) (by omega) (by omega) hs
  obtain ⟨m3,s3,q3,r3⟩:=TH (d:=d) (a:=a+3*((b-a)/4)) (s:=s2) (by omega) (by omega) hs
  obtain ⟨m,s,q,r⟩:=TG (d:=d) (a:=m1) (b:=m2) (c:=m3) (s:=s3) (by omega) (by omega) (by omega)
  obtain ⟨h,hf⟩:=fin m s
  refine ⟨m,h,aq.LQ ?_,by omega,by omega⟩
  unfold F7 yQ yP
  rw[e1,e2,TJ,v8,TK,pO (by omega),cond_true,pO (by omega),cond_true,q1]
  simp only[Option.bind_some,V.bZ,V.tD,V.toInt_int,jn,hZ]
  rw[q2]
  simp only[Option.bind_some,V.bZ,V.tD,V.toInt_int,jn,hZ]
  rw[q3]
  simp only[Option.bind_some,V.bZ,V.tD,V.toInt_int,jn,hZ,un]
  rw[q]
  exact hf
 ·obtain ⟨m,s,q,r⟩:=TG (d:=d) (a:=a+1*((b-a)/4)) (b:=a+2*((b-a)/4)) (c:=a+3*((b-a)/4)) (s:=0) (by omega) (by omega) (by omega)
  obtain ⟨h,hf⟩:=fin m s
  refine ⟨m,h,aq.LQ ?_,by omega,by omega⟩
  unfold F7 yQ yP
  rw[e1,e2,TJ,v8,TK,pO (by omega),cond_true,pP (by omega),cond_false]
  simp only[un]
  rw[q]
  exact hf
theorem aon {a b M:Nat} (hM1:1≤M) (hM:M≤2*(b-a)) (h8:8≤b-a) (hB:b<1152921504606846976): ∀(n i:Nat) (d:Array α) (r:Int),a+2*((b-a)/4)+2-i=n→a≤i→b≤d.size→d.size<1152921504606846976→
  ∃x y z R,Loop (LI (aq.E α) CC a (b-a:Nat) M) ((i:Int),eA d,r)=some (x,y,eA R,z)∧PermIn a b d R:=by
 have e2:IntKind.wrap .i64 (Int.tdiv ((b-a:Nat):Int) 4)=(((b-a)/4:Nat):Int):=by rw[TI,dr]
 have v8:IntKind.wrap .i64 ((a:Int)+IntKind.wrap .i64 (2*(((b-a)/4:Nat):Int)))=((a+2*((b-a)/4):Nat):Int):=by
  have:=mulC 2 ((b-a)/4)
  rw[show ((2:Nat):Int)=2 from rfl] at this
  rw[this]
  simp (disch:=omega) only[wrap64,g9]
 intro n
 induction n with
 | zero=>
  intro i d r hn hi hb hs
  refine ⟨(i:Int),false,r,d,cI ?_,permIn_refl _ _ _⟩
  simp only[LI,yO,un]
  rw[e2,v8,dP,dr,pP (by omega),cond_false]
 | succ n ih=>
  intro i d r hn hi hb hs
  obtain ⟨R1,q1,q2⟩:=aol r
  obtain ⟨o,ho,pf⟩: ∃o:Nat,(o=if R1&&&(M-1)≥b-a then (R1&&&(M-1))-(b-a) else R1&&&(M-1))∧o<b-a:=by
   refine ⟨_,rfl,?_⟩
   have:R1&&&(M-1)≤M-1:=Nat.and_le_right
   split<;>omega
  have hand:R1&&&(M-1)≤M-1:=Nat.and_le_right
  have hP:=swp_permIn (α:=α) d a b i (a+o) hi (by omega) (by omega) (by omega) hb
  obtain ⟨x,y,z,R,e,hR⟩:=ih (i+1) (swp d i (a+o)) (R1:Int) (by omega) (by omega) (by rw[size_swp];exact hb) (by rw[size_swp];exact hs)
  refine ⟨x,y,z,R,(eQ ?_).trans e,permIn_trans _ _ _ a b hP hR⟩
  simp only[LI,yO,un]
  rw[e2,v8,dP,wrap64 (x:=((a+2*((b-a)/4)+1:Nat):Int)) (by omega) (by omega),pO (by omega),cond_true,q1]
  simp only[Option.bind_some,V.bZ,V.tD,V.toInt_int,jn,hZ]
  have e5:IntKind.wrap .u64 ((M:Int)-1)=((M-1:Nat):Int):=by rw[ll hM1,vE (by omega)]
  rw[e5,u64_and q2 (by omega),wrap64 (x:=((R1&&&(M-1):Nat):Int)) (by omega) (by omega)]
  have fin: ∀k:Int,k=(o:Int)→(bif (decide (0≤(IntKind.wrap .i64 ((a:Int)+k))))&&(decide ((IntKind.wrap .i64 ((a:Int)+k))<((eA d).length:Int))) then
   ((eA d)[(IntKind.wrap .i64 ((a:Int)+k):Int).toNat]?).bind fun x4=>
   bif (decide (0≤(i:Int)))&&(decide ((i:Int)<((eA d).length:Int))) then
    ((eA d)[((i:Int):Int).toNat]?).bind fun x5=>
    bif (decide (0≤(i:Int)))&&(decide ((i:Int)<((eA d).length:Int))) then
    ((eA d)[((i:Int):Int).toNat]?).bind fun x6=>
    bif (decide (0≤(IntKind.wrap .i64 ((a:Int)+k))))&&(decide ((IntKind.wrap .i64 ((a:Int)+k))<(((eA d).set (((i:Int):Int).toNat) (.agg ((aq.E α).ex x4))).length:Int))) then
     (((eA d).set (((i:Int):Int).toNat) (.agg ((aq.E α).ex x4)))[(IntKind.wrap .i64 ((a:Int)+k):Int).toNat]?).bind fun x7=>
     some (.inl (IntKind.wrap .i64 ((i:Int)+1),((eA d).set (((i:Int):Int).toNat) (.agg ((aq.E α).ex x4))).set ((IntKind.wrap .i64 ((a:Int)+k):Int).toNat) (.agg ((aq.E α).ex x5)),(R1:Int)))
    else none
    else none
   else none
   else none:Option ((Int × List V × Int) ⊕ (Int × Bool × List V × Int)))=some (.inl (((i+1:Nat):Int),eA (swp d i (a+o)),(R1:Int))):=by
   intro k hk
   subst hk
   simp (disch:=omega) only[aG,dx,iu,af,ag,wrap64,dP,g9,Int.toNat_natCast,Option.bind_some,iy,iz,aq.re,gZ,jI,iX,aq.cs,V.bZ,V.toInt_int,cond_true,cond_false]
   rfl
  unfold Bn
  by_cases h:R1&&&(M-1)≥b-a
  ·rw[af h] at ho
   rw[pO (by omega),cond_true]
   exact fin _ (by rw[oN (by omega),dr];omega)
  ·rw[ag h] at ho
   rw[pP (by omega),cond_false]
   exact fin _ (by omega)
theorem aoo {a b:Nat} {d:Array α} (fN:a+12<b) (hb:b≤d.size) (hs:d.size<1152921504606846976): ∃R,CC ((aq.E α).k 7) [.int .i64 (a:Int),.int .i64 (b:Int),.list (aq.E α).T (eA d)]=some [.list (aq.E α).T (eA R)]∧PermIn a b d R:=by
 obtain ⟨M,q1,q2,q3⟩:=aok (x:=b-a) (by omega) (by omega)
 have e1:IntKind.wrap .i64 ((b:Int)-(a:Int))=((b-a:Nat):Int):=by rw[oN (by omega),dr]
 have e2:IntKind.wrap .i64 (Int.tdiv ((b-a:Nat):Int) 4)=(((b-a)/4:Nat):Int):=by rw[TI,dr]
 have v8:IntKind.wrap .i64 ((a:Int)+IntKind.wrap .i64 (2*(((b-a)/4:Nat):Int)))=((a+2*((b-a)/4):Nat):Int):=by
  have:=mulC 2 ((b-a)/4)
  rw[show ((2:Nat):Int)=2 from rfl] at this
  rw[this]
  simp (disch:=omega) only[wrap64,g9]
 obtain ⟨x,y,z,R,e,hR⟩:=aon (a:=a) (b:=b) (M:=M) q2 q3 (by omega) (by omega) _ (a+2*((b-a)/4)-1) d (IntKind.wrap .u64 ((b-a:Nat):Int)) rfl (by omega) hb hs
 refine ⟨R,aq.Tu ?_,hR⟩
 unfold LJ
 rw[e1,aG,aZ,q1]
 simp only[Option.bind_some,V.bZ,V.toInt_int]
 rw[e2,v8,ll (by omega),wrap64 (x:=((a+2*((b-a)/4)-1:Nat):Int)) (by omega) (by omega),e]
 rfl
noncomputable def v9 (E:SE) (C:ab) (a b':Int) (fJ ga:Bool) (dq gb:Int) (ra:List V) {β:Type} (kn:(Int × Int × Int × Bool × Bool × (List V))→Option β):Option β:=
      bif decide ((a:Int)>0) then
       ar ra (IntKind.wrap .i64 (a-1)) fun sx=>
       ar ra gb fun sy=>
        (C E.cmp (E.ex sx++E.ex sy)).bind fun fe=>
        bif !(decide ((((V.nth fe 0).toInt):Int)<0)) then
        (C (E.k 5) [.int .i64 a,.int .i64 b',.int .i64 gb,.list E.T ra]).bind fun iw=>
        kn ((V.nth iw 0).toInt,b',dq,fJ,ga,(V.nth (iw.drop 1) 0).toList)
        else
        (C (E.k 4) [.int .i64 a,.int .i64 b',.int .i64 gb,.list E.T ra]).bind fun eO=>
        bif decide (((IntKind.wrap .i64 (((V.nth eO 0).toInt)-a)):Int)<(IntKind.wrap .i64 (b'-((V.nth eO 0).toInt)))) then
         (C (E.k 12) [.int .i64 a,.int .i64 ((V.nth eO 0).toInt),.int .i64 dq,.list E.T ((V.nth (eO.drop 2) 0).toList)]).bind fun pU=>
         kn (IntKind.wrap .i64 (((V.nth eO 0).toInt)+1),b',dq,decide (((IntKind.wrap .i64 (((V.nth eO 0).toInt)-a)):Int)≥(IntKind.wrap .i64 (Int.tdiv (IntKind.wrap .i64 (b'-a)) 8))),(V.nth (eO.drop 1) 0).toBool,(V.nth pU 0).toList)
        else
         (C (E.k 12) [.int .i64 (IntKind.wrap .i64 (((V.nth eO 0).toInt)+1)),.int .i64 b',.int .i64 dq,.list E.T ((V.nth (eO.drop 2) 0).toList)]).bind fun fV=>
         kn (a,(V.nth eO 0).toInt,dq,decide (((IntKind.wrap .i64 (b'-((V.nth eO 0).toInt))):Int)≥(IntKind.wrap .i64 (Int.tdiv (IntKind.wrap .i64 (b'-a)) 8))),(V.nth (eO.drop 1) 0).toBool,(V.nth fV 0).toList)
      else
       (C (E.k 4) [.int .i64 a,.int .i64 b',.int .i64 gb,.list E.T ra]).bind fun jL=>
       bif decide (((IntKind.wrap .i64 (((V.nth jL 0).toInt)-a)):Int)<(IntKind.wrap .i64 (b'-((V.nth jL 0).toInt)))) then
       (C (E.k 12) [.int .i64 a,.int .i64 ((V.nth jL 0).toInt),.int .i64 dq,.list E.T ((V.nth (jL.drop 2) 0).toList)]).bind fun mU=>
       kn (IntKind.wrap .i64 (((V.nth jL 0).toInt)+1),b',dq,decide (((IntKind.wrap .i64 (((V.nth jL 0).toInt)-a)):Int)≥(IntKind.wrap .i64 (Int.tdiv (IntKind.wrap .i64 (b'-a)) 8))),(V.nth (jL.drop 1) 0).toBool,(V.nth mU 0).toList)
       else
       (C (E.k 12) [.int .i64 (IntKind.wrap .i64 (((V.nth jL 0).toInt)+1)),.int .i64 b',.int .i64 dq,.list E.T ((V.nth (jL.drop 2) 0).toList)]).bind fun me=>
       kn (a,(V.nth jL 0).toInt,dq,decide (((IntKind.wrap .i64 (b'-((V.nth jL 0).toInt))):Int)≥(IntKind.wrap .i64 (Int.tdiv (IntKind.wrap .i64 (b'-a)) 8))),(V.nth (jL.drop 1) 0).toBool,(V.nth me 0).toList)
theorem LZ (E:SE) (C:ab) (a b' hG:Int) (fJ ga:Bool) (ai:List V) {β:Type} (kn:(Int × Int × Int × Bool × Bool × (List V))→Option β) (kr:(List V)→Option β):
  pT E C a b' hG fJ ga ai kn kr=
 bif decide (((IntKind.wrap .i64 (b'-a)):Int)≤12) then
  (C (E.k 0) [.int .i64 a,.int .i64 b',.list E.T ai]).bind fun r1=>
  kr ((V.nth r1 0).toList)
 else
  bif (hG:Int)==0 then
  (C (E.k 2) [.int .i64 a,.int .i64 b',.list E.T ai]).bind fun r2=>
  kr ((V.nth r2 0).toList)
  else
  vX E C a b' hG fJ ga (IntKind.wrap .i64 (b'-a)) (!fJ) ai (un fun (dq:Int) (F8:List V)=>
   (C (E.k 11) [.list E.T F8,.int .i64 a,.int .i64 b']).bind fun r6=>
   vY E C a b' dq fJ ga (IntKind.wrap .i64 (b'-a)) ((V.nth r6 0).toInt) ((V.nth (r6.drop 1) 0).toInt) ((((V.nth (r6.drop 1) 0).toInt):Int)==2) F8 (un fun (gb:Int)=>un fun (Tl:Int) (qZ:List V)=>
    bif fJ then
     bif ga then
     mT E C a b' dq fJ ga (IntKind.wrap .i64 (b'-a)) gb ((Tl:Int)==1) qZ (dI (un fun (acj:Bool) (TL:List V)=>
      kr TL) (fun (ra:List V)=>v9 E C a b' fJ ga dq gb ra kn))
     else
     mT E C a b' dq fJ ga (IntKind.wrap .i64 (b'-a)) gb false qZ (dI (un fun (auP:Bool) (aop:List V)=>
      kr aop) (fun (aoq:List V)=>v9 E C a b' fJ ga dq gb aoq kn))
    else
     mT E C a b' dq fJ ga (IntKind.wrap .i64 (b'-a)) gb false qZ (dI (un fun (auQ:Bool) (aor:List V)=>
      kr aor) (fun (aos:List V)=>v9 E C a b' fJ ga dq gb aos kn)))):=rfl
section
variable {a b:Nat} {lim:Int} {wb wp:Bool}
theorem aot {d:Array α} (fN:a+12<b) (hb:b≤d.size) (hs:d.size<1152921504606846976) (len:Int) (t:Bool): ∃(l1:Int) (d1:Array α),PermIn a b d d1∧∀(β:Type) (kr:(Int × List V)→Option β),vX (aq.E α) CC a b lim wb wp len t (eA d) kr=kr (l1,eA d1):=by
 cases t with
 | true=>
  obtain ⟨R,e,hR⟩:=aoo fN hb hs
  refine ⟨IntKind.wrap .i64 (lim-1),R,hR,fun β kr=> ?_⟩
  unfold vX
  rw[cond_true,e]
  rfl
 | false=>exact ⟨lim,d,permIn_refl _ _ _,fun β kr=>rfl⟩
theorem aou {d:Array α} (fN:a+12<b) (hb:b≤d.size) (hs:d.size<1152921504606846976) (len h:Int) (t:Bool) {p:Nat} (h1:a≤p) (h2:p<b): ∃(p2:Nat) (h2:Int) (d1:Array α),a≤p2∧p2<b∧PermIn a b d d1∧∀(β:Type) (kr:(Int × Int × List V)→Option β),vY (aq.E α) CC a b lim wb wp len p h t (eA d) kr=kr ((p2:Int),h2,eA d1):=by
 cases t with
 | true=>
  refine ⟨b-1-(p-a),1,reverseRange d a b,by omega,by omega,reverseRange_holds d a b (by omega) hb,fun β kr=> ?_⟩
  unfold vY
  rw[cond_true,anZ (by omega) hb hs]
  simp (disch:=omega) only[Option.bind_some,V.bZ,V.jB,ll,oN,wrap64]
 | false=>exact ⟨p,h,d,h1,h2,permIn_refl _ _ _,fun β kr=>rfl⟩
theorem aov {d:Array α} (fN:a+12<b) (hb:b≤d.size) (hs:d.size<1152921504606846976) (hB:Below aK a b d) (len p:Int) (t:Bool): ∃d1:Array α,PermIn a b d d1∧
  ((∀(β:Type) (kr:((Bool × List V) ⊕ List V)→Option β),mT (aq.E α) CC a b lim wb wp len p t (eA d) kr=kr (.inr (eA d1)))∨
  (SortedIn aK a b d1∧∀(β:Type) (kr:((Bool × List V) ⊕ List V)→Option β),mT (aq.E α) CC a b lim wb wp len p t (eA d) kr=kr (.inl (true,eA d1)))):=by
 cases t with
 | true=>
  have hp:=partialInsertionSort_holds (lt:=aK) Br d a b (by omega) hb hB
  refine ⟨_,hp.1,?_⟩
  cases h:(partialInsertionSort aK d a b).2 with
  | true=>
   refine .inr ⟨hp.2 h,fun β kr=> ?_⟩
   unfold mT
   rw[cond_true,adq (by omega) hb hs,h]
   rfl
  | false=>
   refine .inl fun β kr=> ?_
   unfold mT
   rw[cond_true,adq (by omega) hb hs,h]
   rfl
 | false=>exact ⟨d,permIn_refl _ _ _,.inl fun β kr=>rfl⟩
end
def L0 (a b:Nat) (d:Array α):Prop:= ∀(lim:Int) (wb wp:Bool),∃R,Loop (ade (aq.E α) CC) ((a:Int),(b:Int),lim,wb,wp,eA d)=some (eA R)∧PermIn a b d R∧SortedIn aK a b R
theorem L0.call {a b:Nat} {d:Array α} (h:L0 a b d) (lim:Int): ∃R,CC ((aq.E α).k 12) [.int .i64 (a:Int),.int .i64 (b:Int),.int .i64 lim,.list (aq.E α).T (eA d)]=some [.list (aq.E α).T (eA R)]∧PermIn a b d R∧SortedIn aK a b R:=by
 obtain ⟨R,e,h1,h2⟩:=h lim true true
 refine ⟨R,aq.Tx ?_,h1,h2⟩
 unfold LN
 rw[e]
 rfl
theorem aow {a b p:Nat} {d:Array α} (fN:a+12<b) (hb:b≤d.size) (hs:d.size<1152921504606846976) (hB:Below aK a b d) (h1:a≤p) (h2:p<b)
  (ih: ∀(a2 b2:Nat) (d2:Array α),b2-a2<b-a→a2≤b2→b2≤d2.size→d2.size<1152921504606846976→Below aK a2 b2 d2→L0 a2 b2 d2) (wb wp:Bool) (lim:Int):
  ∃(a2 b2:Nat) (yU yV:Bool) (d2:Array α),b2-a2<b-a∧a2≤b2∧b2≤d2.size∧d2.size<1152921504606846976∧Below aK a2 b2 d2∧
   (∀R,PermIn a2 b2 d2 R→SortedIn aK a2 b2 R→PermIn a b d R∧SortedIn aK a b R)∧
   ∀(β:Type) (kn:(Int × Int × Int × Bool × Bool × (List V))→Option β),v9 (aq.E α) CC a b wb wp lim p (eA d) kn=kn ((a2:Int),(b2:Int),lim,yU,yV,eA d2):=by
 have part: ∃(a2 b2:Nat) (yU yV:Bool) (d2:Array α),b2-a2<b-a∧a2≤b2∧b2≤d2.size∧d2.size<1152921504606846976∧Below aK a2 b2 d2∧
   (∀R,PermIn a2 b2 d2 R→SortedIn aK a2 b2 R→PermIn a b d R∧SortedIn aK a b R)∧
   ∀(β:Type) (kn:(Int × Int × Int × Bool × Bool × (List V))→Option β),
    ((CC ((aq.E α).k 4) [.int .i64 (a:Int),.int .i64 (b:Int),.int .i64 (p:Int),.list (aq.E α).T (eA d)]).bind fun eO=>
        bif decide (((IntKind.wrap .i64 (((V.nth eO 0).toInt)-(a:Int))):Int)<(IntKind.wrap .i64 ((b:Int)-((V.nth eO 0).toInt)))) then
         (CC ((aq.E α).k 12) [.int .i64 (a:Int),.int .i64 ((V.nth eO 0).toInt),.int .i64 lim,.list (aq.E α).T ((V.nth (eO.drop 2) 0).toList)]).bind fun pU=>
         kn (IntKind.wrap .i64 (((V.nth eO 0).toInt)+1),(b:Int),lim,decide (((IntKind.wrap .i64 (((V.nth eO 0).toInt)-(a:Int))):Int)≥(IntKind.wrap .i64 (Int.tdiv (IntKind.wrap .i64 ((b:Int)-(a:Int))) 8))),(V.nth (eO.drop 1) 0).toBool,(V.nth pU 0).toList)
        else
         (CC ((aq.E α).k 12) [.int .i64 (IntKind.wrap .i64 (((V.nth eO 0).toInt)+1)),.int .i64 (b:Int),.int .i64 lim,.list (aq.E α).T ((V.nth (eO.drop 2) 0).toList)]).bind fun fV=>
         kn ((a:Int),(V.nth eO 0).toInt,lim,decide (((IntKind.wrap .i64 ((b:Int)-((V.nth eO 0).toInt))):Int)≥(IntKind.wrap .i64 (Int.tdiv (IntKind.wrap .i64 ((b:Int)-(a:Int))) 8))),(V.nth (eO.drop 1) 0).toBool,(V.nth fV 0).toList))=kn ((a2:Int),(b2:Int),lim,yU,yV,eA d2):=by
  obtain ⟨mid,ap,d4,hx⟩: ∃mid ap d4,partition aK d a b p=(mid,ap,d4):=⟨_,_,_,rfl⟩
  obtain ⟨g1,g2,rf,hBa,hBr,aox,aoy⟩:=round_part Br (partition_holds aK) h1 h2 hb hB hx
  have hc:=an4 (a:=a) (b:=b) (pivot:=p) (d:=d) h2 (by omega) hb hs
  rw[hx] at hc
  by_cases hl:mid-a<b-mid
  ·obtain ⟨L,e,l1,l2⟩:=(ih a mid d4 (by omega) g1 (by rw[rf];omega) (by rw[rf];exact hs) hBa).call lim
   obtain ⟨TM,pL⟩:=aox _ l1 l2
   refine ⟨mid+1,b,decide (((IntKind.wrap .i64 ((mid:Int)-(a:Int))):Int)≥(IntKind.wrap .i64 (Int.tdiv (IntKind.wrap .i64 ((b:Int)-(a:Int))) 8))),ap,L,by omega,by omega,by rw[l1.1,rf];exact hb,by rw[l1.1,rf];exact hs,TM,pL,fun β kn=> ?_⟩
   ·rw[hc]
    simp only[Option.bind_some,V.bZ,V.tD,V.toInt_int,V.kG,V.jB,jn,hZ]
    rw[aG,af (by rw[oN g1,oN (by omega),wrap64 (by omega) (by omega),wrap64 (by omega) (by omega)];omega),e]
    simp only[Option.bind_some,V.bZ,V.jB]
    rw[dP,wrap64 (x:=((mid+1:Nat):Int)) (by omega) (by omega)]
  ·obtain ⟨L,e,l1,l2⟩:=(ih (mid+1) b d4 (by omega) (by omega) (by rw[rf];exact hb) (by rw[rf];exact hs) hBr).call lim
   obtain ⟨TM,pL⟩:=aoy _ l1 l2
   refine ⟨a,mid,decide (((IntKind.wrap .i64 ((b:Int)-(mid:Int))):Int)≥(IntKind.wrap .i64 (Int.tdiv (IntKind.wrap .i64 ((b:Int)-(a:Int))) 8))),ap,L,by omega,by omega,by rw[l1.1,rf];omega,by rw[l1.1,rf];exact hs,TM,pL,fun β kn=> ?_⟩
   ·rw[hc]
    simp only[Option.bind_some,V.bZ,V.tD,V.toInt_int,V.kG,V.jB,jn,hZ]
    rw[aG,ag (by rw[oN g1,oN (by omega),wrap64 (by omega) (by omega),wrap64 (by omega) (by omega)];omega),dP,wrap64 (x:=((mid+1:Nat):Int)) (by omega) (by omega),e]
    simp only[Option.bind_some,V.bZ,V.jB]
 by_cases ha:0<a
 ·by_cases hc:aq.cmp d[a-1]! d[p]! <0
  ·obtain ⟨a2,b2,yU,yV,d2,q1,q2,q3,q4,q5,q6,q7⟩:=part
   refine ⟨a2,b2,yU,yV,d2,q1,q2,q3,q4,q5,q6,fun β kn=> ?_⟩
   rw[←q7 β kn]
   unfold v9
   rw[aG,aZ,ll ha,dr,mg (i:=a-1),mg (i:=p)]
   simp only[aq.re,aq.cs,Option.bind_some,V.bZ,V.toInt_int]
   rw[iu,aG,af hc]
  ·obtain ⟨mid,d4,hx⟩: ∃mid d4,partitionEqual aK d a b p=(mid,d4):=⟨_,_,rfl⟩
   obtain ⟨g1,qs,rf,hB4,pL⟩:=round_eq Br (partitionEqual_holds aK) ha h1 h2 hb hB (by rw[adw];exact hc) hx
   have he:=an6 (a:=a) (b:=b) (pivot:=p) (d:=d) h2 (by omega) hb hs
   rw[hx] at he
   refine ⟨mid,b,wb,wp,d4,by omega,qs,by rw[rf];exact hb,by rw[rf];exact hs,hB4,pL,fun β kn=> ?_⟩
   unfold v9
   rw[aG,aZ,ll ha,dr,mg (i:=a-1),mg (i:=p)]
   simp only[aq.re,aq.cs,Option.bind_some,V.bZ,V.toInt_int]
   rw[iu,aG,ag hc,he]
   rfl
 ·obtain ⟨a2,b2,yU,yV,d2,q1,q2,q3,q4,q5,q6,q7⟩:=part
  refine ⟨a2,b2,yU,yV,d2,q1,q2,q3,q4,q5,q6,fun β kn=> ?_⟩
  rw[←q7 β kn]
  unfold v9
  rw[aG,bK]
theorem aoz: ∀(n a b:Nat) (d:Array α),b-a≤n→a≤b→b≤d.size→d.size<1152921504606846976→Below aK a b d→L0 a b d:=by
 intro n
 induction n with
 | zero=>
  intro a b d hn fN hb hs hB lim wb wp
  have hi:=insertionSort_holds (lt:=aK) Br d a b fN hb
  refine ⟨_,cI ?_,hi⟩
  show pT (aq.E α) CC a b lim wb wp (eA d) (fun y=>some (Sum.inl y)) (fun r=>some (Sum.inr r))=_
  rw[LZ,aG,af (by rw[oN fN,wrap64 (by omega) (by omega)];omega),adg hb hs (by omega)]
  rfl
 | succ n ih=>
  intro a b d hn fN hb hs hB lim wb wp
  by_cases h12:b-a≤12
  ·have hi:=insertionSort_holds (lt:=aK) Br d a b fN hb
   refine ⟨_,cI ?_,hi⟩
   show pT (aq.E α) CC a b lim wb wp (eA d) (fun y=>some (Sum.inl y)) (fun r=>some (Sum.inr r))=_
   rw[LZ,aG,af (by rw[oN fN,wrap64 (by omega) (by omega)];omega),adg hb hs (by omega)]
   rfl
  ·have Ga:a+12<b:=by omega
   have vk: ¬(((IntKind.wrap .i64 ((b:Int)-(a:Int))):Int)≤12):=by rw[oN fN,dr];omega
   by_cases h0:lim=0
   ·have hi:=heapSort_holds (lt:=aK) Br d a b fN hb
    refine ⟨_,cI ?_,hi⟩
    show pT (aq.E α) CC a b lim wb wp (eA d) (fun y=>some (Sum.inl y)) (fun r=>some (Sum.inr r))=_
    rw[LZ,aG,ag vk,pw,af h0,anX (by omega) hb hs]
    rfl
   ·obtain ⟨l1,d1,s1,k1⟩:=aot (lim:=lim) (wb:=wb) (wp:=wp) Ga hb hs (IntKind.wrap .i64 ((b:Int)-(a:Int))) (!wb)
    have b1:b≤d1.size:=by rw[s1.1];exact hb
    have z1:d1.size<1152921504606846976:=by rw[s1.1];exact hs
    obtain ⟨p,h,c1,p1,p2⟩:=aom Ga b1 z1
    obtain ⟨q,h2,d2,q1,q2,s2,k2⟩:=aou (lim:=l1) (wb:=wb) (wp:=wp) Ga b1 z1 (IntKind.wrap .i64 ((b:Int)-(a:Int))) h (h==2) p1 p2
    have b2:b≤d2.size:=by rw[s2.1];exact b1
    have z2:d2.size<1152921504606846976:=by rw[s2.1];exact z1
    have B2:Below aK a b d2:=(hB.perm hb s1).perm b1 s2
    obtain ⟨t,ht⟩: ∃t:Bool,t=(bif wb then (bif wp then (h2==1) else false) else false):=⟨_,rfl⟩
    obtain ⟨d3,s3,k3⟩:=aov (lim:=l1) (wb:=wb) (wp:=wp) Ga b2 z2 B2 (IntKind.wrap .i64 ((b:Int)-(a:Int))) (q:Int) t
    have b3:b≤d3.size:=by rw[s3.1];exact b2
    have z3:d3.size<1152921504606846976:=by rw[s3.1];exact z2
    have B3:Below aK a b d3:=B2.perm b2 s3
    have P3:PermIn a b d d3:=permIn_trans _ _ _ a b (permIn_trans _ _ _ a b s1 s2) s3
    have step: ∀(β:Type) (kn:(Int × Int × Int × Bool × Bool × (List V))→Option β) (kr:(List V)→Option β),pT (aq.E α) CC a b lim wb wp (eA d) kn kr=
      mT (aq.E α) CC a b l1 wb wp (IntKind.wrap .i64 ((b:Int)-(a:Int))) (q:Int) t (eA d2) (dI (un fun (acj:Bool) (TL:List V)=>kr TL) (fun (ra:List V)=>v9 (aq.E α) CC a b wb wp l1 q ra kn)):=by
     intro β kn kr
     rw[LZ,aG,ag vk,pw,ag h0,k1]
     simp only[un]
     rw[c1]
     simp only[Option.bind_some,V.bZ,V.tD,V.toInt_int,jn,hZ]
     rw[k2]
     simp only[un]
     rw[ht]
     cases wb
     ·rfl
     ·cases wp
      ·rfl
      ·rfl
    rcases k3 with k3|⟨k3s,k3⟩
    ·obtain ⟨a4,b4,wb4,wp4,d4,r1,r2,r3,r4,r5,r6,r7⟩:=aow Ga b3 z3 B3 q1 q2 (fun a2 b2 d2 bx h1 h2 h3 h4=>ih a2 b2 d2 (by omega) h1 h2 h3 h4) wb wp l1
     obtain ⟨R,e,e1,e2⟩:=ih a4 b4 d4 (by omega) r2 r3 r4 r5 l1 wb4 wp4
     obtain ⟨f1,f2⟩:=r6 R e1 e2
     refine ⟨R,(eQ ?_).trans e,permIn_trans _ _ _ a b P3 f1,f2⟩
     show pT (aq.E α) CC a b lim wb wp (eA d) (fun y=>some (Sum.inl y)) (fun r=>some (Sum.inr r))=_
     rw[step,k3]
     exact r7 _ (fun y=>some (Sum.inl y))
    ·refine ⟨d3,cI ?_,P3,k3s⟩
     show pT (aq.E α) CC a b lim wb wp (eA d) (fun y=>some (Sum.inl y)) (fun r=>some (Sum.inr r))=_
     rw[step,k3]
     rfl
theorem adz (l:List α) (hs:l.length<1152921504606846976): ∃R:List α,CC ((aq.E α).k 13) [.list (aq.E α).T (l.map aq.enc)]=some [.list (aq.E α).T (R.map aq.enc)]∧R.Perm l∧R.Pairwise (fun x y=> ¬aq.cmp y x<0):=by
 obtain ⟨L,e1,_⟩:=ady (x:=l.length) (by omega)
 obtain ⟨R,e2,h1,h2⟩:=(aoz _ 0 l.toArray.size l.toArray (aw _) (na _) (aw _) (by simpa using hs) (.inl rfl)).call (L:Int)
 have bG:R.size=l.length:=by rw[h1.1];simp
 refine ⟨R.toList,aq.Tz ?_,?_,?_⟩
 ·unfold LO
  rw[bX,vE (A:=l.length) (by omega),e1]
  simp only[Option.bind_some,V.bZ,V.toInt_int]
  have e3:eA l.toArray=l.map aq.enc:=by simp[sB]
  rw[e3,show ((l.toArray.size:Nat):Int)=(l.length:Int) by simp,show ((0:Nat):Int)=0 from rfl] at e2
  rw[e2]
  rfl
 ·have h3:=h1.2.2
  rw[show l.toArray.size=R.size from h1.1.symm,Array.extract_size,h1.1,Array.extract_size] at h3
  exact h3
 ·rw[zg]
  intro i j hi hj xe
  have h3:=h2 i j (na _) xe (by simpa[←bG] using hj)
  rw[adw] at h3
  have eK:i<R.size:=by simpa using hi
  have iF:j<R.size:=by simpa using hj
  rw[getElem!_pos R i eK,getElem!_pos R j iF] at h3
  simpa using h3
end Go.AM
set_option maxRecDepth 100000
namespace Go.AM
open Go.Proofs
noncomputable def adA (C:ab) (nE nF nG tW tX tY:Int):Option LV:=
 (C tM [V.int .i64 nE,V.int .i64 tW]).bind fun r1=>
 (C tM [V.int .i64 nF,V.int .i64 tX]).bind fun r2=>
 (C tM [V.int .i64 nG,V.int .i64 tY]).bind fun r3=>
 (C DQ [.list bJ ([V.int .i64 ((V.nth r1 0).toInt),V.int .i64 ((V.nth r2 0).toInt),V.int .i64 ((V.nth r3 0).toInt)]:LV)]).bind fun r4=>
 some [V.int .i64 ((V.nth r4 0).toInt)]
theorem aoA {nE nF nG tW tX tY:Int} {r:Option LV} (h:adA CC nE nF nG tW tX tY=r):CC cq [V.int .i64 nE,V.int .i64 nF,V.int .i64 nG,V.int .i64 tW,V.int .i64 tX,V.int .i64 tY]=r:=bu (L:=bw) ak h
theorem aoB (a b:Ed):CC cq [.int .i64 a.f,.int .i64 a.l,.int .i64 a.t,.int .i64 b.f,.int .i64 b.l,.int .i64 b.t]=some [.int .i64 (oE a b)]:=by
 refine aoA ?_
 unfold adA
 refine bs (AE _ _) ?_
 refine bs (AE _ _) ?_
 refine bs (AE _ _) ?_
 refine bs (aa0 _ _ _) ?_
 rfl
noncomputable def cf:SE:=⟨aL,cq,fun x1=>[V.int .i64 ((x1.cell 0).toInt),V.int .i64 ((x1.cell 1).toInt),V.int .i64 ((x1.cell 2).toInt)],fun k=>[YK,YR,YL,YS,YU,JT,YT,YM,YP,YO,YQ,YN,YJ,xJ].getD k 0⟩
noncomputable def adB (C:ab):bR:=bd 65 Ry [false,false,false,true,true] [[1,2,3,0,0,0]] (@vQ cf C) (bd 17 Rz [false,false,true,true] [[1,2,0,0,0]] (@yA cf C) bw)
theorem aoC (C:ab):aQ C (adB C) 129 (Lp [1,0,0,1,0,0,1,0,0] 129):=bc Ry [false,false,false,true,true] [[1,2,3,0,0,0]] (@vQ cf C) (aA ak)
theorem aoD (C:ab):aQ C (adB C) 129 (Lp [1,0,0] 129):=bc Rz [false,false,true,true] [[1,2,0,0,0]] (@yA cf C) (aA (aO (aoC C) ak))
theorem aoE {a b':Int} {ai:LV} {r:Option LV} (h:Lv cf CC a b' ai=r):CC YK [V.int .i64 a,V.int .i64 b',.list aL ai]=r:=bu (aO (aoD CC) ak) h
noncomputable def adC (C:ab):bR:=fS 655 RG [[1,2,3,0,6]] (@uo cf C) (bd 17 RH [false,false,true,true] [[1,2,0,0,0,0],[1,2,0,0,0,0]] (@sC cf C) bw)
theorem aoF (C:ab):aQ C (adC C) 136 (Cd 40 [1,0,0,0,1,1,0,1,0] [1,0,0,0,1,1,0,1,1] 136):=fR RG [[1,2,3,0,6]] (@uo cf C) (aA ak) (aA ak)
theorem aoG (C:ab):aQ C (adC C) 136 (Lp [1,0,0] 136):=bc RH [false,false,true,true] [[1,2,0,0,0,0],[1,2,0,0,0,0]] (@sC cf C) (aA (aO (aoF C) ak))
theorem aoH {lo hi first:Int} {ai:LV} {r:Option LV} (h:Lw cf CC lo hi first ai=r):CC YR [V.int .i64 lo,V.int .i64 hi,V.int .i64 first,.list aL ai]=r:=bu (aO (aoG CC) ak) h
noncomputable def adD (C:ab):bR:=bd 65 RA [false,false,false,true,true] [[1,2,3,0,0,0]] (@yC cf C) (bd 129 RB [false,false,true,true] [[1,2,0,0,0]] (@yD cf C) bw)
theorem aoI (C:ab):aQ C (adD C) 130 (Lp [1,1,1,0,1,0,0] 130):=bc RA [false,false,false,true,true] [[1,2,3,0,0,0]] (@yC cf C) (aA ak)
theorem aoJ (C:ab):aQ C (adD C) 130 (Lp [1,1,1,1,1,0,0] 130):=bc RB [false,false,true,true] [[1,2,0,0,0]] (@yD cf C) (aA ak)
theorem aoK {a b':Int} {ai:LV} {r:Option LV} (h:LA cf CC a b' ai=r):CC YL [V.int .i64 a,V.int .i64 b',.list aL ai]=r:=bu (aO (aoI CC) (aO (aoJ CC) ak)) h
noncomputable def aoL (C:ab):bR:=bd 33 RI [true,true,true] [[0,0,0,0]] (@vR cf C) bw
theorem aoM (C:ab):aQ C (aoL C) 137 (Lp [1,1,0,0] 137):=bc RI [true,true,true] [[0,0,0,0]] (@vR cf C) (aA ak)
theorem aoN {a b':Int} {ai:LV} {r:Option LV} (h:LB cf CC a b' ai=r):CC YS [V.int .i64 a,V.int .i64 b',.list aL ai]=r:=bu (aO (aoM CC) ak) h
noncomputable def Gb (C:ab):bR:=bd 49 RO [false,true,false,false] [[1,0,3,0,4]] (@yE cf C) (bd 81 RP [false,false,true,false] [[1,2,0,0,4]] (@vS cf C) (bd 209 RQ [false,true,false,false] [[1,0,3,0,4]] (@yF cf C) (bd 241 RR [false,false,true,false] [[1,2,0,0,4]] (@vT cf C) (bd 210 RS [false,true,true,true] [[1,0,0,0,0]] (@yG cf C) bw))))
theorem aoO (C:ab):aQ C (Gb C) 139 (Lp [1,1,1,0,0,0] 139):=bc RO [false,true,false,false] [[1,0,3,0,4]] (@yE cf C) (aA ak)
theorem aoP (C:ab):aQ C (Gb C) 139 (Lp [1,1,1,1,0,0,0] 139):=bc RP [false,false,true,false] [[1,2,0,0,4]] (@vS cf C) (aA ak)
theorem aoQ (C:ab):aQ C (Gb C) 139 (Lp [1,1,1,1,1,1,1,1,1,0,0,0,0,0,0,0] 139):=bc RQ [false,true,false,false] [[1,0,3,0,4]] (@yF cf C) (aA ak)
theorem aoR (C:ab):aQ C (Gb C) 139 (Lp [1,1,1,1,1,1,1,1,1,0,0,0,0,1,0,0,0] 139):=bc RR [false,false,true,false] [[1,2,0,0,4]] (@vT cf C) (aA ak)
theorem aoS (C:ab):aQ C (Gb C) 139 (Lp [1,1,1,1,1,1,1,1,1,0,0,0] 139):=bc RS [false,true,true,true] [[1,0,0,0,0]] (@yG cf C) (aA (aO (aoQ C) (aO (aoR C) ak)))
theorem aoT {a b' pivot:Int} {ai:LV} {r:Option LV} (h:LD cf CC a b' pivot ai=r):CC YU [V.int .i64 a,V.int .i64 b',V.int .i64 pivot,.list aL ai]=r:=bu (aO (aoO CC) (aO (aoP CC) (aO (aoS CC) ak))) h
noncomputable def TN (C:ab):bR:=bd 49 Rf [false,true,false,false] [[1,0,3,0,4]] (@yI cf C) (bd 81 Rg [false,false,true,false] [[1,2,0,0,4]] (@vV cf C) (bd 50 Rh [false,true,true,true] [[1,0,0,0,0]] (@yJ cf C) bw))
theorem aoU (C:ab):aQ C (TN C) 88 (Lp [1,1,1,0,0,0,0,0,0,0] 88):=bc Rf [false,true,false,false] [[1,0,3,0,4]] (@yI cf C) (aA ak)
theorem aoV (C:ab):aQ C (TN C) 88 (Lp [1,1,1,0,0,0,0,1,0,0,0] 88):=bc Rg [false,false,true,false] [[1,2,0,0,4]] (@vV cf C) (aA ak)
theorem aoW (C:ab):aQ C (TN C) 88 (Lp [1,1,1,0,0,0] 88):=bc Rh [false,true,true,true] [[1,0,0,0,0]] (@yJ cf C) (aA (aO (aoU C) (aO (aoV C) ak)))
theorem aoX {a b' pivot:Int} {ai:LV} {r:Option LV} (h:LG cf CC a b' pivot ai=r):CC JT [V.int .i64 a,V.int .i64 b',V.int .i64 pivot,.list aL ai]=r:=bu (aO (aoW CC) ak) h
noncomputable def Gc (C:ab):bR:=bd 81 RJ [false,false,true,false,false] [[1,2,0,4,0,5]] (@yK cf C) (bd 225 RK [false,false,false,false,true,true] [[1,2,3,4,0,0]] (@yL cf C) (fS 1055 RL [[1,2,3,4,0]] (@Bm cf C) (bd 321 RM [false,false,false,false,true,true] [[1,2,3,4,0,0]] (@yM cf C) (bd 49 RN [false,false,true,true,true] [[0,0],[1,2,0,0,0,0]] (@yN cf C) bw))))
theorem aoY (C:ab):aQ C (Gc C) 138 (Lp [1,1,0,1,0,0,1,0,0,0,0,0] 138):=bc RJ [false,false,true,false,false] [[1,2,0,4,0,5]] (@yK cf C) (aA ak)
theorem aoZ (C:ab):aQ C (Gc C) 138 (Lp [1,1,0,1,0,0,1,0,0,1,1,1,1,0,1,0,1,0,0] 138):=bc RK [false,false,false,false,true,true] [[1,2,3,4,0,0]] (@yL cf C) (aA ak)
theorem ao0 (C:ab):aQ C (Gc C) 138 (Cd 65 [1,1,0,1,0,0,1,0,0,1,1,1,1,0,1,0] [1,1,0,1,0,0,1,0,0,1,1,1,1,0,1,1] 138):=fR RL [[1,2,3,4,0]] (@Bm cf C) (aA (aO (aoZ C) ak)) (aA ak)
theorem ao1 (C:ab):aQ C (Gc C) 138 (Lp [1,1,0,1,0,0,1,0,0,1,1,1,1,1,1,0,1,0,0] 138):=bc RM [false,false,false,false,true,true] [[1,2,3,4,0,0]] (@yM cf C) (aA ak)
theorem ao2 (C:ab):aQ C (Gc C) 138 (Lp [1,1,0,1,0,0] 138):=bc RN [false,false,true,true,true] [[0,0],[1,2,0,0,0,0]] (@yN cf C) (aA (aO (aoY C) (aO (ao0 C) (aO (ao1 C) ak))))
theorem ao3 {a b':Int} {ai:LV} {r:Option LV} (h:LH cf CC a b' ai=r):CC YT [V.int .i64 a,V.int .i64 b',.list aL ai]=r:=bu (aO (ao2 CC) ak) h
noncomputable def adE (C:ab):bR:=fS 735 RC [[1,2,3,4,0,7,8]] (@Bn cf C) (bd 81 RD [false,false,false,true,true,true] [[1,2,3,0,0,0,0]] (@yO cf C) bw)
theorem ao4 (C:ab):aQ C (adE C) 131 (Cd 45 [1,1,0,1,1,1,0,0,1,0,0,1,0,1,0] [1,1,0,1,1,1,0,0,1,0,0,1,0,1,1] 131):=fR RC [[1,2,3,4,0,7,8]] (@Bn cf C) (aA ak) (aA ak)
theorem ao5 (C:ab):aQ C (adE C) 131 (Lp [1,1,0,1,1,1,0,0] 131):=bc RD [false,false,false,true,true,true] [[1,2,3,0,0,0,0]] (@yO cf C) (aA (aO (ao4 C) ak))
theorem ao6 {a b':Int} {ai:LV} {r:Option LV} (h:LJ cf CC a b' ai=r):CC YM [V.int .i64 a,V.int .i64 b',.list aL ai]=r:=bu (aO (ao5 CC) ak) h
theorem ao7 {data:LV} {a b' c ed:Int} {r:Option LV} (h:LL cf CC data a b' c ed=r):CC YP [.list aL data,V.int .i64 a,V.int .i64 b',V.int .i64 c,V.int .i64 ed]=r:=bu (L:=bw) ak h
theorem ao8 {data:LV} {a ed:Int} {r:Option LV} (h:LM cf CC data a ed=r):CC YO [.list aL data,V.int .i64 a,V.int .i64 ed]=r:=bu (L:=bw) ak h
theorem ao9 {data:LV} {a b' ed:Int} {r:Option LV} (h:F6 cf CC data a b' ed=r):CC YQ [.list aL data,V.int .i64 a,V.int .i64 b',V.int .i64 ed]=r:=bu (L:=bw) ak h
noncomputable def adF (C:ab):bR:=fS 591 RE [[1,0,0,0,0]] (@yP cf C) (fS 559 RF [[0,0]] (@yQ cf C) bw)
theorem apa (C:ab):aQ C (adF C) 132 (Cd 36 [1,1,1,1,1,1,0,1,0,0,1,0] [1,1,1,1,1,1,0,1,0,0,1,1] 132):=fR RE [[1,0,0,0,0]] (@yP cf C) (aA ak) (aA ak)
theorem apb (C:ab):aQ C (adF C) 132 (Cd 34 [1,1,1,1,1,1,0,1,0] [1,1,1,1,1,1,0,1,1] 132):=fR RF [[0,0]] (@yQ cf C) (aA (aO (apa C) ak)) (aA ak)
theorem apc {data:LV} {a b':Int} {r:Option LV} (h:F7 cf CC data a b'=r):CC YN [.list aL data,V.int .i64 a,V.int .i64 b']=r:=bu (aO (apb CC) ak) h
noncomputable def L3 (C:ab):bR:=fS 639 Ru [[1,2,0,4,5,6,0]] (@vX cf C) (fS 911 Rv [[1,2,3,4,5,6,0,0,0]] (@vY cf C) (fS 1215 Rw [[1,2,3,4,5,6,7,0,0],[1,2,3,4,5,6,7,0]] (@mT cf C) (bd 33 Rx [true,true,true,true,true,true] [[0]] (@pT cf C) bw)))
theorem apd (C:ab):aQ C (L3 C) 128 (Cd 39 [1,1,0,0,0,1,1,1,0,1,0] [1,1,0,0,0,1,1,1,0,1,1] 128):=fR Ru [[1,2,0,4,5,6,0]] (@vX cf C) (aA ak) (aA ak)
theorem ape (C:ab):aQ C (L3 C) 128 (Cd 56 [1,1,0,0,0,1,1,1,1,1,0,1,0] [1,1,0,0,0,1,1,1,1,1,0,1,1] 128):=fR Rv [[1,2,3,4,5,6,0,0,0]] (@vY cf C) (aA ak) (aA ak)
theorem apf (C:ab):aQ C (L3 C) 128 (Cd 75 [1,1,0,0,0,1,1,1,1,1,1,0,1,0] [1,1,0,0,0,1,1,1,1,1,1,0,1,1] 128):=fR Rw [[1,2,3,4,5,6,7,0,0],[1,2,3,4,5,6,7,0]] (@mT cf C) (aA ak) (aA ak)
theorem apg (C:ab):aQ C (L3 C) 128 (Lp [1,1,0,0] 128):=bc Rx [true,true,true,true,true,true] [[0]] (@pT cf C) (aA (aO (apd C) (aO (ape C) (aO (apf C) ak))))
theorem aph {a b' hG:Int} {ai:LV} {r:Option LV} (h:LN cf CC a b' hG ai=r):CC YJ [V.int .i64 a,V.int .i64 b',V.int .i64 hG,.list aL ai]=r:=bu (aO (apg CC) ak) h
theorem api {xs:LV} {r:Option LV} (h:LO cf CC xs=r):CC xJ [.list aL xs]=r:=bu (L:=bw) ak h
end Go.AM
set_option maxRecDepth 100000
namespace Go.AM.SL
open Go.Proofs Go.Sort
noncomputable abbrev apj:aq Ed where
 E:=cf
 enc:=Ed.enc
 cmp:=oE
 re x:=by simp only[cf,Ed.iI,Ed.iJ,Ed.iK];exact Ed.re x
 cs a b:=by simp only[cf,Ed.iI,Ed.iJ,Ed.iK];exact aoB a b
 Tm:=⟨fun x=>by simp only[Hs,sj];unfold Ed.lt;omega,fun x y z=>by simp only[dW,sj];unfold Ed.lt;omega,fun x y z=>by simp only[Hs,sj];unfold Ed.lt;omega⟩
 Tn:=aoE
 To:=aoH
 Tp:=aoK
 Tq:=aoN
 Tr:=aoT
 Ts:=aoX
 Tt:=ao3
 Tu:=ao6
 Tv:=ao7
 Tw:=ao8
 LP:=ao9
 LQ:=apc
 Tx:=aph
 Tz:=api
theorem apk (l:List Ed) (hs:l.length<1152921504606846976): ∃R:List Ed,CC xJ [.list aL (l.map Ed.enc)]=some [.list aL (R.map Ed.enc)]∧R.Perm l∧R.Pairwise (fun x y=> ¬y.lt x):=by
 obtain ⟨R,h1,h2,h3⟩:= @adz Ed apj _ l hs
 exact ⟨R,h1,h2,h3.imp fun h g=>h ((sj _ _).2 g)⟩
end Go.AM.SL
set_option maxRecDepth 100000
namespace Go.AM
open Go.Proofs
noncomputable def Gd (C:ab) (i x s at':Int) (t57:Bool) (aH aD aJ aE:Int) (fu:LV) (bf bh:Int) (kg places:LV) (iO iP:Int) (rows br bt bH cH:LV) {β:Type} (kr:((Int × Int × Int × LV × LV × LV) ⊕ (Int × LV × LV))→Option β):Option β:=
 bif t57 then
  bif ((kg.length:Int):Int)==512 then
  kr (.inl (3,0,0,([]:LV),([]:LV),([]:LV)))
  else
  bif dz .u64 s&&true then
   bif Nat.ble ((kg.length+([.int .u64 s]:LV).length)*8) bM then
   kr (.inr ((kg.length:Int),kg++([.int .u64 s]:LV),fL (.int .u64 s) (V.int .i64 (kg.length:Int)) places))
   else none
  else none
 else
  kr (.inr (at',kg,places))
noncomputable def Bu (C:ab) (i aH aD aJ aE:Int) (fu:LV) (bf bh iO iP:Int) (br bt bH cH:LV) (x:Int) (kg places rows:LV) {β:Type} (kn:(Int × LV × LV × LV)→Option β) (kr:((Int × Int × Int × LV × LV × LV) ⊕ (Int × Bool × LV × LV × LV))→Option β):Option β:=
 bif decide ((x:Int)<aH) then
  ar kg i fun x2=>
  (C vu [V.int .i64 aH,V.int .i64 aD,.int .u64 aJ,.int .u64 aE,.list aL fu,.int .u64 x2.toInt,V.int .i64 x]).bind fun r3=>
  bif dz .u64 ((V.nth r3 0).toInt)&&true then
  Gd C i x ((V.nth r3 0).toInt) ((jo (.int .u64 ((V.nth r3 0).toInt)) places (V.int .i64 0)).toInt) (!(gy (.int .u64 ((V.nth r3 0).toInt)) places)) aH aD aJ aE fu bf bh kg places iO iP rows br bt bH cH (dI (un fun (jh:Int)=>un fun (apl:Int)=>un fun (apm:Int)=>un fun (Ge:LV)=>un fun (Gf:LV) (apn:LV)=>
   kr (.inl (jh,apl,apm,Ge,Gf,apn))) (un fun (adG:Int)=>un fun (apo:LV) (apq:LV)=>
   bif Nat.ble ((rows.length+([V.int .i64 adG]:LV).length)*8) bM then
    kn (IntKind.wrap .i64 (x+1),apo,apq,rows++([V.int .i64 adG]:LV))
   else none))
  else none
 else
  kr (.inr (x,decide ((x:Int)<aH),kg,places,rows))
noncomputable def yW (C:ab) (i aH aD aJ aE:Int) (fu:LV) (bf bh iO iP:Int) (br bt bH cH:LV):=un fun x=>un fun kg=>un fun places rows=>Bu C i aH aD aJ aE fu bf bh iO iP br bt bH cH x kg places rows (fun y=>some (Sum.inl y)) (fun r=>some (Sum.inr r))
noncomputable def Gg (C:ab) (aH aD aJ aE:Int) (fu:LV) (bf bh iO iP:Int) (bE br:LV) (i:Int) (kg places bt bH:LV) {β:Type} (kn:(Int × LV × LV × LV × LV)→Option β) (kr:((Int × Int × Int × LV × LV × LV) ⊕ (Int × Bool × LV × LV × LV × LV))→Option β):Option β:=
 bif decide ((i:Int)<(kg.length:Int)) then
  (Loop (yW C i aH aD aJ aE fu bf bh iO iP bE br bt bH) (0,kg,places,([]:LV))).bind (dI (un fun (pH:Int)=>un fun (apr:Int)=>un fun (aps:Int)=>un fun (yn:LV)=>un fun (ye:LV) (apt:LV)=>
   kr (.inl (pH,apr,aps,yn,ye,apt))) (un fun (auR:Int)=>un fun (acH:Bool)=>un fun (adH:LV)=>un fun (apu:LV) (adI:LV)=>
   bif Nat.ble ((bH.length+([.list bJ adI]:LV).length)*24) bM then
   ar adH i fun Bh=>
   bif Nat.ble ((bt.length+([.bool (((IntKind.wrap .u64 ((BitVec.ofInt (IntKind.bits .u64) Bh.toInt&&&BitVec.ofInt (IntKind.bits .u64) aE).toNat)):Int) != 0)]:LV).length)*1) bM then
    kn (IntKind.wrap .i64 (i+1),adH,apu,bt++([.bool (((IntKind.wrap .u64 ((BitVec.ofInt (IntKind.bits .u64) Bh.toInt&&&BitVec.ofInt (IntKind.bits .u64) aE).toNat)):Int) != 0)]:LV),bH++([.list bJ adI]:LV))
   else none
   else none))
 else
  kr (.inr (i,decide ((i:Int)<(kg.length:Int)),kg,places,bt,bH))
noncomputable def Bv (C:ab) (aH aD aJ aE:Int) (fu:LV) (bf bh iO iP:Int) (bE br:LV):=un fun i=>un fun kg=>un fun places=>un fun bt bH=>Gg C aH aD aJ aE fu bf bh iO iP bE br i kg places bt bH (fun y=>some (Sum.inl y)) (fun r=>some (Sum.inr r))
noncomputable def TO (C:ab):bR:=fS 927 Qy [[0,0,0,0,0,0],[1,2,0,6,7,8,9,10,11,12,0,0,15,16,17,18,19,20,21]] (@Gd C) (bd 193 Qz [false,true,false,false,false,false,false,false,false,true,true,false,false,true,false,false,false,false] [[0,0,0,0,0,0],[1,0,0,3,4,5,6,7,8,9,0,0,12,13,0,15,16,17,18]] (@Bu C) (bd 129 QA [true,false,false,false,false,false,false,false,true,true,false,false,false,false,true,true] [[0,0,0,0,0,0],[0,0,2,3,4,5,6,7,8,0,0,11,12,13,14,0,0]] (@Gg C) bw))
theorem apv (C:ab):aQ C (TO C) 58 (Cd 57 [1,1,1,1,1,0,1,0,0,1,0,0,1,0,1,0,0,1,0,0,1,1,0,1,0] [1,1,1,1,1,0,1,0,0,1,0,0,1,0,1,0,0,1,0,0,1,1,0,1,1] 58):=fR Qy [[0,0,0,0,0,0],[1,2,0,6,7,8,9,10,11,12,0,0,15,16,17,18,19,20,21]] (@Gd C) (aA ak) (aA ak)
theorem apw (C:ab):aQ C (TO C) 58 (Lp [1,1,1,1,1,0,1,0,0,1,0,0,1,0,1,0,0] 58):=bc Qz [false,true,false,false,false,false,false,false,false,true,true,false,false,true,false,false,false,false] [[0,0,0,0,0,0],[1,0,0,3,4,5,6,7,8,9,0,0,12,13,0,15,16,17,18]] (@Bu C) (aA (aO (apv C) ak))
theorem apx (C:ab):aQ C (TO C) 58 (Lp [1,1,1,1,1,0,1,0,0] 58):=bc QA [true,false,false,false,false,false,false,false,true,true,false,false,false,false,true,true] [[0,0,0,0,0,0],[0,0,2,3,4,5,6,7,8,0,0,11,12,13,14,0,0]] (@Gg C) (aA (aO (apw C) ak))
noncomputable def TP (C:ab) (cu cF cv cW:Int) (cw:LV):Option LV:=
 (C JJ [V.int .i64 cu,V.int .i64 cF,.int .u64 cv,.int .u64 cW,.list aL cw]).bind fun r1=>
 bif (((V.nth r1 0).toInt):Int) != 0 then
  some [V.int .i64 0,V.int .i64 0,V.int .i64 ((V.nth r1 0).toInt),.list au ([]:LV),.list ax ([]:LV),.list cp ([]:LV)]
 else
  bif dz .u64 cv&&true then
  (Loop (Bv C cu cF cv cW cw 0 0 cu 0 ([]:LV) ([]:LV)) (0,([.int .u64 cv]:LV),fL (.int .u64 cv) (V.int .i64 0) ([]:LV),([]:LV),([]:LV))).bind (dI (un fun (SD:Int)=>un fun (apy:Int)=>un fun (apz:Int)=>un fun (apA:LV)=>un fun (apB:LV) (apC:LV)=>
   some [V.int .i64 apy,V.int .i64 apz,V.int .i64 SD,.list au apA,.list ax apB,.list cp apC]) (un fun (anO:Int)=>un fun (anG:Bool)=>un fun (apD:LV)=>un fun (auS:LV)=>un fun (yf:LV) (SQ:LV)=>
   some [V.int .i64 cu,V.int .i64 0,V.int .i64 0,.list au yf,.list ax SQ,.list cp apD]))
  else none
theorem adJ {cu cF cv cW:Int} {cw:LV} {r:Option LV} (h:TP CC cu cF cv cW cw=r):CC DS [V.int .i64 cu,V.int .i64 cF,.int .u64 cv,.int .u64 cW,.list aL cw]=r:=bu (aO (apx CC) ak) h
noncomputable def adK (C:ab) (cu cF cv cW:Int) (cw:LV):Option LV:=
 bif decide ((cF:Int)>64) then
  some [V.int .i64 0,V.int .i64 0,V.int .i64 3,.list au ([]:LV),.list ax ([]:LV)]
 else
  (C DR [.list aL cw]).bind fun r1=>
  (C DS [V.int .i64 cu,V.int .i64 cF,.int .u64 cv,.int .u64 cW,.list aL ((V.nth r1 0).toList)]).bind fun r2=>
  bif (((V.nth (r2.drop 2) 0).toInt):Int) != 0 then
  some [V.int .i64 0,V.int .i64 0,V.int .i64 ((V.nth (r2.drop 2) 0).toInt),.list au ([]:LV),.list ax ([]:LV)]
  else
  (C tJ [V.int .i64 ((V.nth r2 0).toInt),V.int .i64 ((V.nth (r2.drop 1) 0).toInt),.list au ((V.nth (r2.drop 3) 0).toList),.list ax ((V.nth ((r2.drop 3).drop 1) 0).toList)]).bind fun r3=>
  some [V.int .i64 ((V.nth r3 0).toInt),V.int .i64 ((V.nth (r3.drop 1) 0).toInt),V.int .i64 0,.list au ((V.nth (r3.drop 2) 0).toList),.list ax ((V.nth ((r3.drop 2).drop 1) 0).toList)]
theorem apE {cu cF cv cW:Int} {cw:LV} {r:Option LV} (h:adK CC cu cF cv cW cw=r):CC vr [V.int .i64 cu,V.int .i64 cF,.int .u64 cv,.int .u64 cW,.list aL cw]=r:=bu (L:=bw) ak h
noncomputable def adL (C:ab) (cu cF cv cW:Int) (cw:LV):Option LV:=
 (C DT [V.int .i64 cu,V.int .i64 cF,.int .u64 cv,.int .u64 cW,.list aL cw]).bind fun r1=>
 bif (((V.nth (r1.drop 2) 0).toInt):Int) != 0 then
  some [V.int .i64 0,V.int .i64 0,V.int .i64 ((V.nth (r1.drop 2) 0).toInt),.list au ([]:LV),.list ax ([]:LV)]
 else
  (C Aw [V.int .i64 ((V.nth r1 0).toInt),V.int .i64 ((V.nth (r1.drop 1) 0).toInt),.list au ((V.nth (r1.drop 3) 0).toList),.list ax ((V.nth ((r1.drop 3).drop 1) 0).toList)]).bind fun r2=>
  some [V.int .i64 ((V.nth r2 0).toInt),V.int .i64 ((V.nth (r2.drop 1) 0).toInt),V.int .i64 0,.list au ((V.nth (r2.drop 2) 0).toList),.list ax ((V.nth ((r2.drop 2).drop 1) 0).toList)]
theorem apF {cu cF cv cW:Int} {cw:LV} {r:Option LV} (h:adL CC cu cF cv cW cw=r):CC Av [V.int .i64 cu,V.int .i64 cF,.int .u64 cv,.int .u64 cW,.list aL cw]=r:=bu (L:=bw) ak h
noncomputable def TQ (C:ab) (aH aD aJ aE:Int) (bS:LV):Option LV:=
 (C xJ [.list aL bS]).bind fun r1=>
 (C JA [.list aL ((V.nth r1 0).toList)]).bind fun r2=>
 bif (V.nth r2 0).toBool then
  (C Av [V.int .i64 aH,V.int .i64 aD,.int .u64 aJ,.int .u64 aE,.list aL ((V.nth (r2.drop 1) 0).toList)]).bind fun r3=>
  some [V.int .i64 ((V.nth r3 0).toInt),V.int .i64 ((V.nth (r3.drop 1) 0).toInt),V.int .i64 ((V.nth (r3.drop 2) 0).toInt),V.int .i64 aH,V.int .i64 aD,.int .u64 aJ,.int .u64 aE,.list aL ((V.nth (r2.drop 1) 0).toList),.list au ((V.nth (r3.drop 3) 0).toList),.list ax ((V.nth ((r3.drop 3).drop 1) 0).toList)]
 else
  (C Av [V.int .i64 aH,V.int .i64 aD,.int .u64 aJ,.int .u64 aE,.list aL ((V.nth (r2.drop 1) 0).toList)]).bind fun r4=>
  some [V.int .i64 ((V.nth r4 0).toInt),V.int .i64 ((V.nth (r4.drop 1) 0).toInt),V.int .i64 ((V.nth (r4.drop 2) 0).toInt),V.int .i64 aH,V.int .i64 aD,.int .u64 aJ,.int .u64 aE,.list aL ((V.nth (r2.drop 1) 0).toList),.list au ((V.nth (r4.drop 3) 0).toList),.list ax ((V.nth ((r4.drop 3).drop 1) 0).toList)]
theorem adM {aH aD aJ aE:Int} {bS:LV} {r:Option LV} (h:TQ CC aH aD aJ aE bS=r):CC tI [V.int .i64 aH,V.int .i64 aD,.int .u64 aJ,.int .u64 aE,.list aL bS]=r:=bu (L:=bw) ak h
section
variable {n:Nf} {L S:Nat} (h:Nat6 n L S)
include h
theorem adN {T U:List Nat} {s:Nat} {i:Nat} (hi:i<T.length) (hs:T[i]=s) (lb:s<2^S) {x:Nat} (hx:x<L) (hpx:bD (sn n.E) T s (x+1) <+: U) (hU:(bD (sn n.E) T s (x+1)).length≤512) {c1 c2 c3 c4:Int} {l1 l2 l3 l4:List V}:
  yW CC (i:Int) (L:Int) n.S (n.st:Int) (n.fin:Int) (n.E.map Ed.enc) c1 c2 c3 c4 l1 l2 l3 l4 ((x:Int),U1 (bD (sn n.E) T s x),uM (bD (sn n.E) T s x),(tab x fun j=>nV (U.idxOf (sn n.E s j))))=
   some (.inl (((x+1:Nat):Int),U1 (bD (sn n.E) T s (x+1)),uM (bD (sn n.E) T s (x+1)),(tab (x+1) fun j=>nV (U.idxOf (sn n.E s j))))):=by
 have h6:=h.l6
 have A5:=h.pow
 have mC:=EA (next:=sn n.E) T s x
 have kD:i<(bD (sn n.E) T s x).length:=gd hi mC.length_le
 have A7:(bD (sn n.E) T s x)[i]=s:=by rw[←mC.getElem hi,hs]
 have hn:=h.next s x
 have fk:=hU
 have k1:dz .u64 ((sn n.E s x:Nat):Int)=true:=AQ (by omega)
 have st:=abd n h.ok h.good (set:=s) (by omega) (x:Int)
 simp only[yW,Bu,un]
 refine bT (cB hx) ?_
 refine (mM (Lb kD)).trans ?_
 rw[A7]
 have st':CC vu [.int .i64 (L:Int),.int .i64 n.S,.int .u64 (n.st:Int),.int .u64 (n.fin:Int),.list aL (n.E.map Ed.enc),.int .u64 (s:Int),.int .i64 (x:Int)]=some [uV (sn n.E s x)]:=(congrArg (fun z=>CC vu [.int .i64 z,.int .i64 n.S,.int .u64 (n.st:Int),.int .u64 (n.fin:Int),.list aL (n.E.map Ed.enc),.int .u64 (s:Int),.int .i64 (x:Int)]) h.hL.symm).trans st
 refine bs st' ?_
 refine bT (by simp only[uV,V.bZ,V.toInt_int];rw[k1];rfl) ?_
 simp only[uV,V.bZ,V.toInt_int]
 rw[show (V.int .u64 ((sn n.E s x:Nat):Int))=uV (sn n.E s x) from rfl]
 have e1:=yc yo (sn n.E s x) (bD (sn n.E) T s x) 0
 unfold Gd
 rw[show (V.int .u64 ((sn n.E s x:Nat):Int))=uV (sn n.E s x) from rfl,show gy (uV (sn n.E s x)) (uM (bD (sn n.E) T s x))=_ from e1]
 have ei:U.idxOf (sn n.E s x)=(dw (bD (sn n.E) T s x) (sn n.E s x)).idxOf (sn n.E s x):=yb hpx xY
 rw[So] at ei
 rw[bD,qS] at fk
 by_cases hm:sn n.E s x∈bD (sn n.E) T s x
 ·have e2:=AO yo (sn n.E s x) (.int .i64 0) (bD (sn n.E) T s x) 0 hm
  rw[dE] at e2
  rw[af hm] at ei
  refine bF (by simpa using hm) ?_
  rw[show jo (uV (sn n.E s x)) (uM (bD (sn n.E) T s x)) (.int .i64 0)=_ from e2,V.toInt_int,←ei]
  simp only[dI,un]
  refine bT (cap (by rw[cL];simp;omega) (by omega)) ?_
  rw[ca (by omega),iN,bD]
  unfold dw
  rw[af hm]
  rfl
 ·rw[ag hm] at ei fk
  refine bT (by simpa using hm) ?_
  refine bF (by rw[gG];simp;omega) ?_
  refine bT (by rw[k1];rfl) ?_
  refine bT (cap (by rw[gG];simp;omega) (by omega)) ?_
  simp only[dI,un]
  refine bT (cap (by rw[cL];simp;omega) (by omega)) ?_
  have e2:=AP yo (sn n.E s x) (bD (sn n.E) T s x) 0 hm
  rw[dE] at e2
  rw[gG,show fL (uV (sn n.E s x)) _ (uM (bD (sn n.E) T s x))=_ from e2,←ei,ca (by omega),iN,bD]
  unfold dw
  rw[ag hm]
  simp[U1,uM,nV,uV]
theorem apG {T U:List Nat} {s:Nat} {i:Nat} (hi:i<T.length) (hs:T[i]=s) (lb:s<2^S) (hp:bD (sn n.E) T s L <+: U) (hU:(bD (sn n.E) T s L).length≤512) {c1 c2 c3 c4:Int} {l1 l2 l3 l4:List V}:
  Loop (yW CC (i:Int) (L:Int) n.S (n.st:Int) (n.fin:Int) (n.E.map Ed.enc) c1 c2 c3 c4 l1 l2 l3 l4) (0,U1 T,uM T,([]:List V))=
   some (.inr ((L:Int),false,U1 (bD (sn n.E) T s L),uM (bD (sn n.E) T s L),(tab L fun x=>nV (U.idxOf (sn n.E s x))))):=by
 refine (eW L (fun x=>((x:Int),U1 (bD (sn n.E) T s x),uM (bD (sn n.E) T s x),(tab x fun j=>nV (U.idxOf (sn n.E s j))))) _ (fun x hx=> ?_) ?_)
 ·have:=(tZ (next:=sn n.E) T s (show x+1≤L by omega)).length_le
  exact adN h hi hs lb hx ((tZ T s (show x+1≤L by omega)).trans hp) (by omega)
 ·simp only[yW,Bu,un]
  refine bF (bm (aw _)) ?_
  rw[bm (aw _)]
theorem apH {T:List Nat} {s:Nat} {i:Nat} (hi:i<T.length) (hs:T[i]=s) (lb:s<2^S) (hT:T.length≤512) (hU:512<(bD (sn n.E) T s L).length) {c1 c2 c3 c4:Int} {l1 l2 l3 l4:List V}:
  Loop (yW CC (i:Int) (L:Int) n.S (n.st:Int) (n.fin:Int) (n.E.map Ed.enc) c1 c2 c3 c4 l1 l2 l3 l4) (0,U1 T,uM T,([]:List V))=
   some (.inl (3,0,0,[],[],[])):=by
 obtain ⟨y,hy,Ol,Bw,hy3⟩:=al5 hT hU
 have h6:=h.l6
 have A5:=h.pow
 refine (aio (fun x=>((x:Int),U1 (bD (sn n.E) T s x),uM (bD (sn n.E) T s x),(tab x fun j=>nV ((bD (sn n.E) T s y).idxOf (sn n.E s j))))) y (fun x hx=> ?_) ?_)
 ·exact adN h hi hs lb (by omega) (tZ T s (by omega)) (hy3 (x+1) (by omega))
 ·have mC:=EA (next:=sn n.E) T s y
  have kD:i<(bD (sn n.E) T s y).length:=gd hi mC.length_le
  have A7:(bD (sn n.E) T s y)[i]=s:=by rw[←mC.getElem hi,hs]
  have hn:=h.next s y
  have k1:dz .u64 ((sn n.E s y:Nat):Int)=true:=AQ (by omega)
  have st:=abd n h.ok h.good (set:=s) (by omega) (y:Int)
  simp only[yW,Bu,un]
  refine bT (cB hy) ?_
  refine (mM (Lb kD)).trans ?_
  rw[A7]
  have st':CC vu [.int .i64 (L:Int),.int .i64 n.S,.int .u64 (n.st:Int),.int .u64 (n.fin:Int),.list aL (n.E.map Ed.enc),.int .u64 (s:Int),.int .i64 (y:Int)]=some [uV (sn n.E s y)]:=(congrArg (fun z=>CC vu [.int .i64 z,.int .i64 n.S,.int .u64 (n.st:Int),.int .u64 (n.fin:Int),.list aL (n.E.map Ed.enc),.int .u64 (s:Int),.int .i64 (y:Int)]) h.hL.symm).trans st
  refine bs st' ?_
  refine bT (by simp only[uV,V.bZ,V.toInt_int];rw[k1];rfl) ?_
  simp only[uV,V.bZ,V.toInt_int]
  rw[show (V.int .u64 ((sn n.E s y:Nat):Int))=uV (sn n.E s y) from rfl]
  have e1:=yc yo (sn n.E s y) (bD (sn n.E) T s y) 0
  unfold Gd
  rw[show gy (uV (sn n.E s y)) (uM (bD (sn n.E) T s y))=_ from e1]
  refine bT (by simpa using Bw) ?_
  refine bT (by rw[gG];simp;omega) ?_
  rfl
theorem apI {s:Nat} (hs:s<2^S):(((IntKind.wrap .u64 ((BitVec.ofInt (IntKind.bits .u64) (s:Int)&&&BitVec.ofInt (IntKind.bits .u64) (n.fin:Int)).toNat)):Int) != 0)=sf n.fin s:=by
 have hp:=h.pow
 have hf:=h.fin
 rw[u64_and (by omega) (by omega)]
 unfold sf
 rw[od]
 simp
theorem TR {i:Nat} (gl:i<(ao L (sn n.E) n.st i).length) (hlen:(ao L (sn n.E) n.st i).length≤512) {U:List Nat} (hp:ao L (sn n.E) n.st (i+1) <+: U) {l1 l2 l3 l4:List V} (hl3:l3.length≤1000) (hl4:l4.length≤1000):
  Bv CC (L:Int) n.S (n.st:Int) (n.fin:Int) (n.E.map Ed.enc) 0 0 (L:Int) 0 l1 l2 ((i:Int),U1 (ao L (sn n.E) n.st i),uM (ao L (sn n.E) n.st i),l3,l4)=
   if 512<(ao L (sn n.E) n.st (i+1)).length then some (.inr (.inl (3,0,0,[],[],[])))
   else some (.inl (((i+1:Nat):Int),U1 (ao L (sn n.E) n.st (i+1)),uM (ao L (sn n.E) n.st (i+1)),l3++[V.bool (sf n.fin (ao L (sn n.E) n.st i)[i])],l4++[V.list bJ (tab L fun x=>nV (U.idxOf (sn n.E (ao L (sn n.E) n.st i)[i] x)))])):=by
 have h6:=h.l6
 have hq:=sub_lt h i _ (ep gl)
 have jx:ao L (sn n.E) n.st (i+1)=bD (sn n.E) (ao L (sn n.E) n.st i) (ao L (sn n.E) n.st i)[i] L:=Sh (bU gl)
 simp only[Bv,Gg,un]
 refine bT (b7 (by rw[gG];omega)) ?_
 by_cases qE:512<(ao L (sn n.E) n.st (i+1)).length
 ·rw[af qE]
  refine bs (apH h gl rfl hq hlen (by rw[←jx];exact qE)) ?_
  rfl
 ·rw[ag qE]
  refine bs (apG h gl rfl hq (U:=U) (by rw[←jx];exact hp) (by rw[←jx];omega)) ?_
  rw[←jx]
  simp only[dI,un]
  have mC:=abn (L:=L) (next:=sn n.E) (a0:=n.st) i
  have kD:i<(ao L (sn n.E) n.st (i+1)).length:=gd gl mC.length_le
  refine bT (cap (by simp;omega) (by omega)) ?_
  refine (mM (Lb kD)).trans ?_
  rw[←mC.getElem gl]
  simp only[uV,V.toInt_int]
  rw[apI h hq]
  refine bT (cap (by simp;omega) (by omega)) ?_
  rw[ca (by omega)]
theorem apJ (hn: ¬gX n L S): ∃X,CC DS (j6 n [])=some (Lc (fx n L S) 0 (.list cp X)):=by
 have h6:=h.l6
 have bP:=h.st
 have A5:=h.pow
 have hd:(ao L (sn n.E) n.st (2^S)).length≤2^S:=yp h _
 have hle: ∀i,(ao L (sn n.E) n.st i).length≤(eN n L S).length:=acq hd
 have amr:(eN n L S).length≤512:=by unfold gX at hn;omega
 refine ⟨U1 (eN n L S),adJ ?_⟩
 unfold TP
 have hv:=aa9 n h.ok
 rw[h.code] at hv
 refine bs hv (bF rfl ?_)
 refine bT (by rw[AQ (show n.st<2^64 by omega)];rfl) ?_
 rw[h.hL]
 have key:Loop (Bv CC (L:Int) n.S (n.st:Int) (n.fin:Int) (n.E.map Ed.enc) 0 0 (L:Int) 0 ([]:List V) ([]:List V)) (0,U1 [n.st],uM [n.st],([]:List V),([]:List V))=
   some (.inr (((eN n L S).length:Int),false,U1 (eN n L S),uM (eN n L S),(fx n L S).cG,(fx n L S).cd)):=by
  refine (eW (eN n L S).length (fun i=>((i:Int),U1 (ao L (sn n.E) n.st i),uM (ao L (sn n.E) n.st i),(tab i fun j=>V.bool ((fx n L S).fin j)),(tab i fun j=>eX L ((fx n L S).nx j)))) _ (fun i hi=> ?_) ?_)
  ·have gl:=AI hd hi
   have hiK:i<2^S:=gd hi hd
   have yg:(ao L (sn n.E) n.st i)[i]=(eN n L S)[i]:=(lY (show i≤2^S by omega)).getElem gl
   have ams:=hle (i+1)
   have amt:=hle i
   have:=TR h gl (by omega) (U:=eN n L S) (lY (by omega)) (l1:=[]) (l2:=[]) (l3:=(tab i fun j=>V.bool ((fx n L S).fin j))) (l4:=(tab i fun j=>eX L ((fx n L S).nx j))) (by rw[cL];omega) (by rw[cL];omega)
   rw[bK,yg] at this
   rw[this,iN,iN]
   have e1:(fx n L S).fin i=sf n.fin (eN n L S)[i]:=ED hi
   have e2:eX L ((fx n L S).nx i)= .list bJ (tab L fun x=>nV ((eN n L S).idxOf (sn n.E (eN n L S)[i] x))):=by
    unfold eX
    refine congrArg _ (dZ fun x hx=> ?_)
    rw[show (fx n L S).nx i x=_ from ya hi hx];rfl
   rw[e1,e2]
  ·simp only[Bv,Gg,un]
   rw[show ao L (sn n.E) n.st (eN n L S).length=eN n L S from EE hd,gG]
   refine bF (bm (aw _)) ?_
   rw[bm (aw _)]
   have e3:(fx n L S).n=(eN n L S).length:=mK
   unfold Da.cG Da.cd
   rw[e3];rfl
 refine bs key ?_
 rfl
theorem apK (hn:gX n L S): ∃X,CC DS (j6 n [])=some (Lc zD 3 (.list cp X)):=by
 have h6:=h.l6
 have bP:=h.st
 have A5:=h.pow
 obtain ⟨m,hm1,qs,hm3⟩:=acs (acr (show 512<(ao L (sn n.E) n.st (2^S)).length from hn)) (by omega)
 refine ⟨[],adJ ?_⟩
 unfold TP
 have hv:=aa9 n h.ok
 rw[h.code] at hv
 refine bs hv (bF rfl ?_)
 refine bT (by rw[AQ (show n.st<2^64 by omega)];rfl) ?_
 rw[h.hL]
 have key: ∃r,Loop (Bv CC (L:Int) n.S (n.st:Int) (n.fin:Int) (n.E.map Ed.enc) 0 0 (L:Int) 0 ([]:List V) ([]:List V)) (0,U1 [n.st],uM [n.st],([]:List V),([]:List V))=some r∧r=(.inl (3,0,0,[],[],[])):=by
  refine uc (fun i st=> ∃l3 l4:List V,l3.length=i∧l4.length=i∧st=((i:Int),U1 (ao L (sn n.E) n.st i),uM (ao L (sn n.E) n.st i),l3,l4)) _ m 0 _ (fun i _ hi st bP=> ?_) (fun st bP=> ?_) ⟨[],[],rfl,rfl,rfl⟩
  ·obtain ⟨l3,l4,e3,e4,rfl⟩:=bP
   obtain ⟨h1,h2⟩:=qs i (by omega)
   have h3:=(qs (i+1) (by omega)).2
   have:=TR h h1 h2 (oe _) (l1:=[]) (l2:=[]) (l3:=l3) (l4:=l4) (by omega) (by omega)
   rw[bK] at this
   exact ⟨_,this,_,_,by simp[e3],by simp[e4],rfl⟩
  ·obtain ⟨l3,l4,e3,e4,rfl⟩:=bP
   rw[dE] at*
   obtain ⟨h1,h2⟩:=qs m (by omega)
   have:=TR h h1 h2 (oe _) (l1:=[]) (l2:=[]) (l3:=l3) (l4:=l4) (by omega) (by omega)
   rw[aZ] at this
   exact ⟨_,this,rfl⟩
 obtain ⟨r,h1,rfl⟩:=key
 refine bs h1 ?_
 rfl
end
instance (n:Nf) (L S:Nat):Decidable (gX n L S):=by unfold gX;infer_instance
noncomputable def dC (n:Nf) (L S:Nat):Da:=if gX n L S then zD else minD (fx n L S)
def fy (n:Nf) (L S:Nat):Int:=if gX n L S then 3 else 0
section
variable {n:Nf} {L S:Nat} (h:Nat6 n L S)
include h
theorem TS:CC Av (j6 n [])=some (dB (dC n L S) (fy n L S)):=by
 refine apF ?_
 unfold adL dC fy
 by_cases ho:gX n L S
 ·obtain ⟨X,hX⟩:=amw h ho
  rw[af ho,af ho]
  refine bs hX (bT rfl ?_)
  rfl
 ·obtain ⟨X,hX⟩:=amv h ho
  rw[ag ho,ag ho]
  refine bs hX (bF rfl ?_)
  refine bs (aco (yq h ho)) ?_
  rfl
end
def cR (L S st fin:Nat) (l:List Ed):Nf:=⟨L,S,st,fin,iQ l⟩
structure rh (L S st fin:Nat) (l:List Ed):Prop where
 l1:1≤L
 l6:L≤6
 lX:S≤64
 st:st<2^S
 fin:fin<2^S
 E: ∀e∈l,e.In L S
 len:l.length≤1000000
theorem n7 {L S st fin:Nat} {l:List Ed} (h:rh L S st fin l):Nat6 (cR L S st fin l) L S where
 hL:=rfl
 hS:=rfl
 ok:=by
  have wK:=h.l1
  have hl6:=h.l6
  have hs:=h.lX
  have bP:=h.st
  have pL:=h.fin
  have hp:2^S≤2^64:=o5 (by omega) hs
  have eu: ∀e∈iQ l,e.In L S:=fun e he=>h.E e (pQ.1 he)
  have hlen:=anp (L:=L) (S:=S) (by omega) (by omega) (yv l) eu
  refine ⟨by simp only[cR];omega,by simp only[cR];omega,by simp only[cR];omega,by simp only[cR];omega,by simp only[cR];omega,by simp only[cR];omega,by simp only[cR];unfold maxLen;omega,fun e he=> ?_⟩
  have:=eu e he
  unfold Ed.In at this
  unfold Ed.Ok
  omega
 code:=by
  have wK:=h.l1
  have hl6:=h.l6
  have hs:=h.lX
  unfold Nf.code
  rw[ag (by simp only[cR];omega),ag (by simp only[cR,Int.toNat_natCast];have:=h.st;have:=h.fin;omega),af]
  intro i hi
  have eu: ∀e∈iQ l,e.In L S:=fun e he=>h.E e (pQ.1 he)
  unfold Nf.lW
  simp only[cR] at*
  refine ⟨by rw[gV hi];exact eu _ (ep hi),fun h0=> ?_⟩
  rw[gV hi,gV (show i-1<_ by omega)]
  exact zg.1 (yv l) (i-1) i (by omega) hi (by omega)
theorem adO {A B:List Ed} (h: ∀x,x∈A↔x∈B):iQ A=iQ B:=
 FO (yv A) (yv B) fun x=>by rw[pQ,pQ,h x]
def TT (m:Da) (e:Int) (n:Nf):List V:=[.int .i64 (m.L:Int),.int .i64 (m.st:Int),.int .i64 e,.int .i64 n.L,.int .i64 n.S,.int .u64 (n.st:Int),.int .u64 (n.fin:Int),.list aL (n.E.map Ed.enc),.list au m.cG,.list ax m.cd]
section
variable {L S st fin:Nat} {l:List Ed} (h:rh L S st fin l)
include h
theorem L4:CC tI [.int .i64 (L:Int),.int .i64 (S:Int),.int .u64 (st:Int),.int .u64 (fin:Int),.list aL (l.map Ed.enc)]=some (TT (dC (cR L S st fin l) L S) (fy (cR L S st fin l) L S) (cR L S st fin l)):=by
 have hl:=h.len
 obtain ⟨R,e1,p1,s1⟩:=SL.apk l (by omega)
 obtain ⟨b,e2⟩:=ac9 (l:=R) (by rw[p1.length_eq];exact hl)
 obtain ⟨c1,c2⟩:=anA s1
 have hc:jK R=iQ l:=FO c1 (yv l) fun x=>by rw[c2,pQ,p1.mem_iff]
 rw[hc] at e2
 have e3:=TS (n7 h)
 refine adM ?_
 unfold TQ
 refine bs e1 ?_
 refine bs e2 ?_
 cases b
 ·refine bF rfl ?_
  refine bs e3 ?_
  rfl
 ·refine bT rfl ?_
  refine bs e3 ?_
  rfl
theorem Gh:CC vr [.int .i64 (L:Int),.int .i64 (S:Int),.int .u64 (st:Int),.int .u64 (fin:Int),.list aL (l.map Ed.enc)]=some (dB (dC (cR L S st fin l) L S) (fy (cR L S st fin l) L S)):=by
 have hl:=h.len
 have hs:=h.lX
 have h6:=n7 h
 refine apE ?_
 unfold adK dC fy
 refine bF (eB (by omega)) ?_
 refine bs (ac2 (by omega)) ?_
 by_cases ho:gX (cR L S st fin l) L S
 ·obtain ⟨X,hX⟩:=apK h6 ho
  rw[af ho,af ho]
  refine bs hX (bT rfl ?_)
  rfl
 ·obtain ⟨X,hX⟩:=apJ h6 ho
  rw[ag ho,ag ho]
  refine bs hX (bF rfl ?_)
  refine bs (A8 (yq h6 ho)) ?_
  rfl
end
noncomputable def Gi (C:ab) (t40 dU dQ:Int) (jM iR:LV) (ur uu:Int) (sD ri:LV) (t41:Int) {β:Type} (kn:Int→Option β) (kr:((Bool) ⊕ (Int × Bool))→Option β):Option β:=
 bif decide ((t41:Int)<t40) then
  (idx jM t41).bind fun x1=>
  (idx sD t41).bind fun x2=>
  bif !(x1.toBool==x2.toBool) then
  kr (.inl false)
  else
  kn (IntKind.wrap .i64 (t41+1))
 else
  kr (.inr (t41,decide ((t41:Int)<t40)))
noncomputable def TU (C:ab) (t40 dU dQ:Int) (jM iR:LV) (ur uu:Int) (sD ri:LV):=fun t41=>Gi C t40 dU dQ jM iR ur uu sD ri t41 (fun y=>some (Sum.inl y)) (fun r=>some (Sum.inr r))
noncomputable def Gj (C:ab) (q t58 t59 t80 dU dQ:Int) (jM iR:LV) (ur uu:Int) (sD ri:LV) (t81:Int) {β:Type} (kn:Int→Option β) (kr:((Bool) ⊕ (Int × Bool))→Option β):Option β:=
 bif decide ((t81:Int)<t80) then
  (idx iR q).bind fun x9=>
  (idx x9.toList t81).bind fun j8=>
  (idx ri q).bind fun iM=>
  (idx iM.toList t81).bind fun oG=>
  bif (j8.toInt:Int) != oG.toInt then
  kr (.inl false)
  else
  kn (IntKind.wrap .i64 (t81+1))
 else
  kr (.inr (t81,decide ((t81:Int)<t80)))
noncomputable def TV (C:ab) (q t58 t59 t80 dU dQ:Int) (jM iR:LV) (ur uu:Int) (sD ri:LV):=fun t81=>Gj C q t58 t59 t80 dU dQ jM iR ur uu sD ri t81 (fun y=>some (Sum.inl y)) (fun r=>some (Sum.inr r))
noncomputable def Gk (C:ab) (t58 dU dQ:Int) (jM iR:LV) (ur uu:Int) (sD ri:LV) (t59:Int) {β:Type} (kn:Int→Option β) (kr:((Bool) ⊕ (Int × Bool))→Option β):Option β:=
 bif decide ((t59:Int)<t58) then
  (idx iR t59).bind fun x6=>
  (idx ri t59).bind fun x7=>
  bif ((x6.toList.length:Int):Int) != (x7.toList.length:Int) then
  kr (.inl false)
  else
  (idx iR t59).bind fun x8=>
  (Loop (TV C t59 t58 t59 (x8.toList.length:Int) dU dQ jM iR ur uu sD ri) 0).bind (dI (fun (pH:Bool)=>
   kr (.inl pH)) (un fun (sm:Int) (Li:Bool)=>
   kn (IntKind.wrap .i64 (t59+1))))
 else
  kr (.inr (t59,decide ((t59:Int)<t58)))
noncomputable def TW (C:ab) (t58 dU dQ:Int) (jM iR:LV) (ur uu:Int) (sD ri:LV):=fun t59=>Gk C t58 dU dQ jM iR ur uu sD ri t59 (fun y=>some (Sum.inl y)) (fun r=>some (Sum.inr r))
noncomputable def TX (C:ab):bR:=bd 65 Qf [false,true,false,false,false,false,false,false,false,false] [[0],[1,0,0,3,4,5,6,7,8,9,10]] (@Gi C) (bd 241 Qg [false,false,false,false,true,false,false,false,false,false,false,false,false] [[0],[1,2,3,4,0,0,6,7,8,9,10,11,12,13]] (@Gj C) (bd 161 Qh [false,true,false,false,false,false,false,false,false,false] [[0],[1,0,0,3,4,5,6,7,8,9,10]] (@Gk C) bw))
theorem apL (C:ab):aQ C (TX C) 45 (Lp [1,1,0,1,0,0] 45):=bc Qf [false,true,false,false,false,false,false,false,false,false] [[0],[1,0,0,3,4,5,6,7,8,9,10]] (@Gi C) (aA ak)
theorem apM (C:ab):aQ C (TX C) 45 (Lp [1,1,1,0,1,0,0,1,1,0,0,1,1,1,0,0] 45):=bc Qg [false,false,false,false,true,false,false,false,false,false,false,false,false] [[0],[1,2,3,4,0,0,6,7,8,9,10,11,12,13]] (@Gj C) (aA ak)
theorem apO (C:ab):aQ C (TX C) 45 (Lp [1,1,1,0,1,0,0] 45):=bc Qh [false,true,false,false,false,false,false,false,false,false] [[0],[1,0,0,3,4,5,6,7,8,9,10]] (@Gk C) (aA (aO (apM C) ak))
noncomputable def adP (C:ab) (j7 kL:Int) (jF pZ:LV) (pF pG:Int) (qR Bx:LV):Option LV:=
 bif (j7:Int) != pF then
  some [.bool false]
 else
  bif (kL:Int) != pG then
  some [.bool false]
  else
  bif ((jF.length:Int):Int) != (qR.length:Int) then
   some [.bool false]
  else
   bif ((pZ.length:Int):Int) != (Bx.length:Int) then
   some [.bool false]
   else
   (Loop (TU C (jF.length:Int) j7 kL jF pZ pF pG qR Bx) 0).bind (dI (fun (kJ:Bool)=>
    some [.bool kJ]) (un fun (jh:Int) (lj:Bool)=>
    (Loop (TW C (pZ.length:Int) j7 kL jF pZ pF pG qR Bx) 0).bind (dI (fun (EP:Bool)=>
     some [.bool EP]) (un fun (apP:Int) (SZ:Bool)=>
     some [.bool true]))))
theorem apQ {j7 kL:Int} {jF pZ:LV} {pF pG:Int} {qR Bx:LV} {r:Option LV} (h:adP CC j7 kL jF pZ pF pG qR Bx=r):CC tL [V.int .i64 j7,V.int .i64 kL,.list au jF,.list ax pZ,V.int .i64 pF,V.int .i64 pG,.list au qR,.list ax Bx]=r:=bu (aO (apL CC) (aO (apO CC) ak)) h
theorem adQ (m:Da) (hn:m.n≤1000000) (hl:m.L≤1000):CC tL (fY m (cY m))=some [.bool true]:=by
 refine apQ ?_
 unfold adP
 refine bF (by simp) (bF (by simp) (bF (by simp) (bF (by simp) ?_)))
 rw[Da.mb]
 refine bs (eW m.n (fun i=>(i:Int)) (.inr ((m.n:Int),false)) (fun i hi=> ?_) ?_) ?_
 ·simp only[TU,Gi]
  refine bT (cB hi) ?_
  refine bs (Da.vK hi) ?_
  refine bs (Da.vK hi) ?_
  refine bF (by simp) ?_
  rw[ca (by omega)]
 ·simp only[TU,Gi]
  refine bF (bm (aw _)) ?_
  rw[bm (aw _)]
 ·simp only[dI,un]
  rw[Da.Sn]
  refine bs (eW m.n (fun i=>(i:Int)) (.inr ((m.n:Int),false)) (fun i hi=> ?_) ?_) ?_
  ·simp only[TW,Gk]
   refine bT (cB hi) ?_
   refine bs (Da.mO hi) ?_
   refine bs (Da.mO hi) ?_
   refine bF (by simp) ?_
   refine bs (Da.mO hi) ?_
   rw[nL,cL]
   refine bs (eW m.L (fun x=>(x:Int)) (.inr ((m.L:Int),false)) (fun x hx=> ?_) ?_) ?_
   ·simp only[TV,Gj]
    refine bT (cB hx) ?_
    refine bs (Da.mO hi) ?_
    rw[nL]
    refine bs (mP hx) ?_
    refine bs (Da.mO hi) ?_
    rw[nL]
    refine bs (mP hx) ?_
    refine bF (by simp) ?_
    rw[ca (by omega)]
   ·simp only[TV,Gj]
    refine bF (bm (aw _)) ?_
    rw[bm (aw _)]
   ·simp only[dI,un]
    rw[ca (by omega)]
  ·simp only[TW,Gk]
   refine bF (bm (aw _)) ?_
   rw[bm (aw _)]
  ·rfl
theorem adR:CC tL (fY zD (cY zD))=some [.bool true]:=adQ zD (by simp[zD,Da.n]) (by simp[zD])
theorem Da.Ok.same {m:Da} (h:m.Ok):CC tL (fY m (cY m))=some [.bool true]:=adQ m (by have:=h.fc;omega) (by have:=h.l6;omega)
noncomputable def yX (C:ab) (p:Int) (t19:LV) (t20 t21:Int) (t26:LV) (t27 aM aT:Int) (aY aX:LV) (changed:Bool) (t28:Int) (results:LV) {β:Type} (kn:(Bool × Int × LV)→Option β) (kr:(Bool × Int × Bool × LV)→Option β):Option β:=
 bif decide ((t28:Int)<t27) then
  (idx t26 t28).bind fun x2=>
  bif (decide (0≤x2.toInt))&&(decide (x2.toInt<(results.length:Int))) then
  (results[(x2.toInt:Int).toNat]?).bind fun x3=>
  bif x3.toBool then
   ar results p fun x4=>
   bif !x4.toBool then
   ar results p fun x5=>
   kn (true,IntKind.wrap .i64 (t28+1),aS results p (.bool true))
   else
   kn (changed,IntKind.wrap .i64 (t28+1),results)
  else
   kn (changed,IntKind.wrap .i64 (t28+1),results)
  else none
 else
  kr (changed,t28,decide ((t28:Int)<t27),results)
noncomputable def By (C:ab) (p:Int) (t19:LV) (t20 t21:Int) (t26:LV) (t27 aM aT:Int) (aY aX:LV):=un fun changed=>un fun t28 results=>yX C p t19 t20 t21 t26 t27 aM aT aY aX changed t28 results (fun y=>some (Sum.inl y)) (fun r=>some (Sum.inr r))
noncomputable def Gl (C:ab) (t19:LV) (t20 aM aT:Int) (aY aX:LV) (changed:Bool) (t21:Int) (results:LV) {β:Type} (kn:(Bool × Int × LV)→Option β) (kr:(Bool × Int × Bool × LV)→Option β):Option β:=
 bif decide ((t21:Int)<t20) then
  (idx t19 t21).bind fun x1=>
  (Loop (By C t21 t19 t20 t21 x1.toList (x1.toList.length:Int) aM aT aY aX) (changed,0,results)).bind (un fun (apR:Bool)=>un fun (jE:Int)=>un fun (mJ:Bool) (apS:LV)=>
   kn (apR,IntKind.wrap .i64 (t21+1),apS))
 else
  kr (changed,t21,decide ((t21:Int)<t20),results)
noncomputable def L5 (C:ab) (t19:LV) (t20 aM aT:Int) (aY aX:LV):=un fun changed=>un fun t21 results=>Gl C t19 t20 aM aT aY aX changed t21 results (fun y=>some (Sum.inl y)) (fun r=>some (Sum.inr r))
noncomputable def Gm (C:ab) (aM aT:Int) (aY aX:LV) (changed:Bool) (results:LV) {β:Type} (kn:(Bool × LV)→Option β) (kr:(Bool × LV)→Option β):Option β:=
 bif changed then
  (Loop (L5 C aX (aX.length:Int) aM aT aY aX) (false,0,results)).bind (un fun (apU:Bool)=>un fun (uj:Int)=>un fun (vN:Bool) (apV:LV)=>
   kn (apU,apV))
 else
  kr (changed,results)
noncomputable def L7 (C:ab) (aM aT:Int) (aY aX:LV):=un fun changed results=>Gm C aM aT aY aX changed results (fun y=>some (Sum.inl y)) (fun r=>some (Sum.inr r))
noncomputable def TY (C:ab):bR:=bd 161 P6 [true,false,false,false,false,false,false,true,false,false,false,false,true] [[0,2,3,4,5,6,7,0,0,9,10,11,12,0]] (@yX C) (bd 113 P7 [true,false,false,true,false,false,false,false,true] [[0,2,3,0,0,5,6,7,8,0]] (@Gl C) (bd 65 P8 [true,false,false,false,false,true] [[0,2,3,4,5,0]] (@Gm C) bw))
theorem apW (C:ab):aQ C (TY C) 41 (Lp [1,1,1,0,1,0,0,1,0,1,1,0,0,1,1,0,0,1,1,0,0] 41):=bc P6 [true,false,false,false,false,false,false,true,false,false,false,false,true] [[0,2,3,4,5,6,7,0,0,9,10,11,12,0]] (@yX C) (aA ak)
theorem apX (C:ab):aQ C (TY C) 41 (Lp [1,1,1,0,1,0,0,1,0,1,1,0,0] 41):=bc P7 [true,false,false,true,false,false,false,false,true] [[0,2,3,0,0,5,6,7,8,0]] (@Gl C) (aA (aO (apW C) ak))
theorem apY (C:ab):aQ C (TY C) 41 (Lp [1,1,1,0,1,0,0] 41):=bc P8 [true,false,false,false,false,true] [[0,2,3,4,5,0]] (@Gm C) (aA (aO (apX C) ak))
noncomputable def adS (C:ab) (aB aC:Int) (av aF:LV):Option LV:=
 bif (decide (0≤(av.length:Int)))&&((decide ((av.length:Int)≤(av.length:Int)))&&(Nat.ble ((((av.length:Int):Int).toNat)*1) bM)) then
  (Loop (L7 C aB aC av aF) (true,av.take (List.replicate (((av.length:Int):Int).toNat) (V.bool false)).length++(List.replicate (((av.length:Int):Int).toNat) (V.bool false)).drop av.length)).bind (un fun (sm:Bool) (apZ:LV)=>
   some [.list au apZ])
 else none
theorem ap0 {aB aC:Int} {av aF:LV} {r:Option LV} (h:adS CC aB aC av aF=r):CC DO [V.int .i64 aB,V.int .i64 aC,.list au av,.list ax aF]=r:=bu (aO (apY CC) ak) h
noncomputable def Gn (C:ab) (q t13 t14 t19 t20:Int) (t27:LV) (t28 aM aT:Int) (aY aX:LV) (t29:Int) (outs:LV) {β:Type} (kn:(Int × LV)→Option β) (kr:(Int × Bool × LV)→Option β):Option β:=
 bif decide ((t29:Int)<t28) then
  (idx t27 t29).bind fun x2=>
  ar outs q fun x3=>
  bif x3.toBool then
  ar outs q fun x4=>
  kn (IntKind.wrap .i64 (t29+1),aS outs q (.bool true))
  else
  bif (decide (0≤x2.toInt))&&(decide (x2.toInt<(outs.length:Int))) then
   (outs[(x2.toInt:Int).toNat]?).bind fun x5=>
   ar outs q fun x6=>
   kn (IntKind.wrap .i64 (t29+1),aS outs q (.bool x5.toBool))
  else none
 else
  kr (t29,decide ((t29:Int)<t28),outs)
noncomputable def L8 (C:ab) (q t13 t14 t19 t20:Int) (t27:LV) (t28 aM aT:Int) (aY aX:LV):=un fun t29 outs=>Gn C q t13 t14 t19 t20 t27 t28 aM aT aY aX t29 outs (fun y=>some (Sum.inl y)) (fun r=>some (Sum.inr r))
noncomputable def Gp (C:ab) (t13 t14 t19 aM aT:Int) (aY aX:LV) (t20:Int) (outs:LV) {β:Type} (kn:(Int × LV)→Option β) (kr:(Int × Bool × LV)→Option β):Option β:=
 bif decide ((t20:Int)<t19) then
  (idx aX t20).bind fun x1=>
  (Loop (L8 C t20 t13 t14 t19 t20 x1.toList (x1.toList.length:Int) aM aT aY aX) (0,outs)).bind (un fun (jE:Int)=>un fun (mJ:Bool) (Ta:LV)=>
   kn (IntKind.wrap .i64 (t20+1),Ta))
 else
  kr (t20,decide ((t20:Int)<t19),outs)
noncomputable def Gq (C:ab) (t13 t14 t19 aM aT:Int) (aY aX:LV):=un fun t20 outs=>Gp C t13 t14 t19 aM aT aY aX t20 outs (fun y=>some (Sum.inl y)) (fun r=>some (Sum.inr r))
noncomputable def Gr (C:ab) (t13 aM aT:Int) (aY aX:LV) (t14:Int) (outs:LV) {β:Type} (kn:(Int × LV)→Option β) (kr:(Int × Bool × LV)→Option β):Option β:=
 bif decide ((t14:Int)<t13) then
  (Loop (Gq C t13 t14 (outs.length:Int) aM aT aY aX) (0,outs)).bind (un fun (AS:Int)=>un fun (uj:Bool) (ap1:LV)=>
   kn (IntKind.wrap .i64 (t14+1),ap1))
 else
  kr (t14,decide ((t14:Int)<t13),outs)
noncomputable def L9 (C:ab) (t13 aM aT:Int) (aY aX:LV):=un fun t14 outs=>Gr C t13 aM aT aY aX t14 outs (fun y=>some (Sum.inl y)) (fun r=>some (Sum.inr r))
noncomputable def TZ (C:ab):bR:=bd 161 P2 [false,false,false,false,false,false,false,true,false,false,false,false,true] [[1,2,3,4,5,6,7,0,0,9,10,11,12,0]] (@Gn C) (bd 113 P4 [false,false,false,true,false,false,false,false,true] [[1,2,3,0,0,5,6,7,8,0]] (@Gp C) (bd 49 P5 [false,true,false,false,false,false,true] [[1,0,0,3,4,5,6,0]] (@Gr C) bw))
theorem ap2 (C:ab):aQ C (TZ C) 39 (Lp [1,1,0,1,0,0,1,1,0,0,1,1,1,0,0,1,1,0,0,1,1,0,0] 39):=bc P2 [false,false,false,false,false,false,false,true,false,false,false,false,true] [[1,2,3,4,5,6,7,0,0,9,10,11,12,0]] (@Gn C) (aA ak)
theorem ap3 (C:ab):aQ C (TZ C) 39 (Lp [1,1,0,1,0,0,1,1,0,0,1,1,1,0,0] 39):=bc P4 [false,false,false,true,false,false,false,false,true] [[1,2,3,0,0,5,6,7,8,0]] (@Gp C) (aA (aO (ap2 C) ak))
theorem ap4 (C:ab):aQ C (TZ C) 39 (Lp [1,1,0,1,0,0] 39):=bc P5 [false,true,false,false,false,false,true] [[1,0,0,3,4,5,6,0]] (@Gr C) (aA (aO (ap3 C) ak))
noncomputable def adT (C:ab) (aB aC:Int) (av aF:LV):Option LV:=
 bif Nat.ble ((([]:LV).length+av.length)*1) bM then
  (Loop (L9 C ((([]:LV)++av).length:Int) aB aC av aF) (0,([]:LV)++av)).bind (un fun (pH:Int)=>un fun (sm:Bool) (ap5:LV)=>
   some [.list au ap5])
 else none
theorem ap6 {aB aC:Int} {av aF:LV} {r:Option LV} (h:adT CC aB aC av aF=r):CC DM [V.int .i64 aB,V.int .i64 aC,.list au av,.list ax aF]=r:=bu (aO (ap4 CC) ak) h
def cT (r:Nat→Bool):Nat→Nat
 | 0=>0
 | n+1=>cT r n+(if r n=true then 1 else 0)
theorem T2 (r:Nat→Bool): ∀n,cT r n≤n
 | 0=>aw _
 | n+1=>by have:=T2 r n;rw[cT];split<;>omega
theorem T4 {r s:Nat→Bool}: ∀{n},(∀q,q<n→r q=true→s q=true)→cT r n≤cT s n
 | 0,_=>aw _
 | n+1,h=>by
  have:=T4 (n:=n) fun q hq=>h q (by omega)
  have h2:=h n (by omega)
  rw[cT,cT]
  split
  ·rename_i h3;rw[af (h2 h3)];omega
  ·omega
theorem T6 {r s:Nat→Bool}: ∀{n},(∀q,q<n→r q=true→s q=true)→(∃q,q<n∧r q=false∧s q=true)→cT r n<cT s n
 | 0,_,h=>by obtain ⟨q,h1,_⟩:=h;omega
 | n+1,h,he=>by
  have hm:=T4 (n:=n) fun q hq=>h q (by omega)
  obtain ⟨q,h1,h2,h3⟩:=he
  rw[cT,cT]
  rcases eD q n with c|c
  ·have:=T6 (n:=n) (fun q hq=>h q (by omega)) ⟨q,c,h2,h3⟩
   have h4:=h n (by omega)
   split
   ·rename_i h5;rw[af (h4 h5)];omega
   ·omega
  ·obtain rfl:q=n:=by omega
   rw[h2,h3]
   simp only[Bool.false_eq_true,lz,jO]
   omega
namespace Da
def gr (a:Da) (k q:Nat):Prop:= ∃w,WL a.L w∧w.length≤k∧a.acc q w=true
def Live (a:Da) (q:Nat):Prop:= ∃w,WL a.L w∧a.acc q w=true
open Classical in
noncomputable def fp (a:Da) (q:Nat):Bool:=decide (a.Live q)
open Classical in
theorem adU {a:Da} {q:Nat}:a.fp q=true↔a.Live q:=by unfold fp;exact decide_eq_true_iff
theorem gr.live {a:Da} {k q:Nat} (h:a.gr k q):a.Live q:=by obtain ⟨w,h1,_,h3⟩:=h;exact ⟨w,h1,h3⟩
theorem gr.mono {a:Da} {k m q:Nat} (h:a.gr k q) (hk:k≤m):a.gr m q:=by obtain ⟨w,h1,h2,h3⟩:=h;exact ⟨w,h1,by omega,h3⟩
theorem adV {a:Da} {k q:Nat}:a.gr (k+1) q↔a.fin q=true∨∃x,x<a.L∧a.gr k (a.nx q x):=by
 constructor
 ·rintro ⟨w,h1,h2,h3⟩
  match w,h1,h2,h3 with
  | [],_,_,h3=>exact .inl h3
  | x::w,h1,h2,h3=>exact .inr ⟨x,h1.head,w,h1.tail,by simpa using h2,h3⟩
 ·rintro (h|⟨x,hx,w,h1,h2,h3⟩)
  ·exact ⟨[],WL.nil,by simp,h⟩
  ·exact ⟨x::w,h1.cons hx,by simpa using h2,h3⟩
theorem adW {a:Da} {q x:Nat} (hx:x<a.L) (h:a.Live (a.nx q x)):a.Live q:=by
 obtain ⟨w,h1,h2⟩:=h
 exact ⟨x::w,h1.cons hx,h2⟩
theorem adX {a:Da} {q:Nat} (h:a.fin q=true):a.Live q:=⟨[],WL.nil,h⟩
theorem adY {a:Da} (ha:a.Ok) {r:Nat→Bool} (hf: ∀q,q<a.n→a.fin q=true→r q=true) (hc: ∀q x,q<a.n→x<a.L→r (a.nx q x)=true→r q=true) {q:Nat} (hq:q<a.n) (h:a.Live q):r q=true:=by
 obtain ⟨w,h1,h2⟩:=h
 induction w generalizing q with
 | nil=>exact hf q hq h2
 | cons x w ih=>exact hc q x hq h1.head (ih (ha.ej hq h1.head) h1.tail h2)
theorem ap7 {a:Da} (ha:a.Ok) {q:Nat} (hq:q<a.n) (h:a.Live q):a.gr a.n q:=by
 classical
 have grow: ∀k,k≤cT (fun q=>decide (a.gr k q)) a.n∨∃j,j<k∧∀q,q<a.n→a.gr (j+1) q→a.gr j q:=by
  intro k
  induction k with
  | zero=>exact .inl (na _)
  | succ k ih=>
   rcases ih with h1|⟨j,h1,h2⟩
   ·by_cases hs: ∀q,q<a.n→a.gr (k+1) q→a.gr k q
    ·exact .inr ⟨k,by omega,hs⟩
    ·left
     have: ∃q,q<a.n∧a.gr (k+1) q∧¬a.gr k q:=by
      refine Classical.byContradiction fun hn=>hs fun q hq h3=>Classical.byContradiction fun h4=>hn ⟨q,hq,h3,h4⟩
     obtain ⟨q,h3,h4,h5⟩:=this
     have:=T6 (r:=fun q=>decide (a.gr k q)) (s:=fun q=>decide (a.gr (k+1) q)) (n:=a.n) (fun q _ hr=>b7 ((BH hr).mono (by omega))) ⟨q,h3,eB h5,b7 h4⟩
     omega
   ·exact .inr ⟨j,by omega,h2⟩
 rcases grow (a.n+1) with h1|⟨j,h1,h2⟩
 ·have:=T2 (fun q=>decide (a.gr (a.n+1) q)) a.n
  omega
 ·refine gr.mono (k:=j) ?_ (by omega)
  have:=adY ha (r:=fun q=>decide (a.gr j q)) (fun q _ hf=>b7 ⟨[],WL.nil,by simp,hf⟩) (fun q x hq hx hr=>b7 (h2 q hq (adV.2 (.inr ⟨x,hx,BH hr⟩)))) hq h
  exact BH this
end Da
def bV (n:Nat) (r:Nat→Bool):List V:=tab n fun q=>V.bool (r q)
theorem ap8 {n:Nat} {r:Nat→Bool}:(bV n r).length=n:=by simp[bV]
def upd (r:Nat→Bool) (p:Nat) (b:Bool) (q:Nat):Bool:=if q=p then b else r q
theorem rj {r:Nat→Bool} {p:Nat} {b:Bool}:upd r p b p=b:=af rfl
theorem rk {r:Nat→Bool} {p q:Nat} {b:Bool} (h:q≠p):upd r p b q=r q:=ag h
theorem adZ {r:Nat→Bool} {p:Nat} {b c:Bool}:upd (upd r p b) p c=upd r p c:=by
 funext q
 by_cases h:q=p
 ·rw[h,rj,rj]
 ·rw[rk h,rk h,rk h]
theorem ap9 {r:Nat→Bool} {p:Nat}:upd r p (r p)=r:=by
 funext q
 by_cases h:q=p
 ·rw[h,rj]
 ·rw[rk h]
theorem T7 {n:Nat} {r:Nat→Bool} {p:Nat} {b:Bool}:(bV n r).set p (.bool b)=bV n (upd r p b):=by
 unfold bV
 rw[nK]
 refine dZ fun q _=> ?_
 by_cases h:q=p
 ·rw[af h,h,rj]
 ·rw[ag h,rk h]
theorem ad0 {n:Nat} {r s:Nat→Bool} (h: ∀q,q<n→r q=s q):bV n r=bV n s:=dZ fun q hq=>by rw[h q hq]
structure Gs (a:Da) (r0 r:Nat→Bool) (c:Bool):Prop where
 good: ∀q,q<a.n→r q=true→a.Live q
 up: ∀q,q<a.n→r0 q=true→r q=true
 yes:c=true→∃q,q<a.n∧r0 q=false∧r q=true
 no:c=false→∀q,q<a.n→r q=r0 q
section
variable {a:Da} (h:a.Ok)
include h
theorem aqa {r0 r:Nat→Bool} {c:Bool} (hr:Gs a r0 r c) {p:Nat} (hp:p<a.n) {k1 k2 k3 k4:Int} {l1 l2:List V}:
  ∃o,Loop (By CC (p:Int) l1 k1 k2 (tab a.L fun x=>iV (a.nx p x)) ((tab a.L fun x=>iV (a.nx p x)).length:Int) k3 k4 l2 a.cd) (c,0,bV a.n r)=some o∧∃c' r',o=(c',(a.L:Int),false,bV a.n r')∧Gs a r0 r' c'∧(c'=false→c=false∧∀x,x<a.L→r0 (a.nx p x)=true→r0 p=true):=by
 have h6:=h.l6
 rw[cL]
 refine uc (fun x st=> ∃c' r',st=(c',(x:Int),bV a.n r')∧Gs a r0 r' c'∧(c'=false→c=false∧∀y,y<x→r0 (a.nx p y)=true→r0 p=true)) _ a.L 0 _ (fun x _ hx st bP=> ?_) (fun st bP=> ?_) ⟨c,r,rfl,hr,fun e=>⟨e,fun y hy=>by omega⟩⟩
 ·obtain ⟨c',r',rfl,hI,fl⟩:=bP
  rw[dE] at hx
  have lM:=h.ej hp hx
  by_cases h1:r' (a.nx p x)=true
  ·by_cases h2:r' p=true
   ·refine ⟨(c',((x+1:Nat):Int),bV a.n r'),?_,c',r',rfl,hI,fun e=>⟨(fl e).1,fun y hy Bw=> ?_⟩⟩
    ·simp only[By,yX,un,ar,aS]
     refine bT (cB hx) ?_
     refine bs (mP hx) ?_
     refine (dt (i:=a.nx p x) lM).trans ?_
     refine bT h1 ?_
     refine (dt (i:=p) hp).trans ?_
     refine bF (by rw[V.kG,h2];rfl) ?_
     rw[ca (by omega)]
    ·rw[←hI.no e p hp];exact h2
   ·refine ⟨(true,((x+1:Nat):Int),bV a.n (upd r' p true)),?_,true,_,rfl,⟨fun q hq mA=> ?_,fun q hq mA=> ?_,fun _=>⟨p,hp,?_,rj⟩,fun e=>by cases e⟩,fun e=>by cases e⟩
    ·simp only[By,yX,un,ar,aS]
     refine bT (cB hx) ?_
     refine bs (mP hx) ?_
     refine (dt (i:=a.nx p x) lM).trans ?_
     refine bT h1 ?_
     refine (dt (i:=p) hp).trans ?_
     refine bT (by rw[V.kG,show r' p=false by simpa using h2];rfl) ?_
     refine (dt (i:=p) hp).trans ?_
     rw[ca (by omega),Int.toNat_natCast,T7]
    ·by_cases e:q=p
     ·rw[e];exact Da.adW hx (hI.good _ lM h1)
     ·rw[rk e] at mA;exact hI.good q hq mA
    ·by_cases e:q=p
     ·rw[e,rj]
     ·rw[rk e];exact hI.up q hq mA
    ·cases e:r0 p with
     | false=>rfl
     | true=>exact absurd (hI.up p hp e) h2
  ·refine ⟨(c',((x+1:Nat):Int),bV a.n r'),?_,c',r',rfl,hI,fun e=>⟨(fl e).1,fun y hy Bw=> ?_⟩⟩
   ·simp only[By,yX,un,ar,aS]
    refine bT (cB hx) ?_
    refine bs (mP hx) ?_
    refine (dt (i:=a.nx p x) lM).trans ?_
    refine bF (by simpa using h1) ?_
    rw[ca (by omega)]
   ·rcases eD y x with c1|c1
    ·exact (fl e).2 y c1 Bw
    ·rw[show y=x by omega,←hI.no e _ lM] at Bw
     exact absurd Bw h1
 ·obtain ⟨c',r',rfl,hI,fl⟩:=bP
  rw[dE] at*
  refine ⟨_,?_,c',r',rfl,hI,fl⟩
  simp only[By,yX,un,ar,aS]
  refine bF (bm (aw _)) ?_
  rw[bm (aw _)]
theorem aqb {r0:Nat→Bool} (hg: ∀q,q<a.n→r0 q=true→a.Live q) {k3 k4:Int} {l2:List V}:
  ∃o,Loop (L5 CC a.cd (a.cd.length:Int) k3 k4 l2 a.cd) (false,0,bV a.n r0)=some o∧∃c' r',o=(c',(a.n:Int),false,bV a.n r')∧Gs a r0 r' c'∧(c'=false→∀q x,q<a.n→x<a.L→r0 (a.nx q x)=true→r0 q=true):=by
 have hm:=h.fc
 rw[Da.Sn]
 refine uc (fun p st=> ∃c' r',st=(c',(p:Int),bV a.n r')∧Gs a r0 r' c'∧(c'=false→∀q x,q<p→x<a.L→r0 (a.nx q x)=true→r0 q=true)) _ a.n 0 _ (fun p _ hp st bP=> ?_) (fun st bP=> ?_) ⟨false,r0,rfl,⟨hg,fun q _ e=>e,fun e=>(by cases e),fun _ q _=>rfl⟩,fun e q x hq=>by omega⟩
 ·obtain ⟨c',r',rfl,hI,fl⟩:=bP
  rw[dE] at hp
  obtain ⟨o,h1,c2,r2,rfl,h3,h4⟩:=aqa h hI hp (k1:=(a.n:Int)) (k2:=(p:Int)) (k3:=k3) (k4:=k4) (l1:=a.cd) (l2:=l2)
  refine ⟨(c2,((p+1:Nat):Int),bV a.n r2),?_,c2,r2,rfl,h3,fun e q x hq hx hr=> ?_⟩
  ·simp only[L5,Gl,un]
   refine bT (cB hp) ?_
   refine bs (Da.mO hp) ?_
   rw[nL]
   refine bs h1 ?_
   rw[ca (by omega)];rfl
  ·rcases eD q p with c1|c1
   ·exact fl (h4 e).1 q x c1 hx hr
   ·obtain rfl:q=p:=by omega
    exact (h4 e).2 x hx hr
 ·obtain ⟨c',r',rfl,hI,fl⟩:=bP
  rw[dE] at*
  refine ⟨_,?_,c',r',rfl,hI,fl⟩
  simp only[L5,Gl,un]
  refine bF (bm (aw _)) ?_
  rw[bm (aw _)]
theorem ad1:CC DO (cY a)=some [.list au (bV a.n a.fp)]:=by
 have hm:=h.fc
 refine ap0 ?_
 unfold adS
 rw[Da.mb]
 refine bT (mN (by omega) (by omega)) ?_
 have e0:a.cG.take (List.replicate (((a.n:Nat):Int).toNat) (V.bool false)).length++(List.replicate (((a.n:Nat):Int).toNat) (V.bool false)).drop a.n=bV a.n a.fin:=by
  rw[Int.toNat_natCast,wk,zj (by simp),List.drop_eq_nil_of_le (by simp),eY]
  rfl
 rw[e0]
 have key:=OO (step:=L7 CC (a.L:Int) (a.st:Int) a.cG a.cd)
  (fun x=> ∃c r,x=(c,bV a.n r)∧(∀q,q<a.n→r q=true→a.Live q)∧(∀q,q<a.n→a.fin q=true→r q=true)∧(c=false→∀q x,q<a.n→x<a.L→r (a.nx q x)=true→r q=true))
  (fun x=>(if x.1=true then 1 else 0)+2*(a.n-cT (fun q=>(x.2.getD q (.bool false)).toBool) a.n))
  (fun o=>o=(false,bV a.n a.fp)) (fun x hx=> ?_) (true,bV a.n a.fin) ⟨true,a.fin,rfl,fun q _ e=>Da.adX e,fun q _ e=>e,fun e=>by cases e⟩
 ·obtain ⟨r,h1,rfl⟩:=key
  refine bs h1 ?_
  rfl
 ·obtain ⟨c,r,rfl,hg,hf,fl⟩:=hx
  cases c with
  | false=>
   right
   refine ⟨_,?_,rfl⟩
   simp only[L7,Gm,un]
   refine bF rfl ?_
   have:bV a.n r=bV a.n a.fp:=ad0 fun q hq=>by
    rw[od,Da.adU]
    exact ⟨fun e=>hg q hq e,fun e=>Da.adY h hf (fl rfl) hq e⟩
   rw[this]
  | true=>
   left
   obtain ⟨o,h1,c2,r2,rfl,hI,fX⟩:=aqb h hg (k3:=(a.L:Int)) (k4:=(a.st:Int)) (l2:=a.cG)
   refine ⟨(c2,bV a.n r2),?_,⟨c2,r2,rfl,hI.good,fun q hq e=>hI.up q hq (hf q hq e),fun e q x hq hx hr=> ?_⟩,?_⟩
   ·simp only[L7,Gm,un]
    refine bT rfl ?_
    refine bs h1 ?_
    rfl
   ·rw[hI.no e q hq]
    rw[hI.no e _ (h.ej hq hx)] at hr
    exact fX e q x hq hx hr
   ·have ec: ∀s:Nat→Bool,cT (fun q=>((bV a.n s).getD q (.bool false)).toBool) a.n=cT s a.n:=fun s=>by
     have: ∀m,m≤a.n→cT (fun q=>((bV a.n s).getD q (.bool false)).toBool) m=cT s m:=by
      intro m
      induction m with
      | zero=>intro _;rfl
      | succ m ih=>
       intro hm
       rw[cT,cT,ih (by omega)]
       unfold bV
       rw[ua (by omega)];rfl
     exact this a.n (aw _)
    simp only[ec]
    have l1:=T2 r2 a.n
    have l2:=T4 hI.up
    cases c2 with
    | false=>simp;omega
    | true=>
     have:=T6 hI.up (hI.yes rfl)
     simp only[jO]
     omega
end
def n8 (a:Da) (r:Nat→Bool) (p x:Nat):Bool:=r p||(List.range x).any fun y=>r (a.nx p y)
theorem aqc {a:Da} {r:Nat→Bool} {p x:Nat}:n8 a r p (x+1)=(n8 a r p x||r (a.nx p x)):=by
 unfold n8
 rw[sO,List.any_append]
 simp[Bool.or_assoc]
theorem aqd {a:Da} (h:a.Ok) {r:Nat→Bool} {p:Nat} (hp:p<a.n) {k1 k2 k3 k4 k5 k6:Int} {l2:List V}:
  Loop (L8 CC (p:Int) k1 k2 k3 k4 (tab a.L fun x=>iV (a.nx p x)) ((tab a.L fun x=>iV (a.nx p x)).length:Int) k5 k6 l2 a.cd) (0,bV a.n r)=some ((a.L:Int),false,bV a.n (upd r p (n8 a r p a.L))):=by
 have h6:=h.l6
 rw[cL]
 have e0:bV a.n r=bV a.n (upd r p (n8 a r p 0)):=by
  rw[show n8 a r p 0=r p by simp[n8],ap9]
 rw[e0]
 refine (eW a.L (fun x=>((x:Int),bV a.n (upd r p (n8 a r p x)))) _ (fun x hx=> ?_) ?_)
 ·have lM:=h.ej hp hx
  simp only[L8,Gn,un,ar,aS]
  refine bT (cB hx) ?_
  refine bs (mP hx) ?_
  refine (dt (i:=p) hp).trans ?_
  rw[rj,ca (by omega),V.kG,aqc]
  cases hb:n8 a r p x with
  | true=>
   refine bT rfl ?_
   refine (dt (i:=p) hp).trans ?_
   rw[Int.toNat_natCast,T7,adZ]
   rfl
  | false=>
   refine bF rfl ?_
   refine (dt (i:=a.nx p x) lM).trans ?_
   refine (dt (i:=p) hp).trans ?_
   have e2:upd r p false (a.nx p x)=r (a.nx p x):=by
    by_cases e:a.nx p x=p
    ·rw[e,rj]
     have:r p=false:=by
      unfold n8 at hb
      cases h3:r p with
      | false=>rfl
      | true=>rw[h3] at hb;simp at hb
     exact this.symm
    ·rw[rk e]
   rw[Int.toNat_natCast,V.kG,e2,T7,adZ]
   rfl
 ·simp only[L8,Gn,un,ar,aS]
  refine bF (bm (aw _)) ?_
  rw[bm (aw _)]
section
variable {a:Da} (h:a.Ok)
include h
theorem aqe {r:Nat→Bool} {k:Nat} (hg: ∀q,q<a.n→r q=true→a.Live q) (hk: ∀q,q<a.n→a.gr k q→r q=true) {k1 k2 k3 k4:Int} {l2:List V}:
  ∃o,Loop (Gq CC k1 k2 ((bV a.n r).length:Int) k3 k4 l2 a.cd) (0,bV a.n r)=some o∧∃r',o=((a.n:Int),false,bV a.n r')∧(∀q,q<a.n→r' q=true→a.Live q)∧(∀q,q<a.n→a.gr (k+1) q→r' q=true):=by
 have hm:=h.fc
 rw[ap8]
 have key:=uc (step:=Gq CC k1 k2 (a.n:Int) k3 k4 l2 a.cd) (fun p st=> ∃r',st=((p:Int),bV a.n r')∧(∀q,q<a.n→r' q=true→a.Live q)∧(∀q,q<a.n→a.gr k q→r' q=true)∧(∀q,q<p→a.gr (k+1) q→r' q=true)) (fun o=> ∃r',o=((a.n:Int),false,bV a.n r')∧(∀q,q<a.n→r' q=true→a.Live q)∧(∀q,q<a.n→a.gr (k+1) q→r' q=true)) a.n 0 (0,bV a.n r) (fun p _ hp st bP=> ?_) (fun st bP=> ?_) ⟨r,rfl,hg,hk,fun q hq=>by omega⟩
 ·exact key
 ·obtain ⟨r',rfl,i1,i2,i3⟩:=bP
  rw[dE] at hp
  refine ⟨(((p+1:Nat):Int),bV a.n (upd r' p (n8 a r' p a.L))),?_,_,rfl,fun q hq e=> ?_,fun q hq e=> ?_,fun q hq e=> ?_⟩
  ·simp only[Gq,Gp,un]
   refine bT (cB hp) ?_
   refine bs (Da.mO hp) ?_
   rw[nL]
   refine bs (aqd h hp) ?_
   rw[ca (by omega)];rfl
  ·by_cases eq:q=p
   ·rw[eq,rj,n8,qc] at e
    rw[eq]
    rcases e with e|e
    ·exact i1 p hp e
    ·obtain ⟨y,h1,h2⟩:=sN.1 e
     have hy:=ia.1 h1
     exact Da.adW hy (i1 _ (h.ej hp hy) h2)
   ·rw[rk eq] at e;exact i1 q hq e
  ·by_cases eq:q=p
   ·rw[eq,rj,n8,qc]
    exact .inl (eq▸i2 q hq e)
   ·rw[rk eq];exact i2 q hq e
  ·by_cases eq:q=p
   ·rw[eq] at e
    rw[eq,rj,n8,qc]
    rcases Da.adV.1 e with e|⟨x,hx,e⟩
    ·exact .inl (i2 p hp ⟨[],WL.nil,by simp,e⟩)
    ·exact .inr (sN.2 ⟨x,ia.2 hx,i2 _ (h.ej hp hx) e⟩)
   ·rw[rk eq];exact i3 q (by omega) e
 ·obtain ⟨r',rfl,i1,i2,i3⟩:=bP
  rw[dE] at*
  refine ⟨_,?_,r',rfl,i1,i3⟩
  simp only[Gq,Gp,un]
  refine bF (bm (aw _)) ?_
  rw[bm (aw _)]
theorem ad2:CC DM (cY a)=some [.list au (bV a.n a.fp)]:=by
 have hm:=h.fc
 refine ap6 ?_
 unfold adT
 refine bT (cap (by simp;omega) (by omega)) ?_
 rw[List.nil_append,Da.mb]
 have key:=uc (step:=L9 CC (a.n:Int) (a.L:Int) (a.st:Int) a.cG a.cd) (fun k st=> ∃r',st=((k:Int),bV a.n r')∧(∀q,q<a.n→r' q=true→a.Live q)∧(∀q,q<a.n→a.gr k q→r' q=true)) (fun o=>o=((a.n:Int),false,bV a.n a.fp)) a.n 0 (0,bV a.n a.fin) (fun k _ hk st bP=> ?_) (fun st bP=> ?_) ⟨a.fin,rfl,fun q _ e=>Da.adX e,fun q _ e=>by
  obtain ⟨w,h1,h2,h3⟩:=e
  obtain rfl:w=[]:=List.length_eq_zero_iff.1 (by omega)
  exact h3⟩
 ·obtain ⟨o,h1,rfl⟩:=key
  refine bs h1 ?_
  rfl
 ·obtain ⟨r',rfl,i1,i2⟩:=bP
  rw[dE] at hk
  obtain ⟨o,h1,r2,rfl,i3,i4⟩:=aqe h i1 i2 (k1:=(a.n:Int)) (k2:=(k:Int)) (k3:=(a.L:Int)) (k4:=(a.st:Int)) (l2:=a.cG)
  refine ⟨(((k+1:Nat):Int),bV a.n r2),?_,r2,rfl,i3,i4⟩
  simp only[L9,Gr,un]
  refine bT (cB hk) ?_
  refine bs h1 ?_
  rw[ca (by omega)];rfl
 ·obtain ⟨r',rfl,i1,i2⟩:=bP
  rw[dE] at*
  refine ⟨_,?_,rfl⟩
  simp only[L9,Gr,un]
  refine bF (bm (aw _)) ?_
  rw[bm (aw _)]
  have:bV a.n r'=bV a.n a.fp:=ad0 fun q hq=>by
   rw[od,Da.adU]
   exact ⟨fun e=>i1 q hq e,fun e=>i2 q hq (Da.ap7 h hq e)⟩
  rw[this]
end
noncomputable def ad3 (C:ab) (cE oH:Int):Option LV:=
 bif decide ((oH:Int)>64) then
  some [V.bool true]
 else
  some [V.bool false,V.int .i64 cE,V.int .i64 oH,.int .u64 0,.int .u64 0,.list aL ([]:LV)]
theorem aqf {cE oH:Int} {r:Option LV} (h:ad3 CC cE oH=r):CC xE [V.int .i64 cE,V.int .i64 oH]=r:=bu (L:=bw) ak h
noncomputable def ad4 (C:ab) (Gt letter to aH aD aJ aE:Int) (bS:LV):Option LV:=
 bif Nat.ble ((bS.length+([.agg [V.int .i64 Gt,V.int .i64 letter,V.int .i64 to]]:LV).length)*24) bM then
  some [V.int .i64 aH,V.int .i64 aD,.int .u64 aJ,.int .u64 aE,.list aL (bS++([.agg [V.int .i64 Gt,V.int .i64 letter,V.int .i64 to]]:LV))]
 else none
theorem aqg {Gt letter to aH aD aJ aE:Int} {bS:LV} {r:Option LV} (h:ad4 CC Gt letter to aH aD aJ aE bS=r):CC vp [V.int .i64 Gt,V.int .i64 letter,V.int .i64 to,V.int .i64 aH,V.int .i64 aD,.int .u64 aJ,.int .u64 aE,.list aL bS]=r:=bu (L:=bw) ak h
noncomputable def ad5 (C:ab) (q aH aD aJ aE:Int) (bS:LV):Option LV:=
 bif decide (0≤q) then
  some [V.int .i64 aH,V.int .i64 aD,.int .u64 (IntKind.wrap .u64 ((BitVec.ofInt (IntKind.bits .u64) aJ|||BitVec.ofInt (IntKind.bits .u64) (IntKind.wrap .u64 (1*2^(min q.toNat (IntKind.bits .u64))))).toNat)),.int .u64 aE,.list aL bS]
 else none
theorem aqh {q aH aD aJ aE:Int} {bS:LV} {r:Option LV} (h:ad5 CC q aH aD aJ aE bS=r):CC xF [V.int .i64 q,V.int .i64 aH,V.int .i64 aD,.int .u64 aJ,.int .u64 aE,.list aL bS]=r:=bu (L:=bw) ak h
noncomputable def ad6 (C:ab) (q aH aD aJ aE:Int) (bS:LV):Option LV:=
 bif decide (0≤q) then
  some [V.int .i64 aH,V.int .i64 aD,.int .u64 aJ,.int .u64 (IntKind.wrap .u64 ((BitVec.ofInt (IntKind.bits .u64) aE|||BitVec.ofInt (IntKind.bits .u64) (IntKind.wrap .u64 (1*2^(min q.toNat (IntKind.bits .u64))))).toNat)),.list aL bS]
 else none
theorem aqi {q aH aD aJ aE:Int} {bS:LV} {r:Option LV} (h:ad6 CC q aH aD aJ aE bS=r):CC DL [V.int .i64 q,V.int .i64 aH,V.int .i64 aD,.int .u64 aJ,.int .u64 aE,.list aL bS]=r:=bu (L:=bw) ak h
noncomputable def Gu (C:ab) (offset:Int) (t8:LV) (t9 t10 aH aD aJ aE:Int) (di:LV) {β:Type} (kn:(Int × Int × Int × Int × Int × LV)→Option β) (kr:(Int × Bool × Int × Int × Int × Int × LV)→Option β):Option β:=
 bif decide ((t10:Int)<t9) then
  (idx t8 t10).bind fun x1=>
  bif x1.toBool then
  (C DL [V.int .i64 (IntKind.wrap .i64 (t10+offset)),V.int .i64 aH,V.int .i64 aD,.int .u64 aJ,.int .u64 aE,.list aL di]).bind fun r2=>
  kn (IntKind.wrap .i64 (t10+1),(V.nth r2 0).toInt,(V.nth (r2.drop 1) 0).toInt,(V.nth ((r2.drop 1).drop 1) 0).toInt,(V.nth (((r2.drop 1).drop 1).drop 1) 0).toInt,(V.nth (r2.drop 4) 0).toList)
  else
  kn (IntKind.wrap .i64 (t10+1),aH,aD,aJ,aE,di)
 else
  kr (t10,decide ((t10:Int)<t9),aH,aD,aJ,aE,di)
noncomputable def T8 (C:ab) (offset:Int) (t8:LV) (t9:Int):=un fun t10=>un fun aH=>un fun aD=>un fun aJ=>un fun aE di=>Gu C offset t8 t9 t10 aH aD aJ aE di (fun y=>some (Sum.inl y)) (fun r=>some (Sum.inr r))
noncomputable def aqj (C:ab):bR:=bd 17 PQ [false,false,false,true,true,true,true,true,true] [[1,2,3,0,0,0,0,0,0,0]] (@Gu C) bw
theorem aqk (C:ab):aQ C (aqj C) 28 (Lp [1,0,0] 28):=bc PQ [false,false,false,true,true,true,true,true,true] [[1,2,3,0,0,0,0,0,0,0]] (@Gu C) (aA ak)
noncomputable def ad7 (C:ab) (final:LV) (offset aH aD aJ aE:Int) (bS:LV):Option LV:=
 (Loop (T8 C offset final (final.length:Int)) (0,aH,aD,aJ,aE,bS)).bind (un fun (kJ:Int)=>un fun (jh:Bool)=>un fun (aql:Int)=>un fun (sE:Int)=>un fun (uv:Int)=>un fun (uw:Int) (Gv:LV)=>
  some [V.int .i64 aql,V.int .i64 sE,.int .u64 uv,.int .u64 uw,.list aL Gv])
theorem aqm {final:LV} {offset aH aD aJ aE:Int} {bS:LV} {r:Option LV} (h:ad7 CC final offset aH aD aJ aE bS=r):CC xG [.list au final,V.int .i64 offset,V.int .i64 aH,V.int .i64 aD,.int .u64 aJ,.int .u64 aE,.list aL bS]=r:=bu (aO (aqk CC) ak) h
noncomputable def Gw (C:ab) (offset p:Int) (t11:LV) (t12 t13:Int) (t18:LV) (t19 t20 aH aD aJ aE:Int) (di:LV) {β:Type} (kn:(Int × Int × Int × Int × Int × LV)→Option β) (kr:(Int × Bool × Int × Int × Int × Int × LV)→Option β):Option β:=
 bif decide ((t20:Int)<t19) then
  (idx t18 t20).bind fun x2=>
  (C vp [V.int .i64 (IntKind.wrap .i64 (p+offset)),V.int .i64 t20,V.int .i64 (IntKind.wrap .i64 (x2.toInt+offset)),V.int .i64 aH,V.int .i64 aD,.int .u64 aJ,.int .u64 aE,.list aL di]).bind fun r3=>
  kn (IntKind.wrap .i64 (t20+1),(V.nth r3 0).toInt,(V.nth (r3.drop 1) 0).toInt,(V.nth ((r3.drop 1).drop 1) 0).toInt,(V.nth (((r3.drop 1).drop 1).drop 1) 0).toInt,(V.nth (r3.drop 4) 0).toList)
 else
  kr (t20,decide ((t20:Int)<t19),aH,aD,aJ,aE,di)
noncomputable def T9 (C:ab) (offset p:Int) (t11:LV) (t12 t13:Int) (t18:LV) (t19:Int):=un fun t20=>un fun aH=>un fun aD=>un fun aJ=>un fun aE di=>Gw C offset p t11 t12 t13 t18 t19 t20 aH aD aJ aE di (fun y=>some (Sum.inl y)) (fun r=>some (Sum.inr r))
noncomputable def Gx (C:ab) (offset:Int) (t11:LV) (t12 t13 aH aD aJ aE:Int) (di:LV) {β:Type} (kn:(Int × Int × Int × Int × Int × LV)→Option β) (kr:(Int × Bool × Int × Int × Int × Int × LV)→Option β):Option β:=
 bif decide ((t13:Int)<t12) then
  (idx t11 t13).bind fun x1=>
  (Loop (T9 C offset t13 t11 t12 t13 x1.toList (x1.toList.length:Int)) (0,aH,aD,aJ,aE,di)).bind (un fun (jh:Int)=>un fun (lj:Bool)=>un fun (sE:Int)=>un fun (uv:Int)=>un fun (uw:Int)=>un fun (ux:Int) (vO:LV)=>
   kn (IntKind.wrap .i64 (t13+1),sE,uv,uw,ux,vO))
 else
  kr (t13,decide ((t13:Int)<t12),aH,aD,aJ,aE,di)
noncomputable def Ua (C:ab) (offset:Int) (t11:LV) (t12:Int):=un fun t13=>un fun aH=>un fun aD=>un fun aJ=>un fun aE di=>Gx C offset t11 t12 t13 aH aD aJ aE di (fun y=>some (Sum.inl y)) (fun r=>some (Sum.inr r))
noncomputable def ad8 (C:ab):bR:=bd 81 PM [false,false,false,false,false,false,false,true,true,true,true,true,true] [[1,2,3,4,5,6,7,0,0,0,0,0,0,0]] (@Gw C) (bd 33 PN [false,false,false,true,true,true,true,true,true] [[1,2,3,0,0,0,0,0,0,0]] (@Gx C) bw)
theorem aqn (C:ab):aQ C (ad8 C) 23 (Lp [1,1,0,0,1,1,0,0,1,1,0,0] 23):=bc PM [false,false,false,false,false,false,false,true,true,true,true,true,true] [[1,2,3,4,5,6,7,0,0,0,0,0,0,0]] (@Gw C) (aA ak)
theorem aqo (C:ab):aQ C (ad8 C) 23 (Lp [1,1,0,0] 23):=bc PN [false,false,false,true,true,true,true,true,true] [[1,2,3,0,0,0,0,0,0,0]] (@Gx C) (aA (aO (aqn C) ak))
noncomputable def ad9 (C:ab) (aB aC:Int) (av aF:LV) (offset aH aD aJ aE:Int) (bS:LV):Option LV:=
 (Loop (Ua C offset aF (aF.length:Int)) (0,aH,aD,aJ,aE,bS)).bind (un fun (uj:Int)=>un fun (vN:Bool)=>un fun (aqp:Int)=>un fun (Ub:Int)=>un fun (Uc:Int)=>un fun (Ud:Int) (ye:LV)=>
  some [V.int .i64 aqp,V.int .i64 Ub,.int .u64 Uc,.int .u64 Ud,.list aL ye])
theorem aqq {aB aC:Int} {av aF:LV} {offset aH aD aJ aE:Int} {bS:LV} {r:Option LV} (h:ad9 CC aB aC av aF offset aH aD aJ aE bS=r):CC Au [V.int .i64 aB,V.int .i64 aC,.list au av,.list ax aF,V.int .i64 offset,V.int .i64 aH,V.int .i64 aD,.int .u64 aJ,.int .u64 aE,.list aL bS]=r:=bu (aO (aqo CC) ak) h
noncomputable def Gy (C:ab) (final:LV) (to t14:Int) (Ue:LV) (t15 aH aD aJ aE:Int) (cz:LV) {β:Type} (kn:(Int × Int × Int × Int × Int × LV)→Option β) (kr:(Int × Bool × Int × Int × Int × Int × LV)→Option β):Option β:=
 bif decide ((t15:Int)<t14) then
  ar Ue t15 fun x1=>
  bif decide ((((x1.cell 2).toInt):Int)<(final.length:Int)) then
  (idx final ((x1.cell 2).toInt)).bind fun x2=>
  bif x2.toBool then
   (C vp [V.int .i64 ((x1.cell 0).toInt),V.int .i64 ((x1.cell 1).toInt),V.int .i64 to,V.int .i64 aH,V.int .i64 aD,.int .u64 aJ,.int .u64 aE,.list aL cz]).bind fun r3=>
   kn (IntKind.wrap .i64 (t15+1),(V.nth r3 0).toInt,(V.nth (r3.drop 1) 0).toInt,(V.nth ((r3.drop 1).drop 1) 0).toInt,(V.nth (((r3.drop 1).drop 1).drop 1) 0).toInt,(V.nth (r3.drop 4) 0).toList)
  else
   kn (IntKind.wrap .i64 (t15+1),aH,aD,aJ,aE,cz)
  else
  kn (IntKind.wrap .i64 (t15+1),aH,aD,aJ,aE,cz)
 else
  kr (t15,decide ((t15:Int)<t14),aH,aD,aJ,aE,cz)
noncomputable def Uf (C:ab) (final:LV) (to t14:Int) (Ue:LV):=un fun t15=>un fun aH=>un fun aD=>un fun aJ=>un fun aE cz=>Gy C final to t14 Ue t15 aH aD aJ aE cz (fun y=>some (Sum.inl y)) (fun r=>some (Sum.inr r))
noncomputable def aqr (C:ab):bR:=bd 17 PO [false,false,false,true,true,true,true,true,false,true] [[1,2,3,0,0,0,0,0,0,9,0]] (@Gy C) bw
theorem aqs (C:ab):aQ C (aqr C) 25 (Lp [1,0,0] 25):=bc PO [false,false,false,true,true,true,true,true,false,true] [[1,2,3,0,0,0,0,0,0,9,0]] (@Gy C) (aA ak)
noncomputable def aea (C:ab) (final:LV) (to aH aD aJ aE:Int) (bS:LV):Option LV:=
 bif Nat.ble (bS.length*24) bM then
  (Loop (Uf C final to (bS.length:Int) bS) (0,aH,aD,aJ,aE,bS)).bind (un fun (jh:Int)=>un fun (lj:Bool)=>un fun (sE:Int)=>un fun (uv:Int)=>un fun (uw:Int)=>un fun (ux:Int) (vO:LV)=>
   some [V.int .i64 sE,V.int .i64 uv,.int .u64 uw,.int .u64 ux,.list aL vO])
 else none
theorem aqt {final:LV} {to aH aD aJ aE:Int} {bS:LV} {r:Option LV} (h:aea CC final to aH aD aJ aE bS=r):CC Ju [.list au final,V.int .i64 to,V.int .i64 aH,V.int .i64 aD,.int .u64 aJ,.int .u64 aE,.list aL bS]=r:=bu (aO (aqs CC) ak) h
noncomputable def Ma (C:ab) (q t18 t19:Int) (t26:Bool) (dU dQ:Int) (jM iR:LV) (bf bh fU fI aH aD aJ aE:Int) (cz bI:LV) {β:Type} (kr:(Int)→Option β):Option β:=
 bif t26 then
  (C tK [V.int .i64 q]).bind fun r3=>
  kr (IntKind.wrap .u64 ((BitVec.ofInt (IntKind.bits .u64) aE|||BitVec.ofInt (IntKind.bits .u64) ((V.nth r3 0).toInt)).toNat))
 else
  kr aE
noncomputable def Gz (C:ab) (q t18 t19:Int) (t37:LV) (t38 dU dQ:Int) (jM iR:LV) (bf bh fU fI aH aD aJ aE:Int) (cz:LV) (t39:Int) (bI:LV) {β:Type} (kn:(Int × LV)→Option β) (kr:(Int × Bool × LV)→Option β):Option β:=
 bif decide ((t39:Int)<t38) then
  (idx t37 t39).bind fun x6=>
  bif Nat.ble ((bI.length+([.agg [V.int .i64 q,V.int .i64 t39,V.int .i64 x6.toInt]]:LV).length)*24) bM then
  kn (IntKind.wrap .i64 (t39+1),bI++([.agg [V.int .i64 q,V.int .i64 t39,V.int .i64 x6.toInt]]:LV))
  else none
 else
  kr (t39,decide ((t39:Int)<t38),bI)
noncomputable def Mb (C:ab) (q t18 t19:Int) (t37:LV) (t38 dU dQ:Int) (jM iR:LV) (bf bh fU fI aH aD aJ aE:Int) (cz:LV):=un fun t39 bI=>Gz C q t18 t19 t37 t38 dU dQ jM iR bf bh fU fI aH aD aJ aE cz t39 bI (fun y=>some (Sum.inl y)) (fun r=>some (Sum.inr r))
noncomputable def GA (C:ab) (t18 dU dQ:Int) (jM iR:LV) (bf bh fU fI aH aD aJ:Int) (cz:LV) (t19 aE:Int) (bI:LV) {β:Type} (kn:(Int × Int × LV)→Option β) (kr:(Int × Bool × Int × LV)→Option β):Option β:=
 bif decide ((t19:Int)<t18) then
  (idx jM t19).bind fun x2=>
  Ma C t19 t18 t19 x2.toBool dU dQ jM iR bf bh fU fI aH aD aJ aE cz bI (fun (fu:Int)=>
   (idx iR t19).bind fun x5=>
   (Loop (Mb C t19 t18 t19 x5.toList (x5.toList.length:Int) dU dQ jM iR bf bh fU fI aH aD aJ fu cz) (0,bI)).bind (un fun (jE:Int)=>un fun (mJ:Bool) (Gv:LV)=>
    kn (IntKind.wrap .i64 (t19+1),fu,Gv)))
 else
  kr (t19,decide ((t19:Int)<t18),aE,bI)
noncomputable def Ug (C:ab) (t18 dU dQ:Int) (jM iR:LV) (bf bh fU fI aH aD aJ:Int) (cz:LV):=un fun t19=>un fun aE bI=>GA C t18 dU dQ jM iR bf bh fU fI aH aD aJ cz t19 aE bI (fun y=>some (Sum.inl y)) (fun r=>some (Sum.inr r))
noncomputable def Uh (C:ab):bR:=fS 431 PT [[1,2,3,5,6,7,8,9,10,11,12,13,14,15,0,17,18]] (@Ma C) (bd 129 PU [false,false,false,false,false,true,false,false,false,false,false,false,false,false,false,false,false,false,false,true] [[1,2,3,4,5,0,0,7,8,9,10,11,12,13,14,15,16,17,18,19,0]] (@Gz C) (bd 49 PV [false,true,false,false,false,false,false,false,false,false,false,false,false,true,false,true] [[1,0,0,3,4,5,6,7,8,9,10,11,12,13,0,15,0]] (@GA C) bw))
theorem aqu (C:ab):aQ C (Uh C) 31 (Cd 26 [1,1,0,1,0,0,1,1,0,0,1,0,1,0] [1,1,0,1,0,0,1,1,0,0,1,0,1,1] 31):=fR PT [[1,2,3,5,6,7,8,9,10,11,12,13,14,15,0,17,18]] (@Ma C) (aA ak) (aA ak)
theorem aqv (C:ab):aQ C (Uh C) 31 (Lp [1,1,0,1,0,0,1,1,0,0,1,1,1,0,0] 31):=bc PU [false,false,false,false,false,true,false,false,false,false,false,false,false,false,false,false,false,false,false,true] [[1,2,3,4,5,0,0,7,8,9,10,11,12,13,14,15,16,17,18,19,0]] (@Gz C) (aA ak)
theorem aqw (C:ab):aQ C (Uh C) 31 (Lp [1,1,0,1,0,0] 31):=bc PV [false,true,false,false,false,false,false,false,false,false,false,false,false,true,false,true] [[1,0,0,3,4,5,6,7,8,9,10,11,12,13,0,15,0]] (@GA C) (aA (aO (aqu C) (aO (aqv C) ak)))
noncomputable def aeb (C:ab) (j7 kL:Int) (jF pZ:LV):Option LV:=
 (C tK [V.int .i64 kL]).bind fun r1=>
 (Loop (Ug C (jF.length:Int) j7 kL jF pZ 0 0 0 0 j7 (jF.length:Int) ((V.nth r1 0).toInt) ([]:LV)) (0,0,([]:LV))).bind (un fun (AS:Int)=>un fun (uj:Bool)=>un fun (Ui:Int) (vL:LV)=>
  some [V.int .i64 j7,V.int .i64 (jF.length:Int),.int .u64 ((V.nth r1 0).toInt),.int .u64 Ui,.list aL vL])
theorem aqx {j7 kL:Int} {jF pZ:LV} {r:Option LV} (h:aeb CC j7 kL jF pZ=r):CC vq [V.int .i64 j7,V.int .i64 kL,.list au jF,.list ax pZ]=r:=bu (aO (aqw CC) ak) h
def dV (p x q:Nat):Ed:=⟨(p:Int),(x:Int),(q:Int)⟩
def aN (L S:Nat) (st fin:Nat) (l:List Ed):List V:=[.int .i64 (L:Int),.int .i64 (S:Int),.int .u64 (st:Int),.int .u64 (fin:Int),.list aL (l.map Ed.enc)]
def fm (n:Nat) (g:Nat→List Ed):List Ed:=(List.range n).flatMap g
theorem aqy {g:Nat→List Ed}:fm 0 g=[]:=rfl
theorem sF {n:Nat} {g:Nat→List Ed}:fm (n+1) g=fm n g++g n:=by simp[fm,sO]
theorem Bz {n:Nat} {g:Nat→List Ed} {e:Ed}:e∈fm n g↔∃i,i<n∧e∈g i:=by simp[fm]
theorem yY {n k:Nat} {g:Nat→List Ed} (h: ∀i,i<n→(g i).length≤k):(fm n g).length≤n*k:=by
 induction n with
 | zero=>simp[fm]
 | succ n ih=>
  rw[sF,cX,BJ]
  have:=ih fun i hi=>h i (by omega)
  have:=h n (by omega)
  omega
theorem hO {X R:Type} {step:X→Option (X ⊕ R)} (n:Nat) (s:Nat→X) (r:R) {x:X} (hx:x=s 0) (h: ∀i,i<n→step (s i)=some (.inl (s (i+1)))) (he:step (s n)=some (.inr r)):Loop step x=some r:=by rw[hx];exact eW n s r h he
theorem Uj {a b:Nat} (h:a+b≤1000000000):IntKind.wrap .i64 ((a:Int)+(b:Int))=((a+b:Nat):Int):=by rw[dr];omega
theorem yZ {l:List Ed} {p x q:Nat}:l.map Ed.enc++[V.agg [.int .i64 (p:Int),.int .i64 (x:Int),.int .i64 (q:Int)]]=(l++[dV p x q]).map Ed.enc:=by simp[dV,Ed.enc]
section
variable {L S st fin:Nat} {l:List Ed}
theorem GB {p x q:Nat} (h:l.length≤1000000):CC vp [.int .i64 (p:Int),.int .i64 (x:Int),.int .i64 (q:Int),.int .i64 (L:Int),.int .i64 (S:Int),.int .u64 (st:Int),.int .u64 (fin:Int),.list aL (l.map Ed.enc)]=some (aN L S st fin (l++[dV p x q])):=by
 refine aqg ?_
 unfold ad4
 refine bT (cap (by simp;omega) (by omega)) ?_
 rw[yZ];rfl
theorem Mc {q:Nat} (hq:q<64) (hs:st<2^64):CC xF [.int .i64 (q:Int),.int .i64 (L:Int),.int .i64 (S:Int),.int .u64 (st:Int),.int .u64 (fin:Int),.list aL (l.map Ed.enc)]=some (aN L S (st|||2^q) fin l):=by
 refine aqh ?_
 unfold ad5
 refine bT (b7 (by omega)) ?_
 rw[Int.toNat_natCast,tU hq,u64_or hs (gx (by omega) hq)];rfl
theorem aec {q:Nat} (hq:q<64) (hs:fin<2^64):CC DL [.int .i64 (q:Int),.int .i64 (L:Int),.int .i64 (S:Int),.int .u64 (st:Int),.int .u64 (fin:Int),.list aL (l.map Ed.enc)]=some (aN L S st (fin|||2^q) l):=by
 refine aqi ?_
 unfold ad6
 refine bT (b7 (by omega)) ?_
 rw[Int.toNat_natCast,tU hq,u64_or hs (gx (by omega) hq)];rfl
theorem Md (h:S≤64):CC xE [.int .i64 (L:Int),.int .i64 (S:Int)]=some (.bool false::aN L S 0 0 []):=by
 refine aqf ?_
 unfold ad3
 exact bF (eB (by omega)) rfl
def cS (fin:Nat) (f:Nat→Bool) (off:Nat):Nat→Nat
 | 0=>fin
 | i+1=>if f i=true then cS fin f off i|||2^(i+off) else cS fin f off i
theorem BA {f:Nat→Bool} {off:Nat}: ∀{n j:Nat},(cS fin f off n).testBit j=(fin.testBit j||(decide (off≤j∧j<n+off)&&f (j-off)))
 | 0,j=>by
  rw[wy];simp[cS]
 | n+1,j=>by
  unfold cS
  by_cases hf:f n=true
  ·rw[af hf,o0,BA,qd]
   by_cases hj:j=n+off
   ·subst hj
    rw[b7 (p:=n+off=n+off) rfl,b7 (p:=off≤n+off∧n+off<n+1+off) (by omega),show n+off-off=n by omega,hf];simp
   ·rw[eB (p:=n+off=j) (by omega)]
    have:(off≤j∧j<n+off)↔(off≤j∧j<n+1+off):=by omega
    simp only[this,Bool.or_false]
  ·rw[ag hf,BA]
   by_cases hj:j=n+off
   ·subst hj
    rw[show n+off-off=n by omega,Bool.eq_false_iff.2 hf];simp
   ·have:(off≤j∧j<n+off)↔(off≤j∧j<n+1+off):=by omega
    simp only[this]
theorem p5 {f:Nat→Bool} {off k:Nat} (hf:fin<2^k): ∀{n:Nat},n+off≤k→cS fin f off n<2^k
 | 0,_=>hf
 | n+1,h=>by
  unfold cS
  have ih:=p5 (f:=f) (off:=off) hf (n:=n) (by omega)
  split
  ·exact uH ih (gx (by omega) (by omega))
  ·exact ih
theorem Me {n off:Nat} {f:Nat→Bool} (ho:n+off≤64) (hs:fin<2^64):CC xG [.list au (bV n f),.int .i64 (off:Int),.int .i64 (L:Int),.int .i64 (S:Int),.int .u64 (st:Int),.int .u64 (fin:Int),.list aL (l.map Ed.enc)]=some (aN L S st (cS fin f off n) l):=by
 refine aqm ?_
 unfold ad7
 rw[show (bV n f).length=n from cL]
 refine bs (eW n (fun i=>((i:Int),(L:Int),(S:Int),(st:Int),(cS fin f off i:Int),l.map Ed.enc)) ((n:Int),false,(L:Int),(S:Int),(st:Int),(cS fin f off n:Int),l.map Ed.enc) (fun i hi=> ?_) ?_) ?_
 ·simp only[T8,Gu,un]
  refine bT (cB hi) ?_
  refine bs (j9 hi) ?_
  have bx:=p5 (f:=f) (off:=off) hs (n:=i) (by omega)
  cases hf:f i with
  | true=>
   refine bT rfl ?_
   rw[Uj (by omega)]
   refine bs (aec (by omega) bx) ?_
   rw[ca (by omega),show cS fin f off (i+1)=cS fin f off i|||2^(i+off) from af hf]
   rfl
  | false=>
   refine bF rfl ?_
   rw[ca (by omega),show cS fin f off (i+1)=cS fin f off i from ag (by rw[hf];simp)]
 ·simp only[T8,Gu,un]
  refine bF (bm (aw _)) ?_
  rw[bm (aw _)]
 ·rfl
def iS (a:Da) (off p:Nat):List Ed:=tab a.L fun x=>dV (p+off) x (a.nx p x+off)
def cx (a:Da) (off:Nat):List Ed:=fm a.n (iS a off)
theorem aed {a:Da} {off:Nat} {e:Ed}:e∈cx a off↔∃p x,p<a.n∧x<a.L∧e=dV (p+off) x (a.nx p x+off):=by
 unfold cx iS
 rw[Bz]
 constructor
 ·rintro ⟨p,hp,he⟩
  obtain ⟨x,hx,rfl⟩:=oJ.1 he
  exact ⟨p,x,hp,hx,rfl⟩
 ·rintro ⟨p,x,hp,hx,rfl⟩
  exact ⟨p,hp,oJ.2 ⟨x,hx,rfl⟩⟩
theorem mV {a:Da} (h:a.Ok) {off:Nat} {n:Nat}:(fm n (iS a off)).length≤n*6:=yY fun p _=>by unfold iS;rw[cL];exact h.l6
theorem Uk {a:Da} (h:a.Ok) {off:Nat} (ho:off≤1000) (hl:l.length≤100000):CC Au (fY a [.int .i64 (off:Int),.int .i64 (L:Int),.int .i64 (S:Int),.int .u64 (st:Int),.int .u64 (fin:Int),.list aL (l.map Ed.enc)])=some (aN L S st fin (l++cx a off)):=by
 have hn:=h.fc
 have h6:=h.l6
 refine aqq ?_
 unfold ad9
 rw[show a.cd.length=a.n from cL]
 refine bs (hO a.n (fun i=>((i:Int),(L:Int),(S:Int),(st:Int),(fin:Int),(l++fm i (iS a off)).map Ed.enc)) ((a.n:Int),false,(L:Int),(S:Int),(st:Int),(fin:Int),(l++cx a off).map Ed.enc) (by rw[aqy,eY];rfl) (fun p hp=> ?_) ?_) ?_
 ·have hlen:=mV h (off:=off) (n:=p)
  simp only[Ua,Gx,un]
  refine bT (cB hp) ?_
  refine bs (j9 hp) ?_
  rw[show (eX a.L (a.nx p)).toList=tab a.L fun x=>nV (a.nx p x) from rfl,cL]
  refine bs (hO a.L (fun i=>((i:Int),(L:Int),(S:Int),(st:Int),(fin:Int),((l++fm p (iS a off))++tab i fun x=>dV (p+off) x (a.nx p x+off)).map Ed.enc)) ((a.L:Int),false,(L:Int),(S:Int),(st:Int),(fin:Int),((l++fm p (iS a off))++iS a off p).map Ed.enc) (by rw[ub,eY];rfl) (fun x hx=> ?_) ?_) ?_
  ·have hq:=h.ej hp hx
   simp only[T9,Gw,un]
   refine bT (cB hx) ?_
   refine bs (j9 hx) ?_
   rw[show (nV (a.nx p x)).toInt=((a.nx p x:Nat):Int) from rfl,Uj (by omega),Uj (by omega)]
   refine bs (GB (by rw[cX,cX,cL];omega)) ?_
   rw[ca (by omega),iN,←db]
   rfl
  ·simp only[T9,Gw,un]
   refine bF (bm (aw _)) ?_
   rw[bm (aw _)]
   rfl
  ·simp only[un]
   rw[ca (by omega),sF,←db]
 ·simp only[Ua,Gx,un]
  refine bF (bm (aw _)) ?_
  rw[bm (aw _)]
  rfl
 ·rfl
def mW (n:Nat) (f:Nat→Bool) (to:Nat) (l:List Ed):List Ed:=l.flatMap fun e=>if e.t.toNat<n∧f e.t.toNat=true then [⟨e.f,e.l,(to:Int)⟩] else []
theorem aqz {n to:Nat} {f:Nat→Bool} {e:Ed}:e∈mW n f to l↔∃e'∈l,e'.t.toNat<n∧f e'.t.toNat=true∧e=⟨e'.f,e'.l,(to:Int)⟩:=by
 unfold mW
 rw[uF]
 constructor
 ·rintro ⟨a,ha,h⟩
  split at h
  ·next c=>exact ⟨a,ha,c.1,c.2,by simpa using h⟩
  ·cases h
 ·rintro ⟨a,ha,h1,h2,h3⟩
  exact ⟨a,ha,by rw[af ⟨h1,h2⟩];simpa using h3⟩
theorem Mf {n to:Nat} {f:Nat→Bool}: ∀{l:List Ed},(mW n f to l).length≤l.length
 | []=>by simp[mW]
 | e::l=>by
  have ih:=Mf (n:=n) (to:=to) (f:=f) (l:=l)
  unfold mW at*
  rw[uG,cX,List.length_cons]
  split
  ·rw[List.length_singleton];omega
  ·rw[List.length_nil];omega
theorem aee {n to i:Nat} {f:Nat→Bool} (hi:i<l.length):mW n f to (l.take (i+1))=mW n f to (l.take i)++(if l[i].t.toNat<n∧f l[i].t.toNat=true then [⟨l[i].f,l[i].l,(to:Int)⟩] else []):=by
 unfold mW
 rw[zi hi,List.flatMap_append]
 simp
theorem aqA {n to:Nat} {f:Nat→Bool} (hE: ∀e∈l,0≤e.f∧0≤e.l∧0≤e.t) (hl:l.length≤100000) (hn:n≤1000):CC Ju [.list au (bV n f),.int .i64 (to:Int),.int .i64 (L:Int),.int .i64 (S:Int),.int .u64 (st:Int),.int .u64 (fin:Int),.list aL (l.map Ed.enc)]=some (aN L S st fin (l++mW n f to l)):=by
 refine aqt ?_
 unfold aea
 refine bT (by rw[fC,vG,bX];omega) ?_
 rw[bX]
 refine bs (hO l.length (fun i=>((i:Int),(L:Int),(S:Int),(st:Int),(fin:Int),(l++mW n f to (l.take i)).map Ed.enc)) ((l.length:Int),false,(L:Int),(S:Int),(st:Int),(fin:Int),(l++mW n f to l).map Ed.enc) (by rw[List.take_zero,show mW n f to []=[] from rfl,eY];rfl) (fun i hi=> ?_) ?_) ?_
 ·simp only[Uf,Gy,un]
  refine bT (cB hi) ?_
  refine (mM (i:=i) (v:=l[i].enc) (by simp[hi])).trans ?_
  obtain ⟨e1,e2,e3⟩:=hE l[i] (ep hi)
  have hlen:=Mf (n:=n) (to:=to) (f:=f) (l:=l.take i)
  have Wf:=zk i l
  rw[Ed.iI,Ed.iJ,Ed.iK,aee hi,show (bV n f).length=n from cL]
  obtain ⟨t,ht⟩:=Int.eq_ofNat_of_zero_le e3
  obtain ⟨p,hp⟩:=Int.eq_ofNat_of_zero_le e1
  obtain ⟨x,hx⟩:=Int.eq_ofNat_of_zero_le e2
  rw[ht,hp,hx,Int.toNat_natCast]
  by_cases c:t<n
  ·refine bT (cB c) ?_
   refine bs (j9 c) ?_
   cases hf:f t with
   | true=>
    refine bT rfl ?_
    refine bs (GB (by rw[cX];omega)) ?_
    rw[ca (by omega),af ⟨c,rfl⟩,←db]
    rfl
   | false=>
    refine bF rfl ?_
    rw[ca (by omega),ag (by simp),eY]
  ·refine bF (bm (by omega)) ?_
   rw[ca (by omega),ag (fun h=>c h.1),eY]
 ·simp only[Uf,Gy,un]
  refine bF (bm (aw _)) ?_
  rw[bm (aw _),oa]
 ·rfl
end
theorem GC {a:Da} (h:a.Ok) (hs:a.n≤64):CC vq (cY a)=some (aN a.L a.n (2^a.st) (cS 0 a.fin 0 a.n) (cx a 0)):=by
 have h6:=h.l6
 have bP:=h.s
 refine aqx ?_
 unfold aeb
 refine bs (AF (by omega)) ?_
 rw[show a.cG.length=a.n from cL]
 refine bs (eW a.n (fun i=>((i:Int),(cS 0 a.fin 0 i:Int),(fm i (iS a 0)).map Ed.enc)) ((a.n:Int),false,(cS 0 a.fin 0 a.n:Int),(cx a 0).map Ed.enc) (fun p hp=> ?_) ?_) ?_
 ·have hlen:=mV h (off:=0) (n:=p)
  simp only[Ug,GA,un]
  refine bT (cB hp) ?_
  refine bs (j9 hp) ?_
  have bx:=p5 (f:=a.fin) (off:=0) (fin:=0) (k:=64) (by omega) (n:=p) (by omega)
  have key: ∀(F:Nat),((idx a.cd (p:Int)).bind fun x5=>
   (Loop (Mb CC (p:Int) (a.n:Int) (p:Int) x5.toList (x5.toList.length:Int) (a.L:Int) (a.st:Int) a.cG a.cd 0 0 0 0 (a.L:Int) (a.n:Int) ((2^a.st:Nat):Int) (F:Int) ([]:List V)) (0,(fm p (iS a 0)).map Ed.enc)).bind (un fun (jE:Int)=>un fun (mJ:Bool) (Gv:List V)=>
    some (Sum.inl (IntKind.wrap .i64 ((p:Int)+1),(F:Int),Gv):(Int × Int × List V) ⊕ (Int × Bool × Int × List V))))=some (Sum.inl (((p+1:Nat):Int),(F:Int),(fm (p+1) (iS a 0)).map Ed.enc)):=by
   intro F
   refine bs (j9 hp) ?_
   rw[show (eX a.L (a.nx p)).toList=tab a.L fun x=>nV (a.nx p x) from rfl,cL]
   refine bs (hO a.L (fun i=>((i:Int),(fm p (iS a 0)++tab i fun x=>dV (p+0) x (a.nx p x+0)).map Ed.enc)) ((a.L:Int),false,(fm p (iS a 0)++iS a 0 p).map Ed.enc) (by rw[ub,eY];rfl) (fun x hx=> ?_) ?_) ?_
   ·simp only[Mb,Gz,un]
    refine bT (cB hx) ?_
    refine bs (j9 hx) ?_
    refine bT (cap (by rw[bX,cX,cL];simp;omega) (by omega)) ?_
    rw[show (nV (a.nx p x)).toInt=((a.nx p x:Nat):Int) from rfl,yZ,ca (by omega),iN,←db]
    rfl
   ·simp only[Mb,Gz,un]
    refine bF (bm (aw _)) ?_
    rw[bm (aw _)]
    rfl
   ·simp only[un]
    rw[ca (by omega),sF]
  unfold Ma
  cases hf:a.fin p with
  | true=>
   refine bT rfl ?_
   refine bs (AF (by omega)) ?_
   rw[show (V.nth [V.int .u64 ((2^p:Nat):Int)] 0).toInt=((2^p:Nat):Int) from rfl,u64_or bx (gx (by omega) (by omega)),show cS 0 a.fin 0 (p+1)=cS 0 a.fin 0 p|||2^p from af hf]
   exact key _
  | false=>
   refine bF rfl ?_
   rw[show cS 0 a.fin 0 (p+1)=cS 0 a.fin 0 p from ag (by rw[hf];simp)]
   exact key _
 ·simp only[Ug,GA,un]
  refine bF (bm (aw _)) ?_
  rw[bm (aw _)]
  rfl
 ·rfl
noncomputable def Ul (C:ab) (aB aC:Int) (av aF:LV):Option LV:=
 (C se [V.int .i64 aB,V.int .i64 aC,.list au av,.list ax aF]).bind fun r1=>
 bif (((V.nth r1 0).toInt):Int) != 0 then
  some [V.int .i64 0,V.int .i64 0,V.int .i64 ((V.nth r1 0).toInt),.list au ([]:LV),.list ax ([]:LV)]
 else
  (C Aw [V.int .i64 aB,V.int .i64 aC,.list au av,.list ax aF]).bind fun r2=>
  some [V.int .i64 ((V.nth r2 0).toInt),V.int .i64 ((V.nth (r2.drop 1) 0).toInt),V.int .i64 0,.list au ((V.nth (r2.drop 2) 0).toList),.list ax ((V.nth ((r2.drop 2).drop 1) 0).toList)]
theorem aef {aB aC:Int} {av aF:LV} {r:Option LV} (h:Ul CC aB aC av aF=r):CC qL [V.int .i64 aB,V.int .i64 aC,.list au av,.list ax aF]=r:=bu (L:=bw) ak h
noncomputable def aeg (C:ab) (aB aC:Int) (av aF:LV) (f nE nF:Int) (nG Mg:LV) (g:Int):Option LV:=
 bif (f:Int)==g then
  (C tL [V.int .i64 aB,V.int .i64 aC,.list au av,.list ax aF,V.int .i64 nE,V.int .i64 nF,.list au nG,.list ax Mg]).bind fun r1=>
  some [.bool ((V.nth r1 0).toBool)]
 else
  some [.bool false]
theorem aqB {aB aC:Int} {av aF:LV} {f nE nF:Int} {nG Mg:LV} {g:Int} {r:Option LV} (h:aeg CC aB aC av aF f nE nF nG Mg g=r):CC DI [V.int .i64 aB,V.int .i64 aC,.list au av,.list ax aF,V.int .i64 f,V.int .i64 nE,V.int .i64 nF,.list au nG,.list ax Mg,V.int .i64 g]=r:=bu (L:=bw) ak h
theorem mX {a:Da} (h:a.Ok):(minD a).Ok:=(A1 h).ok
theorem hY {a:Da} (h:a.Ok):(minD a).L=a.L:=(A1 h).hL
theorem aqC {a:Da} (h:a.Ok):(minD a).st=0:=(A1 h).st
theorem aeh {a:Da} (h:a.Ok) {w:List Nat} (hw:WL a.L w):(minD a).acc (minD a).st w=a.acc a.st w:=by
 rw[aqC h];exact (A1 h).nJ w hw
theorem aei {a:Da} (h:a.Ok):(minD a).n≤a.n:=by
 obtain ⟨p,_,c2,_⟩:=acU h
 rw[←A3 h (Da.SC h c2)]
 have h1:=(Da.KS h c2).lZ (a.quo p).n
 have h2:(a.quo p).trim.n=(ao (a.quo p).L (a.quo p).nx (a.quo p).st (a.quo p).n).length:=mK
 rw[h2]
 refine kh h1 ?_
 rw[Da.ug]
 exact SM p a.n
theorem aej {a b:Da} (ha:a.Ok) (hb:b.Ok) (hL:a.L=b.L) (hl: ∀w,WL a.L w→a.acc a.st w=b.acc b.st w):minD a=minD b:=
 A3 hb (hL▸Canon.congr (A1 ha) hl)
theorem aqD {a:Da} (ha:a.Ok):minD (minD a)=minD a:=
 aej (mX ha) ha (hY ha) fun w hw=>aeh ha (by rwa [hY ha] at hw)
theorem BB {a:Da} (h:a.Ok):CC qL (cY a)=some (dB (minD a) 0):=by
 refine aef ?_
 unfold Ul
 refine bs (AK h) (bF rfl ?_)
 refine bs (aco h) ?_
 rfl
theorem BC {d:Df} (h:d.Ok) (hv:d.val≠0):CC qL (lx d [])=some (dB zD d.val):=by
 refine aef ?_
 unfold Ul
 refine bs (abD h) (bT (by simpa using hv) ?_)
 rfl
theorem aek {m:Da} (h:CC tL (fY m (cY m))=some [.bool true]) (f:Int):CC DI (fY m (.int .i64 f::fY m [.int .i64 f]))=some [.bool true]:=by
 refine aqB ?_
 unfold aeg
 refine bT (by simp) ?_
 refine bs h ?_
 rfl
def mh (E:List Ed):Nat→List Nat→Nat→Prop
 | i,[],k=>i=k
 | i,x::w,k=> ∃j,dV i x j∈E∧mh E j w k
theorem mh.ext {A B:List Ed} (h: ∀e,e∈A→e∈B): ∀{w:List Nat} {i k:Nat},mh A i w k→mh B i w k
 | [],_,_,p=>p
 | _::_,_,_,⟨j,h1,h2⟩=>⟨j,h _ h1,mh.ext h h2⟩
theorem mh.app {E:List Ed}: ∀{v w:List Nat} {i k:Nat},mh E i (v++w) k↔∃j,mh E i v j∧mh E j w k
 | [],w,i,k=>by simp[mh]
 | x::v,w,i,k=>by
  simp only[List.cons_append,mh]
  constructor
  ·rintro ⟨j,h1,h2⟩
   obtain ⟨m,h3,h4⟩:=mh.app.1 h2
   exact ⟨m,⟨j,h1,h3⟩,h4⟩
  ·rintro ⟨m,⟨j,h1,h3⟩,h4⟩
   exact ⟨j,h1,mh.app.2 ⟨m,h3,h4⟩⟩
theorem aqE {p x q p' x' q':Nat}:dV p x q=dV p' x' q'↔p=p'∧x=x'∧q=q':=by
 unfold dV
 simp only[Ed.mk.injEq]
 omega
theorem aqF {e:Ed} (h1:0≤e.f) (h2:0≤e.l) (h3:0≤e.t):e=dV e.f.toNat e.l.toNat e.t.toNat:=by
 unfold dV
 cases e
 simp only[Ed.mk.injEq] at*
 omega
theorem Um {E:List Ed} (hE: ∀e∈E,0≤e.f∧0≤e.l∧0≤e.t): ∀(w:List Nat) (s k:Nat),(w.foldl (sn E) s).testBit k=true↔∃i,s.testBit i=true∧mh E i w k
 | [],s,k=>by simp[mh]
 | x::w,s,k=>by
  rw[List.foldl_cons,Um hE w]
  constructor
  ·rintro ⟨j,h1,h2⟩
   unfold sn at h1
   rw[Eg,sN] at h1
   obtain ⟨e,he,h3⟩:=h1
   simp only[bn,dW] at h3
   obtain ⟨c1,c2,c3⟩:=hE e he
   refine ⟨e.f.toNat,h3.2.1,j,?_,h2⟩
   have:e=dV e.f.toNat x j:=by
    rw[aqF c1 c2 c3]
    rw[aqE]
    simp only[dV,Int.toNat_natCast]
    exact ⟨trivial,by omega,h3.2.2⟩
   exact this▸he
  ·rintro ⟨i,h1,j,h2,h3⟩
   refine ⟨j,?_,h3⟩
   unfold sn
   rw[Eg,sN]
   refine ⟨_,h2,?_⟩
   simp only[bn,dW,dV,Int.toNat_natCast]
   exact ⟨trivial,h1,trivial⟩
theorem aqG {fin s:Nat}:sf fin s=true↔∃k,s.testBit k=true∧fin.testBit k=true:=by
 unfold sf
 rw[oY,gu]
 constructor
 ·intro h
  obtain ⟨k,hk⟩:=Nat.exists_testBit_of_ne_zero h
  rw[BZ,bn] at hk
  exact ⟨k,hk⟩
 ·rintro ⟨k,h1,h2⟩ h0
  have:(s&&&fin).testBit k=true:=by rw[BZ,h1,h2];rfl
  rw[h0,Nat.zero_testBit] at this
  cases this
def GD (st fin:Nat) (l:List Ed) (w:List Nat):Prop:= ∃i k,st.testBit i=true∧fin.testBit k=true∧mh l i w k
section
variable {L S st fin:Nat} {l:List Ed} (h:rh L S st fin l)
include h
theorem aqH (hn: ¬gX (cR L S st fin l) L S):(dC (cR L S st fin l) L S).Ok:=by
 unfold dC
 rw[ag hn]
 exact mX (yq (n7 h) hn)
theorem aqI (hn: ¬gX (cR L S st fin l) L S):(dC (cR L S st fin l) L S).L=L:=by
 unfold dC
 rw[ag hn]
 exact hY (yq (n7 h) hn)
theorem aqJ (hn: ¬gX (cR L S st fin l) L S) {w:List Nat} (hw:WL L w):(dC (cR L S st fin l) L S).acc (dC (cR L S st fin l) L S).st w=true↔GD st fin l w:=by
 have az:=yq (n7 h) hn
 unfold dC
 rw[ag hn,aeh az hw,show (fx (cR L S st fin l) L S).st=0 from rfl,amx (n7 h) hw]
 show sf fin (w.foldl (sn (iQ l)) st)=true↔_
 have hE: ∀e∈iQ l,0≤e.f∧0≤e.l∧0≤e.t:=fun e he=>by
  have:=h.E e (pQ.1 he)
  unfold Ed.In at this
  exact ⟨this.1,this.2.2.2.2.1,this.2.2.1⟩
 rw[aqG]
 unfold GD
 constructor
 ·rintro ⟨k,h1,h2⟩
  obtain ⟨i,h3,h4⟩:=(Um hE w st k).1 h1
  exact ⟨i,k,h3,h2,h4.ext fun e he=>pQ.1 he⟩
 ·rintro ⟨i,k,h1,h2,h3⟩
  exact ⟨k,(Um hE w st k).2 ⟨i,h1,h3.ext fun e he=>pQ.2 he⟩,h2⟩
theorem aqK (hS:S≤9): ¬gX (cR L S st fin l) L S:=fun ho=>by
 have h1:=yp (n7 h) (2^S)
 have h2:2^S≤2^9:=o5 (by omega) hS
 have h3:(512:Nat)<(ao L (sn (cR L S st fin l).E) (cR L S st fin l).st (2^S)).length:=ho
 have h4:(2:Nat)^9=512:=by decide
 omega
end
noncomputable def GF (C:ab) (q t36 t37 t41 aM aT:Int) (aY aX:LV) (bf bh fv fw:Int) (bI bE br bt:LV) (t42 aH aD aJ aE:Int) (bH:LV) {β:Type} (kn:(Int × Int × Int × Int × Int × LV)→Option β) (kr:(Int × Bool × Int × Int × Int × Int × LV)→Option β):Option β:=
 bif decide ((t42:Int)<t41) then
  (C vp [V.int .i64 q,V.int .i64 t42,V.int .i64 q,V.int .i64 aH,V.int .i64 aD,.int .u64 aJ,.int .u64 aE,.list aL bH]).bind fun r4=>
  kn (IntKind.wrap .i64 (t42+1),(V.nth r4 0).toInt,(V.nth (r4.drop 1) 0).toInt,(V.nth ((r4.drop 1).drop 1) 0).toInt,(V.nth (((r4.drop 1).drop 1).drop 1) 0).toInt,(V.nth (r4.drop 4) 0).toList)
 else
  kr (t42,decide ((t42:Int)<t41),aH,aD,aJ,aE,bH)
noncomputable def Un (C:ab) (q t36 t37 t41 aM aT:Int) (aY aX:LV) (bf bh fv fw:Int) (bI bE br bt:LV):=un fun t42=>un fun aH=>un fun aD=>un fun aJ=>un fun aE bH=>GF C q t36 t37 t41 aM aT aY aX bf bh fv fw bI bE br bt t42 aH aD aJ aE bH (fun y=>some (Sum.inl y)) (fun r=>some (Sum.inr r))
noncomputable def GG (C:ab) (t36 aM aT:Int) (aY aX:LV) (bf bh fv fw:Int) (bI bE br bt:LV) (t37 aH aD aJ aE:Int) (bH:LV) {β:Type} (kn:(Int × Int × Int × Int × Int × LV)→Option β) (kr:(Int × Bool × Int × Int × Int × Int × LV)→Option β):Option β:=
 bif decide ((t37:Int)<t36) then
  (Loop (Un C t37 t36 t37 aM aM aT aY aX bf bh fv fw bI bE br bt) (0,aH,aD,aJ,aE,bH)).bind (un fun (lj:Int)=>un fun (oF:Bool)=>un fun (uv:Int)=>un fun (uw:Int)=>un fun (ux:Int)=>un fun (Uo:Int) (SO:LV)=>
   kn (IntKind.wrap .i64 (t37+1),uv,uw,ux,Uo,SO))
 else
  kr (t37,decide ((t37:Int)<t36),aH,aD,aJ,aE,bH)
noncomputable def Up (C:ab) (t36 aM aT:Int) (aY aX:LV) (bf bh fv fw:Int) (bI bE br bt:LV):=un fun t37=>un fun aH=>un fun aD=>un fun aJ=>un fun aE bH=>GG C t36 aM aT aY aX bf bh fv fw bI bE br bt t37 aH aD aJ aE bH (fun y=>some (Sum.inl y)) (fun r=>some (Sum.inr r))
noncomputable def ael (C:ab):bR:=bd 193 Py [false,false,false,false,true,false,false,false,false,false,false,false,false,true,true,true,true,false,false,false,false,true] [[1,2,3,4,0,0,6,7,8,9,10,11,12,13,0,0,0,0,18,19,20,21,0]] (@GF C) (bd 145 Pz [false,true,false,false,false,false,false,false,false,false,true,true,true,true,false,false,false,false,true] [[1,0,0,3,4,5,6,7,8,9,10,0,0,0,0,15,16,17,18,0]] (@GG C) bw)
theorem aqL (C:ab):aQ C (ael C) 13 (Lp [1,1,1,1,1,1,0,1,0,0,1,1,0,0,1,1,0,0] 13):=bc Py [false,false,false,false,true,false,false,false,false,false,false,false,false,true,true,true,true,false,false,false,false,true] [[1,2,3,4,0,0,6,7,8,9,10,11,12,13,0,0,0,0,18,19,20,21,0]] (@GF C) (aA ak)
theorem aqM (C:ab):aQ C (ael C) 13 (Lp [1,1,1,1,1,1,0,1,0,0] 13):=bc Pz [false,true,false,false,false,false,false,false,false,false,true,true,true,true,false,false,false,false,true] [[1,0,0,3,4,5,6,7,8,9,10,0,0,0,0,15,16,17,18,0]] (@GG C) (aA (aO (aqL C) ak))
noncomputable def Uq (C:ab) (aB aC:Int) (av aF:LV):Option LV:=
 (C qL [V.int .i64 aB,V.int .i64 aC,.list au av,.list ax aF]).bind fun r1=>
 bif (((V.nth (r1.drop 2) 0).toInt):Int) != 0 then
  some [V.int .i64 0,V.int .i64 0,V.int .i64 ((V.nth (r1.drop 2) 0).toInt),.list au ([]:LV),.list ax ([]:LV)]
 else
  (C xE [V.int .i64 aB,V.int .i64 (((V.nth (r1.drop 3) 0).toList).length:Int)]).bind fun r2=>
  bif (V.nth r2 0).toBool then
  some [V.int .i64 0,V.int .i64 0,V.int .i64 3,.list au ([]:LV),.list ax ([]:LV)]
  else
  (C Au [V.int .i64 ((V.nth r1 0).toInt),V.int .i64 ((V.nth (r1.drop 1) 0).toInt),.list au ((V.nth (r1.drop 3) 0).toList),.list ax ((V.nth ((r1.drop 3).drop 1) 0).toList),V.int .i64 0,V.int .i64 ((V.nth (r2.drop 1) 0).toInt),V.int .i64 ((V.nth ((r2.drop 1).drop 1) 0).toInt),.int .u64 ((V.nth (((r2.drop 1).drop 1).drop 1) 0).toInt),.int .u64 ((V.nth ((((r2.drop 1).drop 1).drop 1).drop 1) 0).toInt),.list aL ((V.nth ((r2.drop 1).drop 4) 0).toList)]).bind fun r3=>
  (Loop (Up C (((V.nth (r1.drop 3) 0).toList).length:Int) aB aC av aF 0 0 ((V.nth r1 0).toInt) ((V.nth (r1.drop 1) 0).toInt) ([]:LV) ([]:LV) ((V.nth (r1.drop 3) 0).toList) ((V.nth ((r1.drop 3).drop 1) 0).toList)) (0,(V.nth r3 0).toInt,(V.nth (r3.drop 1) 0).toInt,(V.nth ((r3.drop 1).drop 1) 0).toInt,(V.nth (((r3.drop 1).drop 1).drop 1) 0).toInt,(V.nth (r3.drop 4) 0).toList)).bind (un fun (vN:Int)=>un fun (pH:Bool)=>un fun (Ub:Int)=>un fun (Uc:Int)=>un fun (Ud:Int)=>un fun (aqN:Int) (ER:LV)=>
   (C xF [V.int .i64 ((V.nth (r1.drop 1) 0).toInt),V.int .i64 Ub,V.int .i64 Uc,.int .u64 Ud,.int .u64 aqN,.list aL ER]).bind fun fV=>
   (C xG [.list au ((V.nth (r1.drop 3) 0).toList),V.int .i64 0,V.int .i64 ((V.nth fV 0).toInt),V.int .i64 ((V.nth (fV.drop 1) 0).toInt),.int .u64 ((V.nth ((fV.drop 1).drop 1) 0).toInt),.int .u64 ((V.nth (((fV.drop 1).drop 1).drop 1) 0).toInt),.list aL ((V.nth (fV.drop 4) 0).toList)]).bind fun jL=>
   (C tI [V.int .i64 ((V.nth jL 0).toInt),V.int .i64 ((V.nth (jL.drop 1) 0).toInt),.int .u64 ((V.nth ((jL.drop 1).drop 1) 0).toInt),.int .u64 ((V.nth (((jL.drop 1).drop 1).drop 1) 0).toInt),.list aL ((V.nth (jL.drop 4) 0).toList)]).bind fun mU=>
   some [V.int .i64 ((V.nth mU 0).toInt),V.int .i64 ((V.nth (mU.drop 1) 0).toInt),V.int .i64 ((V.nth (mU.drop 2) 0).toInt),.list au ((V.nth ((mU.drop 3).drop 5) 0).toList),.list ax ((V.nth (((mU.drop 3).drop 5).drop 1) 0).toList)])
theorem aem {aB aC:Int} {av aF:LV} {r:Option LV} (h:Uq CC aB aC av aF=r):CC xD [V.int .i64 aB,V.int .i64 aC,.list au av,.list ax aF]=r:=bu (aO (aqM CC) ak) h
theorem Mh {p x q L S:Nat} (hp:p<S) (hx:x<L) (hq:q<S):(dV p x q).In (L:Int) (S:Int):=by unfold Ed.In dV;simp only;omega
theorem Mi {a:Da} (h:a.Ok) {off S:Nat} (hs:a.n+off≤S) {e:Ed} (he:e∈cx a off):e.In (a.L:Int) (S:Int):=by
 obtain ⟨p,x,hp,hx,rfl⟩:=aed.1 he
 have:=h.ej hp hx
 exact Mh (by omega) hx (by omega)
def gI (L n:Nat):List Ed:=fm n fun q=>tab L fun x=>dV q x q
theorem aqO {L n:Nat} {e:Ed}:e∈gI L n↔∃q x,q<n∧x<L∧e=dV q x q:=by
 unfold gI
 rw[Bz]
 constructor
 ·rintro ⟨p,hp,he⟩
  obtain ⟨x,hx,rfl⟩:=oJ.1 he
  exact ⟨p,x,hp,hx,rfl⟩
 ·rintro ⟨p,x,hp,hx,rfl⟩
  exact ⟨p,hp,oJ.2 ⟨x,hx,rfl⟩⟩
def p6 (m:Da):Nf:=cR m.L m.n (2^m.st) (cS 0 m.fin 0 m.n) (cx m 0++gI m.L m.n)
theorem GH {m:Da} (h:m.Ok) (hs:m.n≤64):rh m.L m.n (2^m.st) (cS 0 m.fin 0 m.n) (cx m 0++gI m.L m.n) where
 l1:=h.l1
 l6:=h.l6
 lX:=hs
 st:=gx (by omega) h.s
 fin:=p5 (sP _) (by omega)
 E:=fun e he=>by
  rcases eP.1 he with he|he
  ·exact Mi h (by omega) he
  ·obtain ⟨p,x,hp,hx,rfl⟩:=aqO.1 he
   exact Mh (by omega) hx (by omega)
 len:=by
  have h1:=mV h (off:=0) (n:=m.n)
  have h2:(gI m.L m.n).length≤m.n*6:=yY fun p _=>by rw[cL];exact h.l6
  rw[cX]
  unfold cx
  omega
section
variable {a:Da} (h:a.Ok)
include h
theorem aen (hs:(minD a).n≤64) {X:Da} {e:Int} {n:Nf} (hr:CC tI (aN (minD a).L (minD a).n (2^(minD a).st) (cS 0 (minD a).fin 0 (minD a).n) (cx (minD a) 0++gI (minD a).L (minD a).n))=some (TT X e n)):CC xD (cY a)=some (dB X e):=by
 have hm:=mX h
 have h6:=hm.l6
 have hL:=hY h
 have bP:=hm.s
 refine aem ?_
 unfold Uq
 refine bs (BB h) (bF rfl ?_)
 have e0:(V.nth ((dB (minD a) 0).drop 3) 0).toList=(minD a).cG:=rfl
 rw[e0,Da.mb]
 refine bs (Md hs) (bF rfl ?_)
 refine bs (Uk (l:=[]) hm (off:=0) (by omega) (by simp)) ?_
 rw[List.nil_append]
 have hlen:=mV hm (off:=0) (n:=(minD a).n)
 refine bs (hO (minD a).n (fun i=>((i:Int),(a.L:Int),((minD a).n:Int),((0:Nat):Int),((0:Nat):Int),(cx (minD a) 0++gI (minD a).L i).map Ed.enc)) (((minD a).n:Int),false,(a.L:Int),((minD a).n:Int),((0:Nat):Int),((0:Nat):Int),(cx (minD a) 0++gI (minD a).L (minD a).n).map Ed.enc) (by rw[show gI (minD a).L 0=[] from rfl,eY];rfl) (fun q hq=> ?_) ?_) ?_
 ·have qg:(gI (minD a).L q).length≤q*6:=yY fun p _=>by rw[cL];exact h6
  simp only[Up,GG,un]
  refine bT (cB hq) ?_
  refine bs (hO a.L (fun i=>((i:Int),(a.L:Int),((minD a).n:Int),((0:Nat):Int),((0:Nat):Int),((cx (minD a) 0++gI (minD a).L q)++tab i fun x=>dV q x q).map Ed.enc)) ((a.L:Int),false,(a.L:Int),((minD a).n:Int),((0:Nat):Int),((0:Nat):Int),((cx (minD a) 0++gI (minD a).L q)++tab (minD a).L fun x=>dV q x q).map Ed.enc) (by rw[ub,eY];rfl) (fun x hx=> ?_) ?_) ?_
  ·simp only[Un,GF,un]
   refine bT (cB hx) ?_
   refine bs (GB (by rw[cX,cX,cL];unfold cx;omega)) ?_
   rw[ca (by omega),iN,←db]
   rfl
  ·simp only[Un,GF,un]
   refine bF (bm (aw _)) ?_
   rw[bm (aw _),hL]
  ·simp only[un]
   rw[ca (by omega),show gI (minD a).L (q+1)=gI (minD a).L q++tab (minD a).L fun x=>dV q x q from sF,←db]
 ·simp only[Up,GG,un]
  refine bF (bm (aw _)) ?_
  rw[bm (aw _)]
 ·simp only[un]
  refine bs (Mc (q:=(minD a).st) (by omega) (by omega)) ?_
  refine bs (Me (n:=(minD a).n) (f:=(minD a).fin) (off:=0) (by omega) (by omega)) ?_
  rw[Nat.zero_or]
  rw[hL] at hr
  rw[hL]
  refine bs hr ?_
  rfl
theorem aqP (hs:(minD a).n≤64):CC xD (cY a)=some (dB (dC (p6 (minD a)) (minD a).L (minD a).n) (fy (p6 (minD a)) (minD a).L (minD a).n)):=
 aen h hs (L4 (GH (mX h) hs))
end
theorem aqQ {L S:Nat} {e:Ed} (h:e.In (L:Int) (S:Int)):0≤e.f∧0≤e.l∧0≤e.t:=by unfold Ed.In at h;omega
section
variable {m k:Da} (hm:m.Ok) (hk:k.Ok) (hL:m.L=k.L)
include hm hk hL
end
theorem aqR {q i:Nat}:(2^q).testBit i=true↔i=q:=by rw[qd,dW];exact eq_comm
section
variable {m k:Da} (hm:m.Ok) (hk:k.Ok) (hL:m.L=k.L)
include hm hk hL
end
inductive uy (K:List Nat→Prop):List Nat→Prop
 | nil:uy K []
 | app {u v:List Nat}:u≠[]→K u→uy K v→uy K (u++v)
section
variable {K:List Nat→Prop}
theorem uy.one {w:List Nat} (h:K w):uy K w:=by
 by_cases hw:w=[]
 ·rw[hw];exact .nil
 ·have:=uy.app hw h .nil
  rwa [eY] at this
theorem uy.ext {K2:List Nat→Prop} {L:Nat} (h: ∀u,WL L u→(K u↔K2 u)) {w:List Nat} (hw:WL L w):uy K w↔uy K2 w:=by
 constructor
 ·intro hr
  induction hr with
  | nil=>exact .nil
  | app g1 g2 _ ih=>exact .app g1 ((h _ (WL.app.1 hw).1).1 g2) (ih (WL.app.1 hw).2)
 ·intro hr
  induction hr with
  | nil=>exact .nil
  | app g1 g2 _ ih=>exact .app g1 ((h _ (WL.app.1 hw).1).2 g2) (ih (WL.app.1 hw).2)
end
def lr (m:Da):List Ed:=cx m 0++tab m.L fun x=>dV m.n x (m.nx m.st x)
def GI (m:Da):List Ed:=lr m++mW m.n m.fin m.st (lr m)
def Mj (m:Da):Nat:=cS (2^m.n) m.fin 0 m.n
def y4 (m:Da):Nf:=cR m.L (m.n+1) (2^m.n) (Mj m) (GI m)
def p7 (m:Da) (p:Nat):Nat:=if p=m.n then m.st else p
section
variable {m:Da} (hm:m.Ok)
include hm
theorem aeo {p:Nat} (hp:p≤m.n):p7 m p<m.n:=by
 have:=hm.s
 unfold p7;split<;>omega
theorem aep {e:Ed}:e∈lr m↔∃p x,p≤m.n∧x<m.L∧e=dV p x (m.nx (p7 m p) x):=by
 have hs:=hm.s
 unfold lr
 rw[eP,aed,oJ]
 constructor
 ·rintro (⟨p,x,hp,hx,rfl⟩|⟨x,hx,rfl⟩)
  ·refine ⟨p,x,by omega,hx,?_⟩
   unfold p7;rw[bK];rfl
  ·refine ⟨m.n,x,aw _,hx,?_⟩
   unfold p7;rw[af rfl]
 ·rintro ⟨p,x,hp,hx,rfl⟩
  by_cases h:p=m.n
  ·exact .inr ⟨x,hx,by unfold p7;rw[af h,h]⟩
  ·exact .inl ⟨p,x,by omega,hx,by unfold p7;rw[ag h];rfl⟩
theorem Ur {e:Ed} (he:e∈lr m):e.In (m.L:Int) ((m.n+1:Nat):Int):=by
 obtain ⟨p,x,hp,hx,rfl⟩:=(aep hm).1 he
 have:=hm.ej (aeo hm hp) hx
 exact Mh (by omega) hx (by omega)
theorem aqS {e:Ed} (he:e∈GI m):e.In (m.L:Int) ((m.n+1:Nat):Int):=by
 rcases eP.1 he with he|he
 ·exact Ur hm he
 ·obtain ⟨e',h1,h2,h3,rfl⟩:=aqz.1 he
  have:=Ur hm h1
  have:=hm.s
  unfold Ed.In at*
  simp only
  omega
theorem Us:(lr m).length≤(m.n+1)*6:=by
 have h1:=mV hm (off:=0) (n:=m.n)
 have h6:=hm.l6
 unfold lr
 rw[cX,cL]
 unfold cx
 omega
theorem Ut (hs:m.n+1≤64):rh m.L (m.n+1) (2^m.n) (Mj m) (GI m) where
 l1:=hm.l1
 l6:=hm.l6
 lX:=hs
 st:=gx (by omega) (by omega)
 fin:=p5 (gx (by omega) (by omega)) (by omega)
 E:=fun e he=>aqS hm he
 len:=by
  have h1:=Us hm
  have h3:=Mf (l:=lr m) (n:=m.n) (to:=m.st) (f:=m.fin)
  unfold GI
  rw[cX]
  omega
end
section
variable {m:Da} (hm:m.Ok)
include hm
end
def Ed.rev (e:Ed):Ed:=⟨e.t,e.l,e.f⟩
@[simp] theorem Ed.rev_rev (e:Ed):e.rev.rev=e:=rfl
theorem WL.rev {L:Nat} {w:List Nat} (h:WL L w):WL L w.reverse:=fun x hx=>h x (List.mem_reverse.1 hx)
def rl (m:Da):Nf:=cR m.L m.n (cS 0 m.fin 0 m.n) (2^m.st) ((cx m 0).map Ed.rev)
section
variable {m:Da} (hm:m.Ok)
include hm
theorem Uu (hs:m.n≤64):rh m.L m.n (cS 0 m.fin 0 m.n) (2^m.st) ((cx m 0).map Ed.rev) where
 l1:=hm.l1
 l6:=hm.l6
 lX:=hs
 st:=p5 (sP _) (by omega)
 fin:=gx (by omega) hm.s
 E:=fun e he=>by
  obtain ⟨e',h1,rfl⟩:=gf.1 he
  have:=Mi hm (off:=0) (S:=m.n) (by omega) h1
  unfold Ed.In at*
  simp only[Ed.rev]
  omega
 len:=by
  have h1:=mV hm (off:=0) (n:=m.n)
  rw[bX]
  unfold cx
  omega
end
def n9 (m:Da) (f:Nat→Bool):Nf:=cR m.L m.n (2^m.n-1) (cS 0 f 0 m.n) (cx m 0)
section
variable {m:Da} (hm:m.Ok)
include hm
theorem Mk (hs:m.n≤64) {f:Nat→Bool}:rh m.L m.n (2^m.n-1) (cS 0 f 0 m.n) (cx m 0) where
 l1:=hm.l1
 l6:=hm.l6
 lX:=hs
 st:=by have:=sP m.n;omega
 fin:=p5 (sP _) (by omega)
 E:=fun e he=>Mi hm (by omega) he
 len:=by
  have h1:=mV hm (off:=0) (n:=m.n)
  unfold cx
  omega
end
end Go.AM
set_option maxRecDepth 100000
namespace Go.AM
open Go.Proofs
namespace Da
end Da
structure rm (X:Da) (L:Nat) (K:List Nat→Prop):Prop where
 ok:X.Ok
 hL:X.L=L
 min:minD X=X
 nJ: ∀w,WL L w→(X.acc X.st w=true↔K w)
theorem rm.eq {X Y:Da} {L:Nat} {K K':List Nat→Prop} (h:rm X L K) (h':rm Y L K') (e: ∀w,WL L w→(K w↔K' w)):X=Y:=by
 rw[←h.min,←h'.min]
 refine aej h.ok h'.ok (h.hL.trans h'.hL.symm) fun w hw=> ?_
 have la:WL L w:=h.hL▸hw
 rw[od,h.nJ w la,h'.nJ w la,e w la]
theorem rm.ext {X:Da} {L:Nat} {K K':List Nat→Prop} (h:rm X L K) (e: ∀w,WL L w→(K w↔K' w)):rm X L K':=⟨h.ok,h.hL,h.min,fun w hw=>(h.nJ w hw).trans (e w hw)⟩
theorem rm.acc {X:Da} {L:Nat} {K:List Nat→Prop} (h:rm X L K) {w:List Nat} (hw:WL L w) {b:Bool} (e:K w↔b=true):X.acc X.st w=b:=by
 rw[od,h.nJ w hw,e]
section
variable {L S st fin:Nat} {l:List Ed} (h:rh L S st fin l)
include h
theorem aqT (hn: ¬gX (cR L S st fin l) L S):rm (dC (cR L S st fin l) L S) L (GD st fin l) where
 ok:=aqH h hn
 hL:=aqI h hn
 min:=by
  unfold dC
  rw[ag hn]
  exact aqD (yq (n7 h) hn)
 nJ:=fun _ hw=>aqJ h hn hw
theorem aqU (hn: ¬gX (cR L S st fin l) L S):(dC (cR L S st fin l) L S).n≤2^S:=by
 have h1:=aei (yq (n7 h) hn)
 have h2:=yp (n7 h) (2^S)
 have h3:(fx (cR L S st fin l) L S).n=(eN (cR L S st fin l) L S).length:=mK
 unfold dC
 rw[ag hn]
 unfold eN at h3
 omega
theorem aeq:(fy (cR L S st fin l) L S=0∧rm (dC (cR L S st fin l) L S) L (GD st fin l)∧(dC (cR L S st fin l) L S).n≤2^S)∨(fy (cR L S st fin l) L S=3∧dC (cR L S st fin l) L S=zD∧9<S):=by
 by_cases hn:gX (cR L S st fin l) L S
 ·refine .inr ⟨af hn,af hn,?_⟩
  rcases eD 9 S with c|c
  ·exact c
  ·exact absurd hn (aqK h c)
 ·exact .inl ⟨ag hn,aqT h hn,aqU h hn⟩
theorem BD:CC tL (fY (dC (cR L S st fin l) L S) (cY (dC (cR L S st fin l) L S)))=some [.bool true]:=by
 rcases aeq h with ⟨_,h2,_⟩|⟨_,h2,_⟩
 ·exact h2.ok.same
 ·rw[h2];exact adR
end
def aer (r:Option (List V)) (L S:Nat) (K:List Nat→Prop):Prop:=(∃X,r=some (dB X 0)∧rm X L K∧X.n≤2^S)∨(r=some (dB zD 3)∧9<S)
theorem aer.of {L S st fin:Nat} {l:List Ed} (h:rh L S st fin l) {r:Option (List V)} (e:r=some (dB (dC (cR L S st fin l) L S) (fy (cR L S st fin l) L S))) {K:List Nat→Prop} (hK: ∀w,WL L w→(GD st fin l w↔K w)):aer r L S K:=by
 rcases aeq h with ⟨h1,h2,h3⟩|⟨h1,h2,h3⟩
 ·exact .inl ⟨_,by rw[e,h1],h2.ext hK,h3⟩
 ·exact .inr ⟨by rw[e,h1,h2],h3⟩
end Go.AM
set_option maxRecDepth 100000
namespace Go.AM
open Go.Proofs
noncomputable def GJ (C:ab) (s:Int) (t42:LV) (t43 bf bh fv fw:Int) (cz bI bE br:LV) (t44 aH aD aJ aE:Int) (bt:LV) {β:Type} (kn:(Int × Int × Int × Int × Int × LV)→Option β) (kr:(Int × Bool × Int × Int × Int × Int × LV)→Option β):Option β:=
 bif decide ((t44:Int)<t43) then
  (idx t42 t44).bind fun x5=>
  (C vp [V.int .i64 s,V.int .i64 t44,V.int .i64 x5.toInt,V.int .i64 aH,V.int .i64 aD,.int .u64 aJ,.int .u64 aE,.list aL bt]).bind fun r6=>
  kn (IntKind.wrap .i64 (t44+1),(V.nth r6 0).toInt,(V.nth (r6.drop 1) 0).toInt,(V.nth ((r6.drop 1).drop 1) 0).toInt,(V.nth (((r6.drop 1).drop 1).drop 1) 0).toInt,(V.nth (r6.drop 4) 0).toList)
 else
  kr (t44,decide ((t44:Int)<t43),aH,aD,aJ,aE,bt)
noncomputable def Uv (C:ab) (s:Int) (t42:LV) (t43 bf bh fv fw:Int) (cz bI bE br:LV):=un fun t44=>un fun aH=>un fun aD=>un fun aJ=>un fun aE bt=>GJ C s t42 t43 bf bh fv fw cz bI bE br t44 aH aD aJ aE bt (fun y=>some (Sum.inl y)) (fun r=>some (Sum.inr r))
noncomputable def aqV (C:ab):bR:=bd 161 Pu [false,false,false,true,false,false,false,false,true,true,true,true,false,false,false,false,true] [[1,2,3,0,0,5,6,7,8,0,0,0,0,13,14,15,16,0]] (@GJ C) bw
theorem aqW (C:ab):aQ C (aqV C) 6 (Lp [1,1,1,1,1,1,1,0,1,0,0] 6):=bc Pu [false,false,false,true,false,false,false,false,true,true,true,true,false,false,false,false,true] [[1,2,3,0,0,5,6,7,8,0,0,0,0,13,14,15,16,0]] (@GJ C) (aA ak)
noncomputable def Uw (C:ab) (aB aC:Int) (av aF:LV):Option LV:=
 (C qL [V.int .i64 aB,V.int .i64 aC,.list au av,.list ax aF]).bind fun r1=>
 bif (((V.nth (r1.drop 2) 0).toInt):Int) != 0 then
  some [V.int .i64 0,V.int .i64 0,V.int .i64 ((V.nth (r1.drop 2) 0).toInt),.list au ([]:LV),.list ax ([]:LV)]
 else
  (C xE [V.int .i64 aB,V.int .i64 (IntKind.wrap .i64 ((((V.nth (r1.drop 3) 0).toList).length:Int)+1))]).bind fun r2=>
  bif (V.nth r2 0).toBool then
  some [V.int .i64 0,V.int .i64 0,V.int .i64 3,.list au ([]:LV),.list ax ([]:LV)]
  else
  (C Au [V.int .i64 ((V.nth r1 0).toInt),V.int .i64 ((V.nth (r1.drop 1) 0).toInt),.list au ((V.nth (r1.drop 3) 0).toList),.list ax ((V.nth ((r1.drop 3).drop 1) 0).toList),V.int .i64 0,V.int .i64 ((V.nth (r2.drop 1) 0).toInt),V.int .i64 ((V.nth ((r2.drop 1).drop 1) 0).toInt),.int .u64 ((V.nth (((r2.drop 1).drop 1).drop 1) 0).toInt),.int .u64 ((V.nth ((((r2.drop 1).drop 1).drop 1).drop 1) 0).toInt),.list aL ((V.nth ((r2.drop 1).drop 4) 0).toList)]).bind fun r3=>
  ar ((V.nth ((r1.drop 3).drop 1) 0).toList) ((V.nth (r1.drop 1) 0).toInt) fun x4=>
  (Loop (Uv C (((V.nth (r1.drop 3) 0).toList).length:Int) x4.toList (x4.toList.length:Int) 0 0 ((V.nth r1 0).toInt) ((V.nth (r1.drop 1) 0).toInt) ([]:LV) ([]:LV) ((V.nth (r1.drop 3) 0).toList) ((V.nth ((r1.drop 3).drop 1) 0).toList)) (0,(V.nth r3 0).toInt,(V.nth (r3.drop 1) 0).toInt,(V.nth ((r3.drop 1).drop 1) 0).toInt,(V.nth (((r3.drop 1).drop 1).drop 1) 0).toInt,(V.nth (r3.drop 4) 0).toList)).bind (un fun (jE:Int)=>un fun (mJ:Bool)=>un fun (ux:Int)=>un fun (Uo:Int)=>un fun (Ux:Int)=>un fun (Ui:Int) (vL:LV)=>
   (C Ju [.list au ((V.nth (r1.drop 3) 0).toList),V.int .i64 ((V.nth (r1.drop 1) 0).toInt),V.int .i64 ux,V.int .i64 Uo,.int .u64 Ux,.int .u64 Ui,.list aL vL]).bind fun kO=>
   (C xF [V.int .i64 (((V.nth (r1.drop 3) 0).toList).length:Int),V.int .i64 ((V.nth kO 0).toInt),V.int .i64 ((V.nth (kO.drop 1) 0).toInt),.int .u64 ((V.nth ((kO.drop 1).drop 1) 0).toInt),.int .u64 ((V.nth (((kO.drop 1).drop 1).drop 1) 0).toInt),.list aL ((V.nth (kO.drop 4) 0).toList)]).bind fun fe=>
   (C DL [V.int .i64 (((V.nth (r1.drop 3) 0).toList).length:Int),V.int .i64 ((V.nth fe 0).toInt),V.int .i64 ((V.nth (fe.drop 1) 0).toInt),.int .u64 ((V.nth ((fe.drop 1).drop 1) 0).toInt),.int .u64 ((V.nth (((fe.drop 1).drop 1).drop 1) 0).toInt),.list aL ((V.nth (fe.drop 4) 0).toList)]).bind fun iw=>
   (C xG [.list au ((V.nth (r1.drop 3) 0).toList),V.int .i64 0,V.int .i64 ((V.nth iw 0).toInt),V.int .i64 ((V.nth (iw.drop 1) 0).toInt),.int .u64 ((V.nth ((iw.drop 1).drop 1) 0).toInt),.int .u64 ((V.nth (((iw.drop 1).drop 1).drop 1) 0).toInt),.list aL ((V.nth (iw.drop 4) 0).toList)]).bind fun eO=>
   (C tI [V.int .i64 ((V.nth eO 0).toInt),V.int .i64 ((V.nth (eO.drop 1) 0).toInt),.int .u64 ((V.nth ((eO.drop 1).drop 1) 0).toInt),.int .u64 ((V.nth (((eO.drop 1).drop 1).drop 1) 0).toInt),.list aL ((V.nth (eO.drop 4) 0).toList)]).bind fun pU=>
   some [V.int .i64 ((V.nth pU 0).toInt),V.int .i64 ((V.nth (pU.drop 1) 0).toInt),V.int .i64 ((V.nth (pU.drop 2) 0).toInt),.list au ((V.nth ((pU.drop 3).drop 5) 0).toList),.list ax ((V.nth (((pU.drop 3).drop 5).drop 1) 0).toList)])
theorem aes {aB aC:Int} {av aF:LV} {r:Option LV} (h:Uw CC aB aC av aF=r):CC DE [V.int .i64 aB,V.int .i64 aC,.list au av,.list ax aF]=r:=bu (aO (aqW CC) ak) h
section
variable {a:Da} (h:a.Ok)
include h
theorem aqX (hs:(minD a).n+1≤64):CC DE (cY a)=some (dB (dC (y4 (minD a)) a.L ((minD a).n+1)) (fy (y4 (minD a)) a.L ((minD a).n+1))):=by
 have hm:=mX h
 have h6:=hm.l6
 have hL:=hY h
 have bP:=hm.s
 have hr:=L4 (Ut hm hs)
 refine aes ?_
 unfold Uw
 refine bs (BB h) (bF rfl ?_)
 have e0:(V.nth ((dB (minD a) 0).drop 3) 0).toList=(minD a).cG:=rfl
 have e1:(V.nth (((dB (minD a) 0).drop 3).drop 1) 0).toList=(minD a).cd:=rfl
 have e2:(V.nth ((dB (minD a) 0).drop 1) 0).toInt=((minD a).st:Int):=rfl
 rw[e0,e1,e2,Da.mb,ca (by omega)]
 refine bs (Md hs) (bF rfl ?_)
 refine bs (Uk (l:=[]) hm (off:=0) (by omega) (by simp)) ?_
 rw[List.nil_append]
 refine (dt (i:=(minD a).st) bP).trans ?_
 rw[show (eX (minD a).L ((minD a).nx (minD a).st)).toList=tab (minD a).L fun x=>nV ((minD a).nx (minD a).st x) from rfl,cL]
 have hlen:=mV hm (off:=0) (n:=(minD a).n)
 refine bs (hO (minD a).L (fun i=>((i:Int),(a.L:Int),(((minD a).n+1:Nat):Int),((0:Nat):Int),((0:Nat):Int),(cx (minD a) 0++tab i fun x=>dV (minD a).n x ((minD a).nx (minD a).st x)).map Ed.enc)) (((minD a).L:Int),false,(a.L:Int),(((minD a).n+1:Nat):Int),((0:Nat):Int),((0:Nat):Int),(lr (minD a)).map Ed.enc) (by rw[ub,eY];rfl) (fun x hx=> ?_) ?_) ?_
 ·simp only[Uv,GJ,un]
  refine bT (cB hx) ?_
  refine bs (j9 hx) ?_
  rw[show (nV ((minD a).nx (minD a).st x)).toInt=(((minD a).nx (minD a).st x:Nat):Int) from rfl]
  refine bs (GB (by rw[cX,cL];unfold cx;omega)) ?_
  rw[ca (by omega),iN,←db]
  rfl
 ·simp only[Uv,GJ,un]
  refine bF (bm (aw _)) ?_
  rw[bm (aw _)]
  rfl
 ·simp only[un]
  have p1:(2:Nat)^(minD a).n<2^64:=gx (by omega) (by omega)
  have l1:=Us hm
  refine bs (aqA (n:=(minD a).n) (f:=(minD a).fin) (fun e he=>aqQ (Ur hm he)) (by omega) (by omega)) ?_
  refine bs (Mc (q:=(minD a).n) (by omega) (by omega)) ?_
  refine bs (aec (q:=(minD a).n) (by omega) (by omega)) ?_
  rw[Nat.zero_or]
  refine bs (Me (n:=(minD a).n) (f:=(minD a).fin) (off:=0) (by omega) p1) ?_
  rw[hL] at hr
  refine bs hr ?_
  show _=some (dB (dC (cR (minD a).L _ _ _ _) a.L _) (fy (cR (minD a).L _ _ _ _) a.L _))
  rw[hL]
  rfl
end
theorem aqY {d:Df} (h:d.Ok) (hv:d.val≠0):CC DE (lx d [])=some (dB zD d.val):=by
 refine aes ?_
 unfold Uw
 refine bs (BC h hv) (bT (by simpa[dB] using hv) ?_)
 rfl
end Go.AM
set_option maxRecDepth 100000
namespace Go.AM
open Go.Proofs
namespace Da
def rn (a:Da) (f:Nat→Bool):Da:=⟨a.L,a.st,tab a.n f,a.N⟩
def p8 (a:Da) (s:Nat):Da:=⟨a.L,s,a.F,a.N⟩
def pre (a:Da) (k:Nat) (g:Nat→List Nat):Da:=⟨k,a.st,a.F,tab a.n fun q=>tab k fun x=>a.run q (g x)⟩
theorem uz {a:Da} {f:Nat→Bool}:(a.rn f).n=a.n:=by simp[rn,n]
theorem aet {a:Da} {f:Nat→Bool} {q:Nat} (h:q<a.n):(a.rn f).fin q=f q:=by
 show (tab a.n f).getD q false=f q
 exact ua h
theorem Ok.rn {a:Da} (h:a.Ok) {f:Nat→Bool}:(a.rn f).Ok:=⟨h.l1,h.l6,by rw[uz];exact h.nN,fun r hr=>by rw[uz];exact h.row r hr,by rw[uz];exact h.s,by rw[uz];exact h.fc⟩
theorem Ok.p8 {a:Da} (h:a.Ok) {s:Nat} (hs:s<a.n):(a.p8 s).Ok:=⟨h.l1,h.l6,h.nN,h.row,hs,h.fc⟩
theorem aqZ {a:Da} {f:Nat→Bool}:(a.rn f).cG=bV a.n f:=by
 unfold cG bV
 rw[uz]
 exact dZ fun q hq=>by rw[aet hq]
theorem aq0 {a:Da} {f:Nat→Bool}:(a.rn f).cd=a.cd:=by unfold cd;rw[uz];rfl
theorem Ok.pre {a:Da} (h:a.Ok) {k:Nat} {g:Nat→List Nat} (h1:1≤k) (h6:k≤6) (hg: ∀x,x<k→WL a.L (g x)):(a.pre k g).Ok:=⟨h1,h6,by simp[Da.pre,n],fun r hr=>by
 obtain ⟨q,hq,rfl⟩:=oJ.1 hr
 refine ⟨by simp[Da.pre],fun s hs=> ?_⟩
 obtain ⟨x,hx,rfl⟩:=oJ.1 hs
 exact h.AG _ hq (hg x hx),h.s,h.fc⟩
end Da
end Go.AM
set_option maxRecDepth 100000
namespace Go.AM
open Go.Proofs
noncomputable def GK (C:ab) (final:LV) (t27 Uy Uz:Int) (di cz:LV) (t28 aH aD aJ aE:Int) (bI:LV) {β:Type} (kn:(Int × Int × Int × Int × Int × LV)→Option β) (kr:(Int × Bool × Int × Int × Int × Int × LV)→Option β):Option β:=
 bif decide ((t28:Int)<t27) then
  (C xF [V.int .i64 t28,V.int .i64 aH,V.int .i64 aD,.int .u64 aJ,.int .u64 aE,.list aL bI]).bind fun r3=>
  kn (IntKind.wrap .i64 (t28+1),(V.nth r3 0).toInt,(V.nth (r3.drop 1) 0).toInt,(V.nth ((r3.drop 1).drop 1) 0).toInt,(V.nth (((r3.drop 1).drop 1).drop 1) 0).toInt,(V.nth (r3.drop 4) 0).toList)
 else
  kr (t28,decide ((t28:Int)<t27),aH,aD,aJ,aE,bI)
noncomputable def UA (C:ab) (final:LV) (t27 Uy Uz:Int) (di cz:LV):=un fun t28=>un fun aH=>un fun aD=>un fun aJ=>un fun aE bI=>GK C final t27 Uy Uz di cz t28 aH aD aJ aE bI (fun y=>some (Sum.inl y)) (fun r=>some (Sum.inr r))
noncomputable def aq1 (C:ab):bR:=bd 97 P1 [false,false,true,false,false,true,true,true,true,false,false,true] [[1,2,0,0,4,5,0,0,0,0,10,11,0]] (@GK C) bw
theorem aq2 (C:ab):aQ C (aq1 C) 38 (Lp [1,1,1,1,0,1,0,0] 38):=bc P1 [false,false,true,false,false,true,true,true,true,false,false,true] [[1,2,0,0,4,5,0,0,0,0,10,11,0]] (@GK C) (aA ak)
noncomputable def aeu (C:ab) (GL Ml:Int) (BE Mm final:LV):Option LV:=
 (C xE [V.int .i64 GL,V.int .i64 (BE.length:Int)]).bind fun r1=>
 bif (V.nth r1 0).toBool then
  some [V.int .i64 0,V.int .i64 0,V.int .i64 3,.list au ([]:LV),.list ax ([]:LV)]
 else
  (C Au [V.int .i64 GL,V.int .i64 Ml,.list au BE,.list ax Mm,V.int .i64 0,V.int .i64 ((V.nth (r1.drop 1) 0).toInt),V.int .i64 ((V.nth ((r1.drop 1).drop 1) 0).toInt),.int .u64 ((V.nth (((r1.drop 1).drop 1).drop 1) 0).toInt),.int .u64 ((V.nth ((((r1.drop 1).drop 1).drop 1).drop 1) 0).toInt),.list aL ((V.nth ((r1.drop 1).drop 4) 0).toList)]).bind fun r2=>
  (Loop (UA C final (BE.length:Int) 0 0 ([]:LV) ([]:LV)) (0,(V.nth r2 0).toInt,(V.nth (r2.drop 1) 0).toInt,(V.nth ((r2.drop 1).drop 1) 0).toInt,(V.nth (((r2.drop 1).drop 1).drop 1) 0).toInt,(V.nth (r2.drop 4) 0).toList)).bind (un fun (jh:Int)=>un fun (lj:Bool)=>un fun (sE:Int)=>un fun (uv:Int)=>un fun (uw:Int)=>un fun (ux:Int) (vO:LV)=>
   (C xG [.list au final,V.int .i64 0,V.int .i64 sE,V.int .i64 uv,.int .u64 uw,.int .u64 ux,.list aL vO]).bind fun mf=>
   (C tI [V.int .i64 ((V.nth mf 0).toInt),V.int .i64 ((V.nth (mf.drop 1) 0).toInt),.int .u64 ((V.nth ((mf.drop 1).drop 1) 0).toInt),.int .u64 ((V.nth (((mf.drop 1).drop 1).drop 1) 0).toInt),.list aL ((V.nth (mf.drop 4) 0).toList)]).bind fun fg=>
   some [V.int .i64 ((V.nth fg 0).toInt),V.int .i64 ((V.nth (fg.drop 1) 0).toInt),V.int .i64 ((V.nth (fg.drop 2) 0).toInt),.list au ((V.nth ((fg.drop 3).drop 5) 0).toList),.list ax ((V.nth (((fg.drop 3).drop 5).drop 1) 0).toList)])
theorem aq3 {GL Ml:Int} {BE Mm final:LV} {r:Option LV} (h:aeu CC GL Ml BE Mm final=r):CC xH [V.int .i64 GL,V.int .i64 Ml,.list au BE,.list ax Mm,.list au final]=r:=bu (aO (aq2 CC) ak) h
noncomputable def UB (C:ab) (aB aC:Int) (av aF:LV):Option LV:=
 (C qL [V.int .i64 aB,V.int .i64 aC,.list au av,.list ax aF]).bind fun r1=>
 bif (((V.nth (r1.drop 2) 0).toInt):Int) != 0 then
  some [V.int .i64 0,V.int .i64 0,V.int .i64 ((V.nth (r1.drop 2) 0).toInt),.list au ([]:LV),.list ax ([]:LV)]
 else
  (C xH [V.int .i64 ((V.nth r1 0).toInt),V.int .i64 ((V.nth (r1.drop 1) 0).toInt),.list au ((V.nth (r1.drop 3) 0).toList),.list ax ((V.nth ((r1.drop 3).drop 1) 0).toList),.list au ((V.nth (r1.drop 3) 0).toList)]).bind fun r2=>
  some [V.int .i64 ((V.nth r2 0).toInt),V.int .i64 ((V.nth (r2.drop 1) 0).toInt),V.int .i64 ((V.nth (r2.drop 2) 0).toInt),.list au ((V.nth (r2.drop 3) 0).toList),.list ax ((V.nth ((r2.drop 3).drop 1) 0).toList)]
theorem aev {aB aC:Int} {av aF:LV} {r:Option LV} (h:UB CC aB aC av aF=r):CC DG [V.int .i64 aB,V.int .i64 aC,.list au av,.list ax aF]=r:=bu (L:=bw) ak h
noncomputable def UC (C:ab) (aB aC:Int) (av aF:LV):Option LV:=
 (C qL [V.int .i64 aB,V.int .i64 aC,.list au av,.list ax aF]).bind fun r1=>
 bif (((V.nth (r1.drop 2) 0).toInt):Int) != 0 then
  some [V.int .i64 0,V.int .i64 0,V.int .i64 ((V.nth (r1.drop 2) 0).toInt),.list au ([]:LV),.list ax ([]:LV)]
 else
  (C DO [V.int .i64 ((V.nth r1 0).toInt),V.int .i64 ((V.nth (r1.drop 1) 0).toInt),.list au ((V.nth (r1.drop 3) 0).toList),.list ax ((V.nth ((r1.drop 3).drop 1) 0).toList)]).bind fun r2=>
  (C xH [V.int .i64 ((V.nth r1 0).toInt),V.int .i64 ((V.nth (r1.drop 1) 0).toInt),.list au ((V.nth (r1.drop 3) 0).toList),.list ax ((V.nth ((r1.drop 3).drop 1) 0).toList),.list au ((V.nth r2 0).toList)]).bind fun r3=>
  some [V.int .i64 ((V.nth r3 0).toInt),V.int .i64 ((V.nth (r3.drop 1) 0).toInt),V.int .i64 ((V.nth (r3.drop 2) 0).toInt),.list au ((V.nth (r3.drop 3) 0).toList),.list ax ((V.nth ((r3.drop 3).drop 1) 0).toList)]
theorem aew {aB aC:Int} {av aF:LV} {r:Option LV} (h:UC CC aB aC av aF=r):CC DH [V.int .i64 aB,V.int .i64 aC,.list au av,.list ax aF]=r:=bu (L:=bw) ak h
theorem aq4 (i:Nat):(2^i-1)|||2^i=2^(i+1)-1:=by
 refine uI fun j=> ?_
 rw[o0,wq,qd,wq,od]
 simp only[qc,dW]
 omega
theorem aex {m:Da} (hm:m.Ok) (hs:m.n≤64) {f:Nat→Bool}:CC xH (fY m [.list au (bV m.n f)])=some (dB (dC (n9 m f) m.L m.n) (fy (n9 m f) m.L m.n)):=by
 have hlen:=mV hm (off:=0) (n:=m.n)
 refine aq3 ?_
 unfold aeu
 rw[Da.mb]
 refine bs (Md hs) (bF rfl ?_)
 refine bs (Uk (l:=[]) hm (off:=0) (by omega) (by simp)) ?_
 rw[List.nil_append]
 refine bs (hO m.n (fun i=>((i:Int),(m.L:Int),(m.n:Int),((2^i-1:Nat):Int),((0:Nat):Int),(cx m 0).map Ed.enc)) ((m.n:Int),false,(m.L:Int),(m.n:Int),((2^m.n-1:Nat):Int),((0:Nat):Int),(cx m 0).map Ed.enc) rfl (fun q hq=> ?_) ?_) ?_
 ·have hp:(2:Nat)^q<2^64:=gx (by omega) (by omega)
  simp only[UA,GK,un]
  refine bT (cB hq) ?_
  refine bs (Mc (q:=q) (by omega) (by omega)) ?_
  rw[ca (by omega),aq4]
  rfl
 ·simp only[UA,GK,un]
  refine bF (bm (aw _)) ?_
  rw[bm (aw _)]
 ·simp only[un]
  refine bs (Me (n:=m.n) (f:=f) (off:=0) (by omega) (by omega)) ?_
  refine bs (L4 (Mk hm hs)) ?_
  rfl
section
variable {a:Da} (h:a.Ok)
include h
theorem aq5 {r:Da} {e:Int} (hr:CC xH (fY (minD a) [.list au (bV (minD a).n (minD a).fin)])=some (dB r e)):CC DG (cY a)=some (dB r e):=by
 refine aev ?_
 unfold UB
 refine bs (BB h) (bF rfl ?_)
 refine bs hr ?_
 rfl
theorem aq6 {r:Da} {e:Int} (hr:CC xH (fY (minD a) [.list au (bV (minD a).n (minD a).fp)])=some (dB r e)):CC DH (cY a)=some (dB r e):=by
 refine aew ?_
 unfold UC
 refine bs (BB h) (bF rfl ?_)
 refine bs (ad1 (mX h)) ?_
 refine bs hr ?_
 rfl
end
section
variable {d:Df} (h:d.Ok) (hv:d.val≠0)
include h hv
theorem aq7:CC DG (lx d [])=some (dB zD d.val):=by
 refine aev ?_
 unfold UB
 refine bs (BC h hv) (bT (by simpa[dB] using hv) ?_)
 rfl
theorem aq8:CC DH (lx d [])=some (dB zD d.val):=by
 refine aew ?_
 unfold UC
 refine bs (BC h hv) (bT (by simpa[dB] using hv) ?_)
 rfl
theorem aq9:CC xD (lx d [])=some (dB zD d.val):=by
 refine aem ?_
 unfold Uq
 refine bs (BC h hv) (bT (by simpa[dB] using hv) ?_)
 rfl
end
noncomputable def GM (C:ab) (t14:LV) (t15 t16:Int) (cs:LV) {β:Type} (kn:(Int × LV)→Option β) (kr:(Int × Bool × LV)→Option β):Option β:=
 bif decide ((t16:Int)<t15) then
  (idx t14 t16).bind fun x2=>
  bif decide (0≤t16) then
  ar cs t16 fun x3=>
  kn (IntKind.wrap .i64 (t16+1),aS cs t16 (.int .u64 (IntKind.wrap .u64 ((BitVec.ofInt (IntKind.bits .u64) x2.toInt|||BitVec.ofInt (IntKind.bits .u64) (IntKind.wrap .u64 (1*2^(min t16.toNat (IntKind.bits .u64))))).toNat))))
  else none
 else
  kr (t16,decide ((t16:Int)<t15),cs)
noncomputable def GN (C:ab) (t14:LV) (t15:Int):=un fun t16 cs=>GM C t14 t15 t16 cs (fun y=>some (Sum.inl y)) (fun r=>some (Sum.inr r))
noncomputable def GO (C:ab) (k' t30 t31 t35 t36:Int) (cs:LV) {β:Type} (kn:(Int × LV)→Option β) (kr:(Int × Bool × LV)→Option β):Option β:=
 bif decide ((t36:Int)<t35) then
  ar cs t36 fun x7=>
  bif decide (0≤k') then
  bif ((IntKind.wrap .u64 ((BitVec.ofInt (IntKind.bits .u64) (Int.fdiv x7.toInt (2^(min k'.toNat (IntKind.bits .u64))))&&&BitVec.ofInt (IntKind.bits .u64) 1).toNat)):Int)==1 then
   ar cs t36 fun x8=>
   ar cs k' fun x9=>
   ar cs t36 fun j8=>
   kn (IntKind.wrap .i64 (t36+1),aS cs t36 (.int .u64 (IntKind.wrap .u64 ((BitVec.ofInt (IntKind.bits .u64) x8.toInt|||BitVec.ofInt (IntKind.bits .u64) x9.toInt).toNat))))
  else
   kn (IntKind.wrap .i64 (t36+1),cs)
  else none
 else
  kr (t36,decide ((t36:Int)<t35),cs)
noncomputable def GP (C:ab) (k' t30 t31 t35:Int):=un fun t36 cs=>GO C k' t30 t31 t35 t36 cs (fun y=>some (Sum.inl y)) (fun r=>some (Sum.inr r))
noncomputable def GQ (C:ab) (t30 t31:Int) (cs:LV) {β:Type} (kn:(Int × LV)→Option β) (kr:(Int × Bool × LV)→Option β):Option β:=
 bif decide ((t31:Int)<t30) then
  (Loop (GP C t31 t30 t31 (cs.length:Int)) (0,cs)).bind (un fun (uj:Int)=>un fun (vN:Bool) (ara:LV)=>
   kn (IntKind.wrap .i64 (t31+1),ara))
 else
  kr (t31,decide ((t31:Int)<t30),cs)
noncomputable def GR (C:ab) (t30:Int):=un fun t31 cs=>GQ C t30 t31 cs (fun y=>some (Sum.inl y)) (fun r=>some (Sum.inr r))
noncomputable def UD (C:ab):bR:=bd 81 P9 [false,false,true,true] [[1,2,0,0,0]] (@GM C) (bd 209 Qa [false,false,false,false,true,true] [[1,2,3,4,0,0,0]] (@GO C) (bd 161 Qb [false,true,true] [[1,0,0,0]] (@GQ C) bw))
theorem arb (C:ab):aQ C (UD C) 42 (Lp [1,1,1,0,1,0,0] 42):=bc P9 [false,false,true,true] [[1,2,0,0,0]] (@GM C) (aA ak)
theorem arc (C:ab):aQ C (UD C) 42 (Lp [1,1,1,1,0,1,0,0,1,1,0,0,1,1,0,0] 42):=bc Qa [false,false,false,false,true,true] [[1,2,3,4,0,0,0]] (@GO C) (aA ak)
theorem ard (C:ab):aQ C (UD C) 42 (Lp [1,1,1,1,0,1,0,0] 42):=bc Qb [false,true,true] [[1,0,0,0]] (@GQ C) (aA (aO (arc C) ak))
noncomputable def aey (C:ab) (r':LV):Option LV:=
 (C DV [.list cp r']).bind fun r1=>
 bif !((V.nth r1 0).toBool) then
  some [.list cp ([]:LV)]
 else
  bif (decide (0≤(r'.length:Int)))&&((decide ((r'.length:Int)≤(r'.length:Int)))&&(Nat.ble ((((r'.length:Int):Int).toNat)*8) bM)) then
  (Loop (GN C r' (r'.length:Int)) (0,List.replicate (((r'.length:Int):Int).toNat) (V.int .u64 0))).bind (un fun (jh:Int)=>un fun (lj:Bool) (aez:LV)=>
   (Loop (GR C (aez.length:Int)) (0,aez)).bind (un fun (sm:Int)=>un fun (Li:Bool) (are:LV)=>
    some [.list cp are]))
  else none
theorem arf {r':LV} {r:Option LV} (h:aey CC r'=r):CC Jy [.list cp r']=r:=bu (aO (arb CC) (aO (ard CC) ak)) h
end Go.AM
set_option maxRecDepth 100000
set_option maxHeartbeats 1000000
namespace Go.AM
open Go.Proofs
def Bt (c:List Nat) (i j:Nat):Prop:=(c.getD i 0).testBit j=true
def oQ (k:Nat) (c:List Nat) (i:Nat):List Nat:=if (c.getD i 0).testBit k=true then c.set i (c.getD i 0|||c.getD k 0) else c
def sG (c:List Nat) (k:Nat):List Nat:=(List.range c.length).foldl (oQ k) c
theorem arh (k:Nat) (c:List Nat) (i:Nat):oQ k c i=if (c.getD i 0).testBit k=true then c.set i (c.getD i 0|||c.getD k 0) else c:=rfl
theorem Mn (k:Nat) (c:List Nat) (i:Nat):(oQ k c i).length=c.length:=by unfold oQ;split<;>simp
theorem aeA {k i:Nat} {c:List Nat} (h:jG c):jG (oQ k c i):=by
 refine ⟨by rw[Mn];exact h.len,?_⟩
 rw[Mn]
 unfold oQ
 split
 ·intro a ha
  have hx: ∀i,c.getD i 0<2^c.length:=fun i=>by
   rw[o4]
   by_cases hi:i<c.length
   ·rw[bU hi];exact h.lt _ (ep _)
   ·rw[sL (by omega)];exact oX (by simp)
  rcases List.mem_or_eq_of_mem_set ha with ha|rfl
  ·exact h.lt a ha
  ·exact uH (hx _) (hx _)
 ·exact h.lt
theorem aeB {k:Nat} {c:List Nat}: ∀m,m≤c.length→((List.range m).foldl (oQ k) c).length=c.length∧
  ∀i,((List.range m).foldl (oQ k) c).getD i 0=if i<m∧(c.getD i 0).testBit k=true then c.getD i 0|||c.getD k 0 else c.getD i 0:=by
 intro m
 induction m with
 | zero=>intro _;exact ⟨rfl,fun i=>by simp⟩
 | succ m ih=>
  intro hm
  obtain ⟨h1,h2⟩:=ih (by omega)
  rw[sO,uJ,List.foldl_cons,List.foldl_nil]
  refine ⟨by rw[Mn,h1],fun i=> ?_⟩
  have hk:((List.range m).foldl (oQ k) c).getD k 0=c.getD k 0:=by
   rw[h2];split
   ·exact Nat.or_self _
   ·rfl
  have hmm:((List.range m).foldl (oQ k) c).getD m 0=c.getD m 0:=by rw[h2,bK]
  rw[arh,hmm,hk]
  by_cases hb:(c.getD m 0).testBit k=true
  ·rw[af hb,akm,h1]
   by_cases hi:m=i
   ·subst hi
    rw[af ⟨rfl,by omega⟩,af ⟨by omega,hb⟩]
   ·rw[ag (fun h=>hi h.1),h2]
    by_cases h3:i<m
    ·simp[h3,show i<m+1 by omega]
    ·simp[h3,show¬i<m+1 by omega]
  ·rw[ag hb,h2]
   by_cases hi:m=i
   ·subst hi
    rw[bK,ag (fun h=>hb h.2)]
   ·by_cases h3:i<m
    ·simp[h3,show i<m+1 by omega]
    ·simp[h3,show¬i<m+1 by omega]
theorem Mo {c:List Nat} {k i j:Nat} (hi:i<c.length):Bt (sG c k) i j↔Bt c i j∨(Bt c i k∧Bt c k j):=by
 unfold Bt sG
 rw[(aeB (k:=k) c.length (aw _)).2 i]
 by_cases hb:(c.getD i 0).testBit k=true
 ·rw[af ⟨hi,hb⟩,o0,qc]
  exact or_congr Iff.rfl ⟨fun h=>⟨hb,h⟩,fun h=>h.2⟩
 ·rw[ag (fun h=>hb h.2)]
  exact ⟨.inl,fun h=>h.elim id (fun h=>absurd h.1 hb)⟩
structure wa (R c:List Nat) (k:Nat):Prop where
 len:c.length=R.length
 ok:jG c
 refl: ∀i,i<R.length→Bt c i i
 base: ∀i j,i<R.length→Bt R i j→Bt c i j
 trans: ∀i m j,i<R.length→m<k→m<R.length→Bt c i m→Bt c m j→Bt c i j
 sound: ∀T:Nat→Prop,(∀i j,i<R.length→T i→Bt R i j→T j)→∀i j,i<R.length→T i→Bt c i j→T j
theorem ari (c:List Nat) (k:Nat):(sG c k).length=c.length:=(aeB c.length (aw _)).1
theorem aeC {k:Nat}: ∀(l:List Nat) (c:List Nat),jG c→jG (l.foldl (oQ k) c)
 | [],_,h=>h
 | _::l,_,h=>aeC l _ (aeA h)
theorem wa.step {R c:List Nat} {k:Nat} (hk:k<R.length) (h:wa R c k):wa R (sG c k) (k+1) where
 len:=by rw[ari,h.len]
 ok:=aeC _ _ h.ok
 refl i hi:=(Mo (by rw[h.len];exact hi)).2 (.inl (h.refl i hi))
 base i j hi hb:=(Mo (by rw[h.len];exact hi)).2 (.inl (h.base i j hi hb))
 trans i m j hi hm vm h1 h2:=by
  have hl:=h.len
  rw[Mo (by omega)] at h1 h2⊢
  by_cases hmk:m=k
  ·subst hmk
   have g1:Bt c i m:=by rcases h1 with h1|h1;exact h1;exact h1.1
   have g2:Bt c m j:=by rcases h2 with h2|h2;exact h2;exact h2.2
   exact .inr ⟨g1,g2⟩
  ·have ta:m<k:=by omega
   rcases h1 with h1|⟨h1,lK⟩<;>rcases h2 with h2|⟨h2,Ef⟩
   ·exact .inl (h.trans i m j hi ta vm h1 h2)
   ·exact .inr ⟨h.trans i m k hi ta vm h1 h2,Ef⟩
   ·exact .inr ⟨h1,h.trans k m j hk ta vm lK h2⟩
   ·exact .inr ⟨h1,Ef⟩
 sound T hT i j hi ht hb:=by
  have hl:=h.len
  rw[Mo (by omega)] at hb
  rcases hb with hb|⟨h1,h2⟩
  ·exact h.sound T hT i j hi ht hb
  ·exact h.sound T hT k j hk (h.sound T hT i k hi ht h1) h2
def diag (R:List Nat):List Nat:=(List.range R.length).map fun i=>R.getD i 0|||2^i
theorem Mp {R:List Nat} {i:Nat} (hi:i<R.length):(diag R).getD i 0=R.getD i 0|||2^i:=by simp[diag,hi]
theorem wa.start {R:List Nat} (h:jG R):wa R (diag R) 0 where
 len:=by simp[diag]
 ok:=by
  have hl:(diag R).length=R.length:=by simp[diag]
  refine ⟨by rw[hl];exact h.len,fun a ha=> ?_⟩
  rw[hl]
  simp only[diag,gf,ia] at ha
  obtain ⟨i,hi,rfl⟩:=ha
  refine uH ?_ (gx (by omega) hi)
  have:R.getD i 0=R[i]:=by simp[hi]
  rw[this]
  exact h.lt _ (ep _)
 refl i hi:=by unfold Bt;rw[Mp hi];simp[o0,qd]
 base i j hi hb:=by unfold Bt at*;rw[Mp hi,o0,hb];rfl
 trans i m j _ hm:=by omega
 sound T hT i j hi ht hb:=by
  unfold Bt at hb
  rw[Mp hi,o0,qd,qc,dW] at hb
  rcases hb with hb|rfl
  ·exact hT i j hi ht hb
  ·exact ht
def rp (R:List Nat):List Nat:=(List.range R.length).foldl sG (diag R)
theorem aeD {R:List Nat} (h:jG R): ∀m,m≤R.length→wa R ((List.range m).foldl sG (diag R)) m:=by
 intro m
 induction m with
 | zero=>intro _;exact wa.start h
 | succ m ih=>
  intro hm
  rw[sO,uJ,List.foldl_cons,List.foldl_nil]
  exact (ih (by omega)).step (by omega)
theorem UE {R:List Nat} (h:jG R):wa R (rp R) R.length:=aeD h _ (aw _)
theorem arj (n:Nat):List.replicate n (V.int .u64 0)=U1 (List.replicate n 0):=by simp[U1]
theorem ark {R:List Nat} (h:jG R):Loop (GN CC (U1 R) (R.length:Int)) (0,U1 (List.replicate R.length 0))=some ((R.length:Int),false,U1 (diag R)):=by
 have hl:=h.len
 have:=xt (step:=GN CC (U1 R) (R.length:Int)) (fun i=>((i:Int),U1 ((diag R).take i++List.replicate (R.length-i) 0))) R.length (r:=((R.length:Int),false,U1 (diag R))) ?_ ?_
 ·simpa using this
 ·intro i hi
  obtain ⟨d,hd⟩: ∃d,R.length-i=d+1:=⟨R.length-i-1,by omega⟩
  have nq:R.length-(i+1)=d:=by omega
  have Ds:(diag R).length=R.length:=by simp[diag]
  have Iu:((diag R).take i).length=i:=by rw[iU];omega
  simp only[GN,GM,un,hd,nq,ar,aS]
  rw[aG,aZ,Sb hi]
  simp only[Option.bind_some,V.toInt_int]
  rw[aG,aZ,dx,aG,aZ,aG,af (by rw[gG,cX,wk];omega),Int.toNat_natCast]
  have hg:(U1 ((diag R).take i++List.replicate (d+1) 0))[i]? =some (.int .u64 ((0:Nat):Int)):=xU (by rw[kR (by omega)];simp[Iu])
  rw[hg]
  simp only[Option.bind_some]
  rw[tU (by omega),u64_or (h.get i) (gx (by omega) (by omega)),R4,dP,dr,List.set_append_right _ _ (by omega),Iu,BT,List.replicate_succ,List.set_cons_zero]
  have e1:(diag R).take (i+1)=(diag R).take i++[R.getD i 0|||2^i]:=by
   rw[←Hq (by omega)]
   congr 2
   have:=Mp hi
   simpa[Ds,hi] using this
  rw[e1,db]
  rfl
 ·simp only[GN,GM,un,ar,aS]
  rw[pP (by omega),cond_false,BT,zj (by simp[diag])]
  simp
theorem arl {c:List Nat} (h:jG c) {k:Nat} (hk:k<c.length) {a b:Int}:Loop (GP CC (k:Int) a b (c.length:Int)) (0,U1 c)=some ((c.length:Int),false,U1 (sG c k)):=by
 have hl:=h.len
 have:=Kq (step:=GP CC (k:Int) a b (c.length:Int)) (List.range c.length) (fun i (x:List Nat)=>((i:Int),U1 x)) (oQ k) (fun x=>((c.length:Int),false,U1 x)) (fun _ x=>jG x∧x.length=c.length) ?_ ?_ c ⟨h,rfl⟩
 ·exact this.1
 ·intro i x hi hx
  have eK:i<c.length:=by simpa using hi
  rw[List.getElem_range]
  refine ⟨?_,aeA hx.1,by rw[Mn,hx.2]⟩
  have e1:x.getD i 0=x[i]:=by simp[show i<x.length by omega]
  have e2:x.getD k 0=x[k]:=by simp[show k<x.length by omega]
  have g1:(U1 x)[i]? =some (.int .u64 ((x.getD i 0:Nat):Int)):=xU (by rw[e1];simp)
  have g2:(U1 x)[k]? =some (.int .u64 ((x.getD k 0:Nat):Int)):=xU (by rw[e2];simp)
  have kY:=hx.1.get i
  have gk:=hx.1.get k
  simp only[GP,GO,un,ar,aS]
  rw[aG,aZ,dx,aG,aZ,aG,af (by rw[gG];omega),Int.toNat_natCast,g1]
  simp only[Option.bind_some,V.toInt_int]
  rw[aG,aZ,Int.toNat_natCast,aaF kY (by omega)]
  unfold oQ
  cases hb:(x.getD i 0).testBit k with
  | true=>
   rw[cond_true,af rfl,dx,aG,aZ,aG,af (by rw[gG];omega),dx,aG,aZ,aG,af (by rw[gG];omega),g2]
   simp only[Option.bind_some,V.toInt_int]
   rw[dx,aG,aZ,aG,af (by rw[gG];omega),u64_or kY gk,R4,dP,dr]
  | false=>
   rw[cond_false,ag (by simp),dP,dr]
 ·intro x hx
  simp only[GP,GO,un,Hr,ar,aS]
  rw[pP (by omega),cond_false]
theorem arn {R:List Nat} (h:jG R):Loop (GR CC (R.length:Int)) (0,U1 (diag R))=some ((R.length:Int),false,U1 (rp R)):=by
 have hl:=h.len
 have:=xt (step:=GR CC (R.length:Int)) (fun i=>((i:Int),U1 ((List.range i).foldl sG (diag R)))) R.length (r:=((R.length:Int),false,U1 (rp R))) ?_ ?_
 ·simpa using this
 ·intro i hi
  have hc:=aeD h i (by omega)
  have fl:=hc.len
  simp only[GR,GQ,un]
  rw[aG,aZ]
  rw[show ((U1 ((List.range i).foldl sG (diag R))).length:Int)=((((List.range i).foldl sG (diag R)).length:Nat):Int) by rw[gG],arl hc.ok (by omega)]
  simp only[Option.bind_some,un]
  rw[dP,dr,sO,uJ,List.foldl_cons,List.foldl_nil]
 ·simp only[GR,GQ,un]
  rw[pP (by omega),cond_false]
  rfl
theorem aro {R:List Nat} (h:jG R):CC Jy [.list cp (U1 R)]=some [.list cp (U1 (rp R))]:=by
 have hl:=h.len
 refine arf ?_
 unfold aey
 rw[abj h]
 simp only[Option.bind_some,V.bZ,V.kG,BM,cond_false,gG]
 rw[dx,aG,aZ,dx,aG,aZ,sa,af (by rw[vG];omega),Int.toNat_natCast,arj,ark h]
 simp only[Option.bind_some,un]
 have e1:((U1 (diag R)).length:Int)=(R.length:Int):=by rw[gG];simp[diag]
 rw[e1,arn h]
 rfl
end Go.AM
