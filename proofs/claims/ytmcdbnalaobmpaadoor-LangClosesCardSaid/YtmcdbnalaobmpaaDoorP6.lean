/-
  Functions of the program, lifted to plain data.
-/
import Derived.Test.YtmcdbnalaobmpaaDoorP5
set_option linter.unusedVariables false
set_option linter.unusedSimpArgs false
set_option maxRecDepth 100000
set_option maxHeartbeats 4000000
namespace Go.AM.SL
open Go.AM Go.Proofs Go.Sort
theorem zm (p:Ed→Bool) (d:Array Ed) (j i:Nat):scanUp p d j i=if i≤j then (if p d[i]! =true then scanUp p d j (i+1) else i) else i:=by
 conv=>lhs;rw[scanUp]
 by_cases h:i≤j
 ·rw[af h];simp only[h,ux,wV]
 ·rw[ah h,ah (by simp[h])]
theorem OL (p:Ed→Bool) (d:Array Ed) (i j:Nat):scanDown p d i (j+1)=if i≤j+1 then (if p d[j+1]! =true then scanDown p d i j else j+1) else j+1:=by
 conv=>lhs;rw[scanDown]
 by_cases h:i≤j+1
 ·rw[af h];simp only[h,ux,wV]
 ·rw[ah h,ah (by simp[h])]
theorem I5 (d:Array Ed) (b i:Nat):scanSorted aG d b i=if i<b then (if b8 d[i]! d[i-1]! <0 then i else scanSorted aG d b (i+1)) else i:=by
 conv=>lhs;rw[scanSorted]
 by_cases h:i<b
 ·rw[af h];simp only[h,ux,wV,sJ]
  by_cases h2:b8 d[i]! d[i-1]! <0
  ·rw[ah (pO h2),af h2]
  ·rw[af h2,ah h2]
 ·rw[ah h,ah (by simp[h])]
theorem Ys (j:Nat) (d:Array Ed):shiftDown aG (j+1) d=if b8 d[j+1]! d[j]! <0 then shiftDown aG j (swp d (j+1) j) else d:=by
 conv=>lhs;rw[shiftDown]
 simp only[sJ]
 by_cases h2:b8 d[j+1]! d[j]! <0
 ·rw[ah (pO h2),af h2]
 ·rw[af h2,ah h2]
theorem I6 (b j:Nat) (d:Array Ed):shiftUp aG b j d=if j<b then (if b8 d[j]! d[j-1]! <0 then shiftUp aG b (j+1) (swp d j (j-1)) else d) else d:=by
 conv=>lhs;rw[shiftUp]
 simp only[sJ]
 by_cases h:j<b
 ·rw[af h,af h]
  by_cases h2:b8 d[j]! d[j-1]! <0
  ·rw[ah (pO h2),af h2]
  ·rw[af h2,ah h2]
 ·rw[ah h,ah h]
theorem aiZ {a:Nat}: ∀(n i j:Nat) (d:Array Ed),j+1-i≤n→(partLoop aG a i j d).2.size=d.size∧(partLoop aG a i j d).1≤j:=by
 intro n
 induction n with
 | zero=>
  intro i j d hn
  have h1:=scanUp_ge (fun x=>aG x d[a]!) d j i
  have h2:=scanDown_le (fun x=> !aG x d[a]!) d (scanUp (fun x=>aG x d[a]!) d j i) j
  rw[partLoop_eq,af (by omega)]
  exact ⟨rfl,h2⟩
 | succ n ih=>
  intro i j d hn
  rw[partLoop_eq]
  have h1:=scanUp_ge (fun x=>aG x d[a]!) d j i
  have h2:=scanDown_le (fun x=> !aG x d[a]!) d (scanUp (fun x=>aG x d[a]!) d j i) j
  split
  ·exact ⟨rfl,h2⟩
  ·obtain ⟨h3,h4⟩:=ih (scanUp (fun x=>aG x d[a]!) d j i+1) (scanDown (fun x=> !aG x d[a]!) d (scanUp (fun x=>aG x d[a]!) d j i) j-1) (swp d (scanUp (fun x=>aG x d[a]!) d j i) (scanDown (fun x=> !aG x d[a]!) d (scanUp (fun x=>aG x d[a]!) d j i) j)) (by omega)
   exact ⟨by rw[h3,size_swp],by omega⟩
theorem kU {β:Type} {d:Array Ed} {i:Nat} {x y:Option β} (h:i<d.size):(bif (decide (0≤(i:Int)))&&(decide ((i:Int)<((eA d).length:Int))) then x else y)=x:=by
 rw[gA,dr,aJ,af (by omega),aJ,af (by omega)]
theorem I7 {β:Type} {d:Array Ed} {i k:Nat} {v:V} {x y:Option β} (h:i<d.size):(bif (decide (0≤(i:Int)))&&(decide ((i:Int)<(((eA d).set k v).length:Int))) then x else y)=x:=by
 rw[qS,gA,dr,aJ,af (by omega),aJ,af (by omega)]
theorem kV {β:Type} {d:Array Ed} {i:Nat} {f:V→Option β} (h:i<d.size):((eA d)[(i:Int).toNat]?).bind f=f (d[i]!).enc:=by
 rw[Int.toNat_natCast,gC h];rfl
theorem I8 {β:Type} {d:Array Ed} {i k:Nat} {v:V} {x:Option β} (h:i<d.size):(((eA d).set k v)[(i:Int).toNat]?).bind (fun _=>x)=x:=by
 rw[Int.toNat_natCast,bI (by rw[qS,gA];exact h)];rfl
theorem sL {β:Type} {d:Array Ed} {i:Nat} {f:V→Option β} (h:i<d.size):((eA d)[i]?).bind f=f (d[i]!).enc:=by
 rw[gC h];rfl
theorem OM {β:Type} {d:Array Ed} {i k:Nat} {v:V} {x:Option β} (h:i<d.size):(((eA d).set k v)[i]?).bind (fun _=>x)=x:=by
 rw[bI (by rw[qS,gA];exact h)];rfl
theorem ai0 {a j:Nat} {d:Array Ed} (ha:a<d.size) (hj:j<d.size) (hs:d.size<1152921504606846976): ∀(n i:Nat),j+1-i=n→i≤d.size→
  ∃t,Loop (DN CC a j (eA d)) (i:Int)=some (((scanUp (fun x=>aG x d[a]!) d j i:Nat):Int),t):=by
 intro n
 induction n with
 | zero=>
  intro i hn hi
  rw[zm,ah (by omega)]
  exact ⟨false,cl (by simp (disch:=omega) only[DN,DM,aJ,ah])⟩
 | succ n ih=>
  intro i hn hi
  obtain ⟨t,h⟩:=ih (i+1) (by omega) (by omega)
  rw[zm,af (by omega)]
  have e:DN CC a j (eA d) (i:Int)=if b8 d[i]! d[a]! <0 then some (.inl ((i+1:Nat):Int)) else some (.inr ((i:Int),decide (b8 d[i]! d[a]! <0))):=by
   simp (disch:=omega) only[DN,DM,aJ,dr,gU,af,ah,wrap64,dC,gD,Int.toNat_natCast,Option.bind_some,gA,gC,Ed.dR,Ed.dS,Ed.dU,Ed.re,gB,iP,g9,gW,V.cq,V.toInt_int,cond_true,cond_false]
  simp only[ue]
  by_cases h2:b8 d[i]! d[a]! <0
  ·rw[af h2] at e
   rw[af h2]
   exact ⟨t,(eu e).trans h⟩
  ·rw[ah h2] at e
   rw[ah h2]
   exact ⟨_,cl e⟩
theorem Yt {a j:Nat} {d:Array Ed} (ha:a<d.size) (hj:j<d.size) (hs:d.size<1152921504606846976): ∀(n i:Nat),j+1-i=n→i≤d.size→
  ∃t,Loop (DP CC a j (eA d)) (i:Int)=some (((scanUp (fun x=>aG x d[a]!) d j i:Nat):Int),t):=by
 intro n
 induction n with
 | zero=>
  intro i hn hi
  rw[zm,ah (by omega)]
  exact ⟨false,cl (by simp (disch:=omega) only[DP,DO,aJ,ah])⟩
 | succ n ih=>
  intro i hn hi
  obtain ⟨t,h⟩:=ih (i+1) (by omega) (by omega)
  rw[zm,af (by omega)]
  have e:DP CC a j (eA d) (i:Int)=if b8 d[i]! d[a]! <0 then some (.inl ((i+1:Nat):Int)) else some (.inr ((i:Int),decide (b8 d[i]! d[a]! <0))):=by
   simp (disch:=omega) only[DP,DO,aJ,dr,gU,af,ah,wrap64,dC,gD,Int.toNat_natCast,Option.bind_some,gA,gC,Ed.dR,Ed.dS,Ed.dU,Ed.re,gB,iP,g9,gW,V.cq,V.toInt_int,cond_true,cond_false]
  simp only[ue]
  by_cases h2:b8 d[i]! d[a]! <0
  ·rw[af h2] at e
   rw[af h2]
   exact ⟨t,(eu e).trans h⟩
  ·rw[ah h2] at e
   rw[ah h2]
   exact ⟨_,cl e⟩
theorem Yu {a i:Nat} {d:Array Ed} (ha:a<d.size) (hi:1≤i) (hs:d.size<1152921504606846976): ∀(j:Nat),j<d.size→
  ∃t,Loop (zd CC a i (eA d)) (j:Int)=some (((scanDown (fun x=> !aG x d[a]!) d i j:Nat):Int),t)
 | 0,hj=>⟨false,cl (by simp (disch:=omega) only[zd,zc,aJ,ah];rfl)⟩
 | j+1,hj=>by
  obtain ⟨t,h⟩:=Yu ha hi hs j (by omega)
  rw[OL]
  by_cases h1:i≤j+1
  ·rw[af h1]
   have e:zd CC a i (eA d) ((j+1:Nat):Int)=if b8 d[j+1]! d[a]! <0 then some (.inr (((j+1:Nat):Int),!decide (b8 d[j+1]! d[a]! <0))) else some (.inl (j:Int)):=by
    simp (disch:=omega) only[zd,zc,aJ,dr,gU,af,ah,wrap64,dC,gD,Int.toNat_natCast,Option.bind_some,gA,gC,Ed.dR,Ed.dS,Ed.dU,Ed.re,gB,iP,g9,gW,V.cq,V.toInt_int,cond_true,cond_false,wj]
   simp only[sJ]
   by_cases h2:b8 d[j+1]! d[a]! <0
   ·rw[af h2] at e
    rw[ah (pO h2)]
    exact ⟨_,cl e⟩
   ·rw[ah h2] at e
    rw[af h2]
    exact ⟨t,(eu e).trans h⟩
  ·rw[ah h1]
   exact ⟨false,cl (by simp (disch:=omega) only[zd,zc,aJ,ah])⟩
theorem ON {a i:Nat} {d:Array Ed} (ha:a<d.size) (hi:1≤i) (hs:d.size<1152921504606846976): ∀(j:Nat),j<d.size→
  ∃t,Loop (zg CC a i (eA d)) (j:Int)=some (((scanDown (fun x=> !aG x d[a]!) d i j:Nat):Int),t)
 | 0,hj=>⟨false,cl (by simp (disch:=omega) only[zg,ze,aJ,ah];rfl)⟩
 | j+1,hj=>by
  obtain ⟨t,h⟩:=ON ha hi hs j (by omega)
  rw[OL]
  by_cases h1:i≤j+1
  ·rw[af h1]
   have e:zg CC a i (eA d) ((j+1:Nat):Int)=if b8 d[j+1]! d[a]! <0 then some (.inr (((j+1:Nat):Int),!decide (b8 d[j+1]! d[a]! <0))) else some (.inl (j:Int)):=by
    simp (disch:=omega) only[zg,ze,aJ,dr,gU,af,ah,wrap64,dC,gD,Int.toNat_natCast,Option.bind_some,gA,gC,Ed.dR,Ed.dS,Ed.dU,Ed.re,gB,iP,g9,gW,V.cq,V.toInt_int,cond_true,cond_false,wj]
   simp only[sJ]
   by_cases h2:b8 d[j+1]! d[a]! <0
   ·rw[af h2] at e
    rw[ah (pO h2)]
    exact ⟨_,cl e⟩
   ·rw[ah h2] at e
    rw[af h2]
    exact ⟨t,(eu e).trans h⟩
  ·rw[ah h1]
   exact ⟨false,cl (by simp (disch:=omega) only[zg,ze,aJ,ah])⟩
theorem Yv {a j:Nat} {d:Array Ed} (ha:a<d.size) (hj:j<d.size) (hs:d.size<1152921504606846976): ∀(n i:Nat),j+1-i=n→i≤d.size→
  ∃t,Loop (DT CC a j (eA d)) (i:Int)=some (((scanUp (fun x=> !aG d[a]! x) d j i:Nat):Int),t):=by
 intro n
 induction n with
 | zero=>
  intro i hn hi
  rw[zm,ah (by omega)]
  exact ⟨false,cl (by simp (disch:=omega) only[DT,DS,aJ,ah])⟩
 | succ n ih=>
  intro i hn hi
  obtain ⟨t,h⟩:=ih (i+1) (by omega) (by omega)
  rw[zm,af (by omega)]
  have e:DT CC a j (eA d) (i:Int)=if b8 d[a]! d[i]! <0 then some (.inr ((i:Int),!decide (b8 d[a]! d[i]! <0))) else some (.inl ((i+1:Nat):Int)):=by
   simp (disch:=omega) only[DT,DS,aJ,dr,gU,af,ah,wrap64,dC,gD,Int.toNat_natCast,Option.bind_some,gA,gC,Ed.dR,Ed.dS,Ed.dU,Ed.re,gB,iP,g9,gW,V.cq,V.toInt_int,cond_true,cond_false]
  simp only[sJ]
  by_cases h2:b8 d[a]! d[i]! <0
  ·rw[af h2] at e
   rw[ah (pO h2)]
   exact ⟨_,cl e⟩
  ·rw[ah h2] at e
   rw[af h2]
   exact ⟨t,(eu e).trans h⟩
theorem OO {a i:Nat} {d:Array Ed} (ha:a<d.size) (hi:1≤i) (hs:d.size<1152921504606846976): ∀(j:Nat),j<d.size→
  ∃t,Loop (zk CC a i (eA d)) (j:Int)=some (((scanDown (fun x=>aG d[a]! x) d i j:Nat):Int),t)
 | 0,hj=>⟨false,cl (by simp (disch:=omega) only[zk,zj,aJ,ah];rfl)⟩
 | j+1,hj=>by
  obtain ⟨t,h⟩:=OO ha hi hs j (by omega)
  rw[OL]
  by_cases h1:i≤j+1
  ·rw[af h1]
   have e:zk CC a i (eA d) ((j+1:Nat):Int)=if b8 d[a]! d[j+1]! <0 then some (.inl (j:Int)) else some (.inr (((j+1:Nat):Int),decide (b8 d[a]! d[j+1]! <0))):=by
    simp (disch:=omega) only[zk,zj,aJ,dr,gU,af,ah,wrap64,dC,gD,Int.toNat_natCast,Option.bind_some,gA,gC,Ed.dR,Ed.dS,Ed.dU,Ed.re,gB,iP,g9,gW,V.cq,V.toInt_int,cond_true,cond_false,wj]
   simp only[ue]
   by_cases h2:b8 d[a]! d[j+1]! <0
   ·rw[af h2] at e
    rw[af h2]
    exact ⟨t,(eu e).trans h⟩
   ·rw[ah h2] at e
    rw[ah h2]
    exact ⟨_,cl e⟩
  ·rw[ah h1]
   exact ⟨false,cl (by simp (disch:=omega) only[zk,zj,aJ,ah])⟩
theorem ai1 {a:Nat}: ∀(n i j:Nat) (d:Array Ed),j+1-i≤n→1≤i→i≤d.size→a<d.size→j<d.size→d.size<1152921504606846976→
  ∃x z,Loop (zh CC a) ((i:Int),(j:Int),eA d)=some (x,(((partLoop aG a i j d).1:Nat):Int),z,eA (partLoop aG a i j d).2):=by
 intro n
 induction n with
 | zero=>
  intro i j d hn h1 h2 ha hj hs
  obtain ⟨t3,e3⟩:=Yt (a:=a) ha hj hs _ i rfl h2
  have g1:=scanUp_ge (fun x=>aG x d[a]!) d j i
  have g2:=scanDown_le (fun x=> !aG x d[a]!) d (scanUp (fun x=>aG x d[a]!) d j i) j
  obtain ⟨t4,e4⟩:=ON (a:=a) (i:=scanUp (fun x=>aG x d[a]!) d j i) ha (by omega) hs j hj
  rw[partLoop_eq,af (by omega)]
  refine ⟨((scanUp (fun x=>aG x d[a]!) d j i:Nat):Int),true,cl ?_⟩
  simp only[zh,DQ,un]
  rw[e3]
  simp only[Option.bind_some,un]
  rw[e4]
  simp (disch:=omega) only[Option.bind_some,un,ox,cond_true]
 | succ n ih=>
  intro i j d hn h1 h2 ha hj hs
  obtain ⟨t3,e3⟩:=Yt (a:=a) ha hj hs _ i rfl h2
  have g1:=scanUp_ge (fun x=>aG x d[a]!) d j i
  have g2:=scanDown_le (fun x=> !aG x d[a]!) d (scanUp (fun x=>aG x d[a]!) d j i) j
  obtain ⟨t4,e4⟩:=ON (a:=a) (i:=scanUp (fun x=>aG x d[a]!) d j i) ha (by omega) hs j hj
  rw[partLoop_eq]
  have f:zh CC a ((i:Int),(j:Int),eA d)=zh CC a ((i:Int),(j:Int),eA d):=rfl
  conv at f=>rhs;simp only[zh,DQ,un];rw[e3];simp only[Option.bind_some,un];rw[e4];simp only[Option.bind_some,un]
  generalize nZ:scanUp (fun x=>aG x d[a]!) d j i=i2 at*
  generalize cv:scanDown (fun x=> !aG x d[a]!) d i2 j=j2 at*
  by_cases h:i2>j2
  ·rw[af h]
   refine ⟨(i2:Int),true,cl (f.trans ?_)⟩
   simp (disch:=omega) only[Option.bind_some,ox,cond_true]
  ·rw[ah h]
   obtain ⟨x,z,e⟩:=ih (i2+1) (j2-1) (swp d i2 j2) (by omega) (by omega) (by rw[size_swp];omega) (by rw[size_swp];omega) (by rw[size_swp];omega) (by rw[size_swp];omega)
   refine ⟨x,z,(eu (f.trans ?_)).trans e⟩
   simp (disch:=omega) only[aJ,dr,gU,af,ah,wrap64,dC,gD,Int.toNat_natCast,Option.bind_some,gA,gC,Ed.dR,Ed.dS,Ed.dU,Ed.re,gB,iP,g9,gW,V.cq,V.toInt_int,cond_true,cond_false,kS]
   rfl
theorem ai2 (d:Array Ed) (a b pivot:Nat):partition aG d a b pivot=
  if scanUp (fun x=>aG x (swp d a pivot)[a]!) (swp d a pivot) (b-1) (a+1)>scanDown (fun x=> !aG x (swp d a pivot)[a]!) (swp d a pivot) (scanUp (fun x=>aG x (swp d a pivot)[a]!) (swp d a pivot) (b-1) (a+1)) (b-1) then
   (scanDown (fun x=> !aG x (swp d a pivot)[a]!) (swp d a pivot) (scanUp (fun x=>aG x (swp d a pivot)[a]!) (swp d a pivot) (b-1) (a+1)) (b-1),true,swp (swp d a pivot) (scanDown (fun x=> !aG x (swp d a pivot)[a]!) (swp d a pivot) (scanUp (fun x=>aG x (swp d a pivot)[a]!) (swp d a pivot) (b-1) (a+1)) (b-1)) a)
  else
   ((partLoop aG a (scanUp (fun x=>aG x (swp d a pivot)[a]!) (swp d a pivot) (b-1) (a+1)+1) (scanDown (fun x=> !aG x (swp d a pivot)[a]!) (swp d a pivot) (scanUp (fun x=>aG x (swp d a pivot)[a]!) (swp d a pivot) (b-1) (a+1)) (b-1)-1) (swp (swp d a pivot) (scanUp (fun x=>aG x (swp d a pivot)[a]!) (swp d a pivot) (b-1) (a+1)) (scanDown (fun x=> !aG x (swp d a pivot)[a]!) (swp d a pivot) (scanUp (fun x=>aG x (swp d a pivot)[a]!) (swp d a pivot) (b-1) (a+1)) (b-1)))).1,false,
    swp (partLoop aG a (scanUp (fun x=>aG x (swp d a pivot)[a]!) (swp d a pivot) (b-1) (a+1)+1) (scanDown (fun x=> !aG x (swp d a pivot)[a]!) (swp d a pivot) (scanUp (fun x=>aG x (swp d a pivot)[a]!) (swp d a pivot) (b-1) (a+1)) (b-1)-1) (swp (swp d a pivot) (scanUp (fun x=>aG x (swp d a pivot)[a]!) (swp d a pivot) (b-1) (a+1)) (scanDown (fun x=> !aG x (swp d a pivot)[a]!) (swp d a pivot) (scanUp (fun x=>aG x (swp d a pivot)[a]!) (swp d a pivot) (b-1) (a+1)) (b-1)))).2
    (partLoop aG a (scanUp (fun x=>aG x (swp d a pivot)[a]!) (swp d a pivot) (b-1) (a+1)+1) (scanDown (fun x=> !aG x (swp d a pivot)[a]!) (swp d a pivot) (scanUp (fun x=>aG x (swp d a pivot)[a]!) (swp d a pivot) (b-1) (a+1)) (b-1)-1) (swp (swp d a pivot) (scanUp (fun x=>aG x (swp d a pivot)[a]!) (swp d a pivot) (b-1) (a+1)) (scanDown (fun x=> !aG x (swp d a pivot)[a]!) (swp d a pivot) (scanUp (fun x=>aG x (swp d a pivot)[a]!) (swp d a pivot) (b-1) (a+1)) (b-1)))).1 a):=rfl
theorem zn (d:Array Ed) (i j:Nat):eA ((d.setIfInBounds i d[j]!).setIfInBounds j d[i]!)=eA (swp d i j):=rfl
theorem ai3 {a b pivot:Nat} {d:Array Ed} (hp:pivot<b) (gq:a<b) (hb:b≤d.size) (hs:d.size<1152921504606846976):
  CC pg [.int .i64 (a:Int),.int .i64 (b:Int),.int .i64 (pivot:Int),.list aF (eA d)]=
   some [.int .i64 ((partition aG d a b pivot).1:Int),.bool (partition aG d a b pivot).2.1,.list aF (eA (partition aG d a b pivot).2.2)]:=by
 refine aiG ?_
 unfold Ym
 have z1:(swp d a pivot).size=d.size:=size_swp ..
 obtain ⟨t1,e1⟩:=ai0 (a:=a) (j:=b-1) (d:=swp d a pivot) (by omega) (by omega) (by omega) _ (a+1) rfl (by omega)
 have g1:=scanUp_ge (fun x=>aG x (swp d a pivot)[a]!) (swp d a pivot) (b-1) (a+1)
 have g2:=scanDown_le (fun x=> !aG x (swp d a pivot)[a]!) (swp d a pivot) (scanUp (fun x=>aG x (swp d a pivot)[a]!) (swp d a pivot) (b-1) (a+1)) (b-1)
 obtain ⟨t2,e2⟩:=Yu (a:=a) (i:=scanUp (fun x=>aG x (swp d a pivot)[a]!) (swp d a pivot) (b-1) (a+1)) (d:=swp d a pivot) (by omega) (by omega) (by omega) (b-1) (by omega)
 have e0:=ai2 d a b pivot
 rw[kU (i:=pivot) (by omega),kV (by omega),kU (i:=a) (by omega),kV (by omega),kU (i:=a) (by omega),kV (by omega),I7 (i:=pivot) (by omega),I8 (by omega)]
 simp only[Ed.dR,Ed.dS,Ed.dU,Ed.re,Int.toNat_natCast,gB,zn]
 simp (disch:=omega) only[kS,dC,wrap64]
 rw[e1]
 simp only[Option.bind_some,un]
 rw[e2]
 simp only[Option.bind_some,un]
 generalize nZ:scanUp (fun x=>aG x (swp d a pivot)[a]!) (swp d a pivot) (b-1) (a+1)=i2 at*
 generalize cv:scanDown (fun x=> !aG x (swp d a pivot)[a]!) (swp d a pivot) i2 (b-1)=j2 at*
 generalize swp d a pivot=d1 at*
 by_cases h:i2>j2
 ·rw[af h] at e0
  rw[e0,aJ,af (by omega)]
  rw[kU (i:=a) (by omega)];(first|rw[kV (by omega)]|rw[sL (by omega)]);rw[kU (i:=j2) (by omega)];(first|rw[kV (by omega)]|rw[sL (by omega)]);rw[kU (i:=j2) (by omega)];(first|rw[kV (by omega)]|rw[sL (by omega)]);rw[I7 (i:=a) (by omega)];(first|rw[I8 (by omega)]|rw[OM (by omega)])
  simp only[Ed.dR,Ed.dS,Ed.dU,Ed.re,Int.toNat_natCast,gB,zn]
 ·rw[ah h] at e0
  rw[e0,aJ,ah (by omega)]
  have z2:(swp d1 i2 j2).size=d1.size:=size_swp ..
  obtain ⟨x,z,e5⟩:=ai1 (a:=a) _ (i2+1) (j2-1) (swp d1 i2 j2) (aI _) (by omega) (by omega) (by omega) (by omega) (by omega)
  obtain ⟨q1,q2⟩:=aiZ (a:=a) _ (i2+1) (j2-1) (swp d1 i2 j2) (aI _)
  rw[kU (i:=j2) (by omega)];(first|rw[kV (by omega)]|rw[sL (by omega)]);rw[kU (i:=i2) (by omega)];(first|rw[kV (by omega)]|rw[sL (by omega)]);rw[kU (i:=i2) (by omega)];(first|rw[kV (by omega)]|rw[sL (by omega)]);rw[I7 (i:=j2) (by omega)];(first|rw[I8 (by omega)]|rw[OM (by omega)])
  simp only[Ed.dR,Ed.dS,Ed.dU,Ed.re,Int.toNat_natCast,gB,zn]
  simp (disch:=omega) only[kS,dC,wrap64]
  rw[e5]
  generalize partLoop aG a (i2+1) (j2-1) (swp d1 i2 j2)=r at*
  simp only[Option.bind_some,un]
  rw[kU (i:=a) (by omega)];(first|rw[kV (by omega)]|rw[sL (by omega)]);rw[kU (i:=r.1) (by omega)];(first|rw[kV (by omega)]|rw[sL (by omega)]);rw[kU (i:=r.1) (by omega)];(first|rw[kV (by omega)]|rw[sL (by omega)]);rw[I7 (i:=a) (by omega)];(first|rw[I8 (by omega)]|rw[OM (by omega)])
  simp only[Ed.dR,Ed.dS,Ed.dU,Ed.re,Int.toNat_natCast,gB,zn]
theorem ai4 {a:Nat}: ∀(n i j:Nat) (d:Array Ed),j+1-i≤n→1≤i→i≤d.size→a<d.size→j<d.size→d.size<1152921504606846976→
  ∃x z,Loop (zl CC a) ((i:Int),(j:Int),eA d)=some ((((partEqLoop aG a i j d).1:Nat):Int),x,z,eA (partEqLoop aG a i j d).2):=by
 intro n
 induction n with
 | zero=>
  intro i j d hn h1 h2 ha hj hs
  obtain ⟨t3,e3⟩:=Yv (a:=a) ha hj hs _ i rfl h2
  have g1:=scanUp_ge (fun x=> !aG d[a]! x) d j i
  have g2:=scanDown_le (fun x=>aG d[a]! x) d (scanUp (fun x=> !aG d[a]! x) d j i) j
  obtain ⟨t4,e4⟩:=OO (a:=a) (i:=scanUp (fun x=> !aG d[a]! x) d j i) ha (by omega) hs j hj
  rw[partEqLoop_eq,af (by omega)]
  refine ⟨((scanDown (fun x=>aG d[a]! x) d (scanUp (fun x=> !aG d[a]! x) d j i) j:Nat):Int),true,cl ?_⟩
  simp only[zl,DU,un]
  rw[e3]
  simp only[Option.bind_some,un]
  rw[e4]
  simp (disch:=omega) only[Option.bind_some,un,ox,cond_true]
 | succ n ih=>
  intro i j d hn h1 h2 ha hj hs
  obtain ⟨t3,e3⟩:=Yv (a:=a) ha hj hs _ i rfl h2
  have g1:=scanUp_ge (fun x=> !aG d[a]! x) d j i
  have g2:=scanDown_le (fun x=>aG d[a]! x) d (scanUp (fun x=> !aG d[a]! x) d j i) j
  obtain ⟨t4,e4⟩:=OO (a:=a) (i:=scanUp (fun x=> !aG d[a]! x) d j i) ha (by omega) hs j hj
  rw[partEqLoop_eq]
  have f:zl CC a ((i:Int),(j:Int),eA d)=zl CC a ((i:Int),(j:Int),eA d):=rfl
  conv at f=>rhs;simp only[zl,DU,un];rw[e3];simp only[Option.bind_some,un];rw[e4];simp only[Option.bind_some,un]
  generalize nZ:scanUp (fun x=> !aG d[a]! x) d j i=i2 at*
  generalize cv:scanDown (fun x=>aG d[a]! x) d i2 j=j2 at*
  by_cases h:i2>j2
  ·rw[af h]
   refine ⟨(j2:Int),true,cl (f.trans ?_)⟩
   simp (disch:=omega) only[Option.bind_some,ox,cond_true]
  ·rw[ah h]
   obtain ⟨x,z,e⟩:=ih (i2+1) (j2-1) (swp d i2 j2) (by omega) (by omega) (by rw[size_swp];omega) (by rw[size_swp];omega) (by rw[size_swp];omega) (by rw[size_swp];omega)
   refine ⟨x,z,(eu (f.trans ?_)).trans e⟩
   simp (disch:=omega) only[aJ,dr,gU,af,ah,wrap64,dC,gD,Int.toNat_natCast,Option.bind_some,gA,gC,Ed.dR,Ed.dS,Ed.dU,Ed.re,gB,iP,g9,gW,V.cq,V.toInt_int,cond_true,cond_false,kS]
   rfl
theorem ai5 {a b pivot:Nat} {d:Array Ed} (hp:pivot<b) (gq:a<b) (hb:b≤d.size) (hs:d.size<1152921504606846976):
  CC yk [.int .i64 (a:Int),.int .i64 (b:Int),.int .i64 (pivot:Int),.list aF (eA d)]=
   some [.int .i64 ((partitionEqual aG d a b pivot).1:Int),.list aF (eA (partitionEqual aG d a b pivot).2)]:=by
 refine aiN ?_
 unfold Yo
 have z1:(swp d a pivot).size=d.size:=size_swp ..
 obtain ⟨x,z,e⟩:=ai4 (a:=a) _ (a+1) (b-1) (swp d a pivot) (aI _) (by omega) (by omega) (by omega) (by omega) (by omega)
 simp (disch:=omega) only[aJ,dr,af,gA,gC,Int.toNat_natCast,Option.bind_some,Ed.dR,Ed.dS,Ed.dU,Ed.re,gB,iP,g9,kS,dC,wrap64,zn]
 rw[e]
 rfl
theorem ai6 {a b j:Nat} {d:Array Ed} (hb:b≤d.size) (hs:d.size<1152921504606846976): ∀(n i:Nat),b-i=n→1≤i→i≤b→
  ∃t,Loop (DW CC a b j (eA d)) (i:Int)=some (((scanSorted aG d b i:Nat):Int),t):=by
 intro n
 induction n with
 | zero=>
  intro i hn h1 hi
  rw[I5,ah (by omega)]
  exact ⟨false,cl (by simp (disch:=omega) only[DW,DV,aJ,ah])⟩
 | succ n ih=>
  intro i hn h1 hi
  obtain ⟨t,h⟩:=ih (i+1) (by omega) (by omega) (by omega)
  rw[I5,af (by omega)]
  have e:DW CC a b j (eA d) (i:Int)=if b8 d[i]! d[i-1]! <0 then some (.inr ((i:Int),!decide (b8 d[i]! d[i-1]! <0))) else some (.inl ((i+1:Nat):Int)):=by
   simp (disch:=omega) only[DW,DV,kS,aJ,dr,gU,af,ah,wrap64,dC,gD,Int.toNat_natCast,Option.bind_some,gA,gC,Ed.dR,Ed.dS,Ed.dU,Ed.re,gB,iP,g9,gW,V.cq,V.toInt_int,cond_true,cond_false]
  by_cases h2:b8 d[i]! d[i-1]! <0
  ·rw[af h2] at e⊢
   exact ⟨_,cl e⟩
  ·rw[ah h2] at e⊢
   exact ⟨t,(eu e).trans h⟩
theorem Yw: ∀(j:Nat) (d:Array Ed),(shiftDown aG j d).size=d.size
 | 0,_=>rfl
 | j+1,d=>by
  rw[Ys]
  split
  ·rw[Yw j,size_swp]
  ·rfl
theorem ai7 {b:Nat}: ∀(n j:Nat) (d:Array Ed),b-j=n→(shiftUp aG b j d).size=d.size:=by
 intro n
 induction n with
 | zero=>intro j d h;rw[I6,ah (by omega)]
 | succ n ih=>
  intro j d h
  rw[I6,af (by omega)]
  split
  ·rw[ih _ _ (by omega),size_swp]
  ·rfl
theorem Yx {a b i k:Nat}: ∀(j:Nat) (d:Array Ed),j<d.size→d.size<1152921504606846976→
  ∃t,Loop (DY CC a b i k) ((j:Int),eA d)=some (t,eA (shiftDown aG j d))
 | 0,d,hj,hs=>⟨(0:Nat),cl (by
   simp (disch:=omega) only[DY,DX,un,aJ,ah]
   rfl)⟩
 | j+1,d,hj,hs=>by
  obtain ⟨t,ih⟩:=Yx (a:=a) (b:=b) (i:=i) (k:=k) j (swp d (j+1) j) (by rw[size_swp];omega) (by rw[size_swp];omega)
  rw[Ys]
  have e:DY CC a b i k (((j+1:Nat):Int),eA d)=if b8 d[j+1]! d[j]! <0 then some (.inl ((j:Int),eA (swp d (j+1) j))) else some (.inr (((j+1:Nat):Int),eA d)):=by
   simp (disch:=omega) only[DY,DX,un,aJ,dr,gU,af,ah,wrap64,dC,gD,Int.toNat_natCast,Option.bind_some,gA,gC,Ed.dR,Ed.dS,Ed.dU,Ed.re,gB,iP,g9,gW,V.cq,V.toInt_int,cond_true,cond_false,wj]
   rfl
  by_cases h2:b8 d[j+1]! d[j]! <0
  ·rw[af h2] at e⊢
   exact ⟨t,(eu e).trans ih⟩
  ·rw[ah h2] at e⊢
   exact ⟨_,cl e⟩
theorem ai8 {a b i k:Nat}: ∀(n j:Nat) (d:Array Ed),b-j=n→1≤j→j≤b→b≤d.size→d.size<1152921504606846976→
  ∃t,Loop (D0 CC a b i k) ((j:Int),eA d)=some (t,eA (shiftUp aG b j d)):=by
 intro n
 induction n with
 | zero=>
  intro j d hn h1 hj hb hs
  rw[I6,ah (by omega)]
  exact ⟨(j:Int),cl (by
   simp (disch:=omega) only[D0,DZ,un,aJ,ah])⟩
 | succ n ih=>
  intro j d hn h1 hj hb hs
  obtain ⟨t,h⟩:=ih (j+1) (swp d j (j-1)) (by omega) (by omega) (by omega) (by rw[size_swp];omega) (by rw[size_swp];omega)
  rw[I6,af (by omega)]
  have e:D0 CC a b i k ((j:Int),eA d)=if b8 d[j]! d[j-1]! <0 then some (.inl (((j+1:Nat):Int),eA (swp d j (j-1)))) else some (.inr ((j:Int),eA d)):=by
   simp (disch:=omega) only[D0,DZ,un,kS,aJ,dr,gU,af,ah,wrap64,dC,gD,Int.toNat_natCast,Option.bind_some,gA,gC,Ed.dR,Ed.dS,Ed.dU,Ed.re,gB,iP,g9,gW,V.cq,V.toInt_int,cond_true,cond_false]
   rfl
  by_cases h2:b8 d[j]! d[j-1]! <0
  ·rw[af h2] at e⊢
   exact ⟨t,(eu e).trans h⟩
  ·rw[ah h2] at e⊢
   exact ⟨_,cl e⟩
theorem ai9 {d:Array Ed} {b:Nat}: ∀(n i:Nat),b-i=n→i≤b→i≤scanSorted aG d b i∧scanSorted aG d b i≤b:=by
 intro n
 induction n with
 | zero=>intro i hn hi;rw[I5,ah (by omega)];omega
 | succ n ih=>
  intro i hn hi
  rw[I5,af (by omega)]
  obtain ⟨h1,h2⟩:=ih (i+1) (by omega) (by omega)
  split<;>omega
theorem aja {a b:Nat}: ∀(s i:Nat) (d:Array Ed),s≤5→a<i→i≤b→b≤d.size→d.size<1152921504606846976→
  (Loop (uf CC a b) ((i:Int),((5-s:Nat):Int),eA d)=some (.inl ((partialIns aG a b s i d).2,eA (partialIns aG a b s i d).1)))∨
  (∃x y z,(partialIns aG a b s i d).2=false∧Loop (uf CC a b) ((i:Int),((5-s:Nat):Int),eA d)=some (.inr (x,y,z,eA (partialIns aG a b s i d).1))):=by
 intro s
 induction s with
 | zero=>
  intro i d hs5 hi OP hb hs
  refine .inr ⟨(i:Int),((5:Nat):Int),false,rfl,cl ?_⟩
  simp (disch:=omega) only[uf,D1,un,pz,cond_false]
  rfl
 | succ s ih=>
  intro i d hs5 hi OP hb hs
  obtain ⟨t1,e1⟩:=ai6 (a:=a) (j:=5-(s+1)) hb hs _ i rfl (by omega) OP
  obtain ⟨q1,q2⟩:=ai9 (d:=d) _ i rfl OP
  rw[partialIns_succ]
  have f:uf CC a b ((i:Int),((5-(s+1):Nat):Int),eA d)=uf CC a b ((i:Int),((5-(s+1):Nat):Int),eA d):=rfl
  conv at f=>rhs;simp only[uf,D1,un];rw[aJ,af (by omega),e1];simp only[Option.bind_some,un]
  generalize scanSorted aG d b i=k at*
  by_cases h1:k=b
  ·rw[af h1]
   left
   refine cl (f.trans ?_)
   rw[rS,af (by omega)]
  ·rw[ah h1]
   by_cases h2:b-a<50
   ·rw[af h2]
    left
    refine cl (f.trans ?_)
    rw[rS,ah (by omega),wrap64 (by omega) (by omega),aJ,af (by omega)]
   ·rw[ah h2]
    have z1:(swp d k (k-1)).size=d.size:=size_swp ..
    have z2:(fixDown aG a k (swp d k (k-1))).size=d.size:=by
     unfold fixDown
     split
     ·rw[Yw,z1]
     ·exact z1
    have z3:(fixUp aG b k (fixDown aG a k (swp d k (k-1)))).size=d.size:=by
     unfold fixUp
     split
     ·rw[ai7 _ _ _ rfl,z2]
     ·exact z2
    obtain ⟨t2,e2⟩:=Yx (a:=a) (b:=b) (i:=k) (k:=5-(s+1)) (k-1) (swp d k (k-1)) (by omega) (by omega)
    obtain ⟨t4,e4⟩:=ai8 (a:=a) (b:=b) (i:=k) (k:=5-(s+1)) _ (k+1) (fixDown aG a k (swp d k (k-1))) rfl (by omega) (by omega) (by omega) (by omega)
    have e5:uf CC a b ((i:Int),((5-(s+1):Nat):Int),eA d)=some (.inl ((k:Int),((5-s:Nat):Int),eA (fixUp aG b k (fixDown aG a k (swp d k (k-1)))))):=by
     refine f.trans ?_
     rw[rS,ah (by omega),wrap64 (by omega) (by omega),aJ,ah (by omega)]
     simp (disch:=omega) only[aJ,dr,af,gA,gC,Int.toNat_natCast,Option.bind_some,Ed.dR,Ed.dS,Ed.dU,Ed.re,gB,iP,g9,kS,dC,np,wrap64,zn,I4]
     rw[show 5-(s+1)+1=5-s by omega]
     unfold fixDown at e4⊢
     unfold fixUp
     have c1:(((k-a:Nat):Int)≥2)=(k-a≥2):=propext (by omega)
     have c2:(((b-k:Nat):Int)≥2)=(b-k≥2):=propext (by omega)
     simp only[c1,c2]
     by_cases g1:k-a≥2
     ·by_cases g2:b-k≥2
      ·simp only[g1,g2,iR,e2,Option.bind_some,un] at e4⊢
       rw[e4]
       rfl
      ·simp only[g1,g2,iR,ky,e2,Option.bind_some,un]
     ·by_cases g2:b-k≥2
      ·simp only[g1,g2,iR,ky] at e4⊢
       rw[e4]
       rfl
      ·exact absurd (show b-k≥2 by omega) g2
    rw[eu e5]
    exact ih k _ (by omega) (by omega) (by omega) (by omega) (by omega)
theorem Yy {a b:Nat} {d:Array Ed} (gq:a<b) (hb:b≤d.size) (hs:d.size<1152921504606846976):
  CC LX [.int .i64 (a:Int),.int .i64 (b:Int),.list aF (eA d)]=
   some [.bool (partialInsertionSort aG d a b).2,.list aF (eA (partialInsertionSort aG d a b).1)]:=by
 refine aiY ?_
 unfold Yr
 simp (disch:=omega) only[dC,wrap64]
 rcases aja (a:=a) (b:=b) 5 (a+1) d (aI _) (by omega) (by omega) hb hs with h|⟨x,y,z,h0,h⟩
 ·rw[show ((5-5:Nat):Int)=0 from rfl] at h
  rw[h]
  rfl
 ·rw[show ((5-5:Nat):Int)=0 from rfl] at h
  rw[h]
  unfold partialInsertionSort
  rw[h0]
  rfl
end Go.AM.SL
set_option maxRecDepth 100000
namespace Go.AM
open Go.Proofs
noncomputable abbrev ug:Code:=cN Tryd.prog (aD.bd 173)
noncomputable def D3 (C:ae) (data:List V) (i j k':Int) (t36:Bool) (im:Int) {β:Type} (kr:(Int × Int × Int × Int)→Option β):Option β:=
 bif t36 then
  (C BV [.list aF data,.int .i64 i,.int .i64 im]).bind fun r1=>
  (C BV [.list aF data,.int .i64 j,.int .i64 ((V.nth (r1.drop 1) 0).toInt)]).bind fun r2=>
  (C BV [.list aF data,.int .i64 k',.int .i64 ((V.nth (r2.drop 1) 0).toInt)]).bind fun r3=>
  kr ((V.nth r1 0).toInt,(V.nth r2 0).toInt,(V.nth r3 0).toInt,(V.nth (r3.drop 1) 0).toInt)
 else
  kr (i,j,k',im)
noncomputable def D4 (C:ae) (data:List V) (l i j k':Int) (t34:Bool) (im:Int) {β:Type} (kr:(Int × Int)→Option β):Option β:=
 bif t34 then
  D3 C data i j k' (decide ((l:Int)≥50)) im (un fun (fK:Int)=>un fun (j_5:Int)=>un fun (k_6:Int) (ajb:Int)=>
   (C Hr [.list aF data,.int .i64 fK,.int .i64 j_5,.int .i64 k_6,.int .i64 ajb]).bind fun r8=>
   kr ((V.nth r8 0).toInt,(V.nth (r8.drop 1) 0).toInt))
 else
  kr (j,im)
noncomputable def Yz (C:ae):cH:=fun β n ds k=>
 bif Nat.beq n 591 then pf Nn [[1,0,0,0,0]] (@D3 C) ds k else
 bif Nat.beq n 559 then pf No [[0,0]] (@D4 C) ds k else
 none
abbrev YA (C:ae) (b:cE):Prop:=cF Tryd.prog aD C (Yz C) 173 (cQ Tryd.prog (aD.bd 173)) (aD.sin 173).bf.length b
theorem ajc (C:ae):YA C (.cond 36 (av [1,1,1,1,1,1,0,1,0,0,1,0] ug) (av [1,1,1,1,1,1,0,1,0,0,1,1] ug)):=
 ql Nn [[1,0,0,0,0]] (@D3 C) (by kernel_rfl) (bc (bs:=[]) (by kernel_rfl) aC) (bc (bs:=[]) (by kernel_rfl) aC) (fun ds=>by kernel_rfl) (fun i β k=>by kernel_rfl) (fun β ds k=>by kernel_rfl)
theorem ajd (C:ae):YA C (.cond 34 (av [1,1,1,1,1,1,0,1,0] ug) (av [1,1,1,1,1,1,0,1,1] ug)):=
 ql No [[0,0]] (@D4 C) (by kernel_rfl) (bc (bs:=[.cond 36 (av [1,1,1,1,1,1,0,1,0,0,1,0] ug) (av [1,1,1,1,1,1,0,1,0,0,1,1] ug)]) (by kernel_rfl) (bt (ajc C) aC)) (bc (bs:=[]) (by kernel_rfl) aC) (fun ds=>by kernel_rfl) (fun i β k=>by kernel_rfl) (fun β ds k=>by kernel_rfl)
noncomputable def OQ (C:ae) (data:List V) (a b':Int):Option (List V):=
 D4 C data (IntKind.wrap .i64 (b'-a)) (IntKind.wrap .i64 (a+(IntKind.wrap .i64 (1*(IntKind.wrap .i64 (Int.tdiv (IntKind.wrap .i64 (b'-a)) 4)))))) (IntKind.wrap .i64 (a+(IntKind.wrap .i64 (2*(IntKind.wrap .i64 (Int.tdiv (IntKind.wrap .i64 (b'-a)) 4)))))) (IntKind.wrap .i64 (a+(IntKind.wrap .i64 (3*(IntKind.wrap .i64 (Int.tdiv (IntKind.wrap .i64 (b'-a)) 4)))))) (decide (((IntKind.wrap .i64 (b'-a)):Int)≥8)) 0 (un fun (OR:Int) (YB:Int)=>
  bif (YB:Int)==0 then
   some [.int .i64 OR,.int .i64 1]
  else
   bif (YB:Int)==12 then
   some [.int .i64 OR,.int .i64 2]
   else
   some [.int .i64 OR,.int .i64 0])
theorem YC {data:List V} {a b':Int} {r:Option (List V)} (h:OQ CC data a b'=r):CC Hq [.list aF data,.int .i64 a,.int .i64 b']=r:=
 bC (key:=173) (L:=Yz CC) (bs:=[.cond 34 (av [1,1,1,1,1,1,0,1,0] ug) (av [1,1,1,1,1,1,0,1,1] ug)]) (by kernel_rfl) (bt (ajd CC) aC) (bw (by kernel_rfl) h)
noncomputable def YD (C:ae) (data:List V) (a b' c im:Int):Option (List V):=
 (C BW [.list aF data,.int .i64 a,.int .i64 b',.int .i64 im]).bind fun r1=>
 (C BW [.list aF data,.int .i64 ((V.nth (r1.drop 1) 0).toInt),.int .i64 c,.int .i64 ((V.nth (r1.drop 2) 0).toInt)]).bind fun r2=>
 (C BW [.list aF data,.int .i64 ((V.nth r1 0).toInt),.int .i64 ((V.nth r2 0).toInt),.int .i64 ((V.nth (r2.drop 2) 0).toInt)]).bind fun r3=>
 some [.int .i64 ((V.nth (r3.drop 1) 0).toInt),.int .i64 ((V.nth (r3.drop 2) 0).toInt)]
theorem aje {data:List V} {a b' c im:Int} {r:Option (List V)} (h:YD CC data a b' c im=r):CC Hr [.list aF data,.int .i64 a,.int .i64 b',.int .i64 c,.int .i64 im]=r:=
 bC (key:=175) (L:=dg) (bs:=[]) (by kernel_rfl) aC (bw (by kernel_rfl) h)
noncomputable def OS (C:ae) (data:List V) (a b' im:Int):Option (List V):=
 (idx data b').bind fun x1=>
 (idx data a).bind fun x2=>
 (C bx [.int .i64 ((x1.cell 0).toInt),.int .i64 ((x1.cell 1).toInt),.int .i64 ((x1.cell 2).toInt),.int .i64 ((x2.cell 0).toInt),.int .i64 ((x2.cell 1).toInt),.int .i64 ((x2.cell 2).toInt)]).bind fun r3=>
 bif decide ((((V.nth r3 0).toInt):Int)<0) then
  some [.int .i64 b',.int .i64 a,.int .i64 (IntKind.wrap .i64 (im+1))]
 else
  some [.int .i64 a,.int .i64 b',.int .i64 im]
theorem YE {data:List V} {a b' im:Int} {r:Option (List V)} (h:OS CC data a b' im=r):CC BW [.list aF data,.int .i64 a,.int .i64 b',.int .i64 im]=r:=
 bC (key:=176) (L:=dg) (bs:=[]) (by kernel_rfl) aC (bw (by kernel_rfl) h)
noncomputable def YF (C:ae) (data:List V) (a im:Int):Option (List V):=
 (C Hr [.list aF data,.int .i64 (IntKind.wrap .i64 (a-1)),.int .i64 a,.int .i64 (IntKind.wrap .i64 (a+1)),.int .i64 im]).bind fun r1=>
 some [.int .i64 ((V.nth r1 0).toInt),.int .i64 ((V.nth (r1.drop 1) 0).toInt)]
theorem ajf {data:List V} {a im:Int} {r:Option (List V)} (h:YF CC data a im=r):CC BV [.list aF data,.int .i64 a,.int .i64 im]=r:=
 bC (key:=174) (L:=dg) (bs:=[]) (by kernel_rfl) aC (bw (by kernel_rfl) h)
noncomputable abbrev zo:Code:=cN Tryd.prog (aD.bd 172)
noncomputable def I9 (C:ae) (a length zp kj other:Int) (t45:Bool) (aj:List V) (D5:Int) {β:Type} (kr:(Int)→Option β):Option β:=
 bif t45 then
  kr (IntKind.wrap .i64 (other-length))
 else
  kr other
noncomputable def D6 (C:ae) (a length zp kj:Int) (aj:List V) (D5:Int) {β:Type} (kn:(Int × (List V) × Int)→Option β) (kr:(Int × Bool × (List V) × Int)→Option β):Option β:=
 bif decide ((kj:Int)≤(IntKind.wrap .i64 ((IntKind.wrap .i64 (a+(IntKind.wrap .i64 (2*(IntKind.wrap .i64 (Int.tdiv length 4))))))+1))) then
  (C Hn [.int .u64 D5]).bind fun r2=>
  I9 C a length zp kj (IntKind.wrap .i64 (IntKind.wrap .u64 ((BitVec.ofInt (IntKind.bits .u64) ((V.nth r2 0).toInt)&&&BitVec.ofInt (IntKind.bits .u64) (IntKind.wrap .u64 (zp-1))).toNat))) (decide (((IntKind.wrap .i64 (IntKind.wrap .u64 ((BitVec.ofInt (IntKind.bits .u64) ((V.nth r2 0).toInt)&&&BitVec.ofInt (IntKind.bits .u64) (IntKind.wrap .u64 (zp-1))).toNat))):Int)≥length)) aj ((V.nth (r2.drop 1) 0).toInt) (fun (wB:Int)=>
   bif (decide (0≤(IntKind.wrap .i64 (a+wB))))&&(decide ((IntKind.wrap .i64 (a+wB))<(aj.length:Int))) then
   (aj[(IntKind.wrap .i64 (a+wB):Int).toNat]?).bind fun x4=>
   bif (decide (0≤kj))&&(decide (kj<(aj.length:Int))) then
    (aj[(kj:Int).toNat]?).bind fun x5=>
    bif (decide (0≤kj))&&(decide (kj<(aj.length:Int))) then
    (aj[(kj:Int).toNat]?).bind fun x6=>
    bif (decide (0≤(IntKind.wrap .i64 (a+wB))))&&(decide ((IntKind.wrap .i64 (a+wB))<((aj.set ((kj:Int).toNat) (.agg [.int .i64 ((x4.cell 0).toInt),.int .i64 ((x4.cell 1).toInt),.int .i64 ((x4.cell 2).toInt)])).length:Int))) then
     ((aj.set ((kj:Int).toNat) (.agg [.int .i64 ((x4.cell 0).toInt),.int .i64 ((x4.cell 1).toInt),.int .i64 ((x4.cell 2).toInt)]))[(IntKind.wrap .i64 (a+wB):Int).toNat]?).bind fun x7=>
     kn (IntKind.wrap .i64 (kj+1),(aj.set ((kj:Int).toNat) (.agg [.int .i64 ((x4.cell 0).toInt),.int .i64 ((x4.cell 1).toInt),.int .i64 ((x4.cell 2).toInt)])).set ((IntKind.wrap .i64 (a+wB):Int).toNat) (.agg [.int .i64 ((x5.cell 0).toInt),.int .i64 ((x5.cell 1).toInt),.int .i64 ((x5.cell 2).toInt)]),(V.nth (r2.drop 1) 0).toInt)
    else none
    else none
   else none
   else none)
 else
  kr (kj,decide ((kj:Int)≤(IntKind.wrap .i64 ((IntKind.wrap .i64 (a+(IntKind.wrap .i64 (2*(IntKind.wrap .i64 (Int.tdiv length 4))))))+1))),aj,D5)
noncomputable def Ja (C:ae) (a length zp:Int):(Int × (List V) × Int)→Option ((Int × (List V) × Int) ⊕ (Int × Bool × (List V) × Int)):=un fun kj=>un fun aj D5=>D6 C a length zp kj aj D5 (fun y=>some (.inl y)) (fun r=>some (.inr r))
noncomputable def YG (C:ae):cH:=fun β n ds k=>
 bif Nat.beq n 735 then pf Nl [[1,2,3,4,0,7,8]] (@I9 C) ds k else
 bif Nat.beq n 81 then bE Nm [false,false,false,true,true,true] [[1,2,3,0,0,0,0]] (@D6 C) ds k else
 none
abbrev YH (C:ae) (b:cE):Prop:=cF Tryd.prog aD C (YG C) 172 (cQ Tryd.prog (aD.bd 172)) (aD.sin 172).bf.length b
theorem ajg (C:ae):YH C (.cond 45 (av [1,1,0,1,1,1,0,0,1,0,0,1,0,1,0] zo) (av [1,1,0,1,1,1,0,0,1,0,0,1,0,1,1] zo)):=
 ql Nl [[1,2,3,4,0,7,8]] (@I9 C) (by kernel_rfl) (bc (bs:=[]) (by kernel_rfl) aC) (bc (bs:=[]) (by kernel_rfl) aC) (fun ds=>by kernel_rfl) (fun i β k=>by kernel_rfl) (fun β ds k=>by kernel_rfl)
theorem ajh (C:ae):YH C (.loop (av [1,1,0,1,1,1,0,0] zo)):=
 bH Nm [false,false,false,true,true,true] [[1,2,3,0,0,0,0]] (@D6 C) (by kernel_rfl) (bc (bs:=[.cond 45 (av [1,1,0,1,1,1,0,0,1,0,0,1,0,1,0] zo) (av [1,1,0,1,1,1,0,0,1,0,0,1,0,1,1] zo)]) (by kernel_rfl) (bt (ajg C) aC)) (fun ds=>by kernel_rfl) (fun i x=>by kernel_rfl) (fun i x β k=>by kernel_rfl) (fun β ds k=>by kernel_rfl)
noncomputable def YI (C:ae) (a b':Int) (aj:List V):Option (List V):=
 bif decide (((IntKind.wrap .i64 (b'-a)):Int)≥8) then
  (C Hm [.int .i64 (IntKind.wrap .i64 (b'-a))]).bind fun r1=>
  (Loop (Ja C a (IntKind.wrap .i64 (b'-a)) ((V.nth r1 0).toInt)) (IntKind.wrap .i64 ((IntKind.wrap .i64 (a+(IntKind.wrap .i64 (2*(IntKind.wrap .i64 (Int.tdiv (IntKind.wrap .i64 (b'-a)) 4))))))-1),aj,IntKind.wrap .u64 (IntKind.wrap .i64 (b'-a)))).bind (un fun (aqA:Int)=>un fun (v8:Bool)=>un fun (pA:List V) (aqB:Int)=>
   some [.list aF pA])
 else
  some [.list aF aj]
theorem aji {a b':Int} {aj:List V} {r:Option (List V)} (h:YI CC a b' aj=r):CC LV [.int .i64 a,.int .i64 b',.list aF aj]=r:=
 bC (key:=172) (L:=YG CC) (bs:=[.loop (av [1,1,0,1,1,1,0,0] zo)]) (by kernel_rfl) (bt (ajh CC) aC) (bw (by kernel_rfl) h)
noncomputable def YJ (C:ae) (jr:Int):Option (List V):=
 some [.int .u64 (IntKind.wrap .u64 ((BitVec.ofInt (IntKind.bits .u64) (IntKind.wrap .u64 ((BitVec.ofInt (IntKind.bits .u64) (IntKind.wrap .u64 ((BitVec.ofInt (IntKind.bits .u64) jr ^^^ BitVec.ofInt (IntKind.bits .u64) (IntKind.wrap .u64 (jr*2^(min (13:Int).toNat (IntKind.bits .u64))))).toNat)) ^^^ BitVec.ofInt (IntKind.bits .u64) (Int.fdiv (IntKind.wrap .u64 ((BitVec.ofInt (IntKind.bits .u64) jr ^^^ BitVec.ofInt (IntKind.bits .u64) (IntKind.wrap .u64 (jr*2^(min (13:Int).toNat (IntKind.bits .u64))))).toNat)) (2^(min (7:Int).toNat (IntKind.bits .u64))))).toNat)) ^^^ BitVec.ofInt (IntKind.bits .u64) (IntKind.wrap .u64 ((IntKind.wrap .u64 ((BitVec.ofInt (IntKind.bits .u64) (IntKind.wrap .u64 ((BitVec.ofInt (IntKind.bits .u64) jr ^^^ BitVec.ofInt (IntKind.bits .u64) (IntKind.wrap .u64 (jr*2^(min (13:Int).toNat (IntKind.bits .u64))))).toNat)) ^^^ BitVec.ofInt (IntKind.bits .u64) (Int.fdiv (IntKind.wrap .u64 ((BitVec.ofInt (IntKind.bits .u64) jr ^^^ BitVec.ofInt (IntKind.bits .u64) (IntKind.wrap .u64 (jr*2^(min (13:Int).toNat (IntKind.bits .u64))))).toNat)) (2^(min (7:Int).toNat (IntKind.bits .u64))))).toNat))*2^(min (17:Int).toNat (IntKind.bits .u64))))).toNat)),.int .u64 (IntKind.wrap .u64 ((BitVec.ofInt (IntKind.bits .u64) (IntKind.wrap .u64 ((BitVec.ofInt (IntKind.bits .u64) (IntKind.wrap .u64 ((BitVec.ofInt (IntKind.bits .u64) jr ^^^ BitVec.ofInt (IntKind.bits .u64) (IntKind.wrap .u64 (jr*2^(min (13:Int).toNat (IntKind.bits .u64))))).toNat)) ^^^ BitVec.ofInt (IntKind.bits .u64) (Int.fdiv (IntKind.wrap .u64 ((BitVec.ofInt (IntKind.bits .u64) jr ^^^ BitVec.ofInt (IntKind.bits .u64) (IntKind.wrap .u64 (jr*2^(min (13:Int).toNat (IntKind.bits .u64))))).toNat)) (2^(min (7:Int).toNat (IntKind.bits .u64))))).toNat)) ^^^ BitVec.ofInt (IntKind.bits .u64) (IntKind.wrap .u64 ((IntKind.wrap .u64 ((BitVec.ofInt (IntKind.bits .u64) (IntKind.wrap .u64 ((BitVec.ofInt (IntKind.bits .u64) jr ^^^ BitVec.ofInt (IntKind.bits .u64) (IntKind.wrap .u64 (jr*2^(min (13:Int).toNat (IntKind.bits .u64))))).toNat)) ^^^ BitVec.ofInt (IntKind.bits .u64) (Int.fdiv (IntKind.wrap .u64 ((BitVec.ofInt (IntKind.bits .u64) jr ^^^ BitVec.ofInt (IntKind.bits .u64) (IntKind.wrap .u64 (jr*2^(min (13:Int).toNat (IntKind.bits .u64))))).toNat)) (2^(min (7:Int).toNat (IntKind.bits .u64))))).toNat))*2^(min (17:Int).toNat (IntKind.bits .u64))))).toNat))]
theorem ajj {jr:Int} {r:Option (List V)} (h:YJ CC jr=r):CC Hn [.int .u64 jr]=r:=
 bC (key:=143) (L:=dg) (bs:=[]) (by kernel_rfl) aC (bw (by kernel_rfl) h)
noncomputable def YK (C:ae) (length:Int):Option (List V):=
 (C BO [.int .u64 (IntKind.wrap .u64 length)]).bind fun r1=>
 bif decide (0≤((V.nth r1 0).toInt)) then
  some [.int .u64 (IntKind.wrap .u64 (1*2^(min ((V.nth r1 0).toInt).toNat (IntKind.bits .u64))))]
 else none
theorem ajk {length:Int} {r:Option (List V)} (h:YK CC length=r):CC Hm [.int .i64 length]=r:=
 bC (key:=142) (L:=dg) (bs:=[]) (by kernel_rfl) aC (bw (by kernel_rfl) h)
noncomputable def YL (C:ae) (x:Int):Option (List V):=
 (C Hk [.int .u64 x]).bind fun r1=>
 some [.int .i64 ((V.nth r1 0).toInt)]
theorem ajl {x:Int} {r:Option (List V)} (h:YL CC x=r):CC BO [.int .u64 x]=r:=
 bC (key:=111) (L:=dg) (bs:=[]) (by kernel_rfl) aC (bw (by kernel_rfl) h)
noncomputable abbrev uh:Code:=cN Tryd.prog (aD.bd 134)
noncomputable def wC (C:ae) (x n:Int) (t4:Bool) {β:Type} (kr:(Int × Int)→Option β):Option β:=
 bif t4 then
  kr (Int.fdiv x (2^(min (32:Int).toNat (IntKind.bits .u64))),32)
 else
  kr (x,n)
noncomputable def wD (C:ae) (x n:Int) (t8:Bool) {β:Type} (kr:(Int × Int)→Option β):Option β:=
 bif t8 then
  kr (Int.fdiv x (2^(min (16:Int).toNat (IntKind.bits .u64))),IntKind.wrap .i64 (n+16))
 else
  kr (x,n)
noncomputable def YM (C:ae):cH:=fun β n ds k=>
 bif Nat.beq n 79 then pf M8 [[0,0]] (@wC C) ds k else
 bif Nat.beq n 143 then pf M9 [[0,0]] (@wD C) ds k else
 none
abbrev YN (C:ae) (b:cE):Prop:=cF Tryd.prog aD C (YM C) 134 (cQ Tryd.prog (aD.bd 134)) (aD.sin 134).bf.length b
theorem ajm (C:ae):YN C (.cond 4 (av [1,0,1,0] uh) (av [1,0,1,1] uh)):=
 ql M8 [[0,0]] (@wC C) (by kernel_rfl) (bc (bs:=[]) (by kernel_rfl) aC) (bc (bs:=[]) (by kernel_rfl) aC) (fun ds=>by kernel_rfl) (fun i β k=>by kernel_rfl) (fun β ds k=>by kernel_rfl)
theorem ajn (C:ae):YN C (.cond 8 (av [1,1,0,1,0] uh) (av [1,1,0,1,1] uh)):=
 ql M9 [[0,0]] (@wD C) (by kernel_rfl) (bc (bs:=[]) (by kernel_rfl) aC) (bc (bs:=[]) (by kernel_rfl) aC) (fun ds=>by kernel_rfl) (fun i β k=>by kernel_rfl) (fun β ds k=>by kernel_rfl)
noncomputable def ajo (C:ae) (x:Int):Option (List V):=
 wC C x 0 (decide ((x:Int)≥4294967296)) (un fun (ui:Int) (fe:Int)=>
  wD C ui fe (decide ((ui:Int)≥65536)) (un fun (D7:Int) (fp:Int)=>
   bif decide ((D7:Int)≥256) then
    (bif decide (0≤(IntKind.wrap .u8 (Int.fdiv D7 (2^(min (8:Int).toNat (IntKind.bits .u64)))))) then (([0,1,2,2,3,3,3,3,4,4,4,4,4,4,4,4,5,5,5,5,5,5,5,5,5,5,5,5,5,5,5,5,6,6,6,6,6,6,6,6,6,6,6,6,6,6,6,6,6,6,6,6,6,6,6,6,6,6,6,6,6,6,6,6,7,7,7,7,7,7,7,7,7,7,7,7,7,7,7,7,7,7,7,7,7,7,7,7,7,7,7,7,7,7,7,7,7,7,7,7,7,7,7,7,7,7,7,7,7,7,7,7,7,7,7,7,7,7,7,7,7,7,7,7,7,7,7,7,8,8,8,8,8,8,8,8,8,8,8,8,8,8,8,8,8,8,8,8,8,8,8,8,8,8,8,8,8,8,8,8,8,8,8,8,8,8,8,8,8,8,8,8,8,8,8,8,8,8,8,8,8,8,8,8,8,8,8,8,8,8,8,8,8,8,8,8,8,8,8,8,8,8,8,8,8,8,8,8,8,8,8,8,8,8,8,8,8,8,8,8,8,8,8,8,8,8,8,8,8,8,8,8,8,8,8,8,8,8,8,8,8,8,8,8,8,8,8,8,8,8,8,8,8,8,8,8]:List UInt8)[(IntKind.wrap .u8 (Int.fdiv D7 (2^(min (8:Int).toNat (IntKind.bits .u64)))):Int).toNat]?).map fun b=>V.int .u8 b.toNat else none).bind fun x5=>
    some [.int .i64 (IntKind.wrap .i64 ((IntKind.wrap .i64 (fp+8))+(IntKind.wrap .i64 x5.toInt)))]
   else
    (bif decide (0≤(IntKind.wrap .u8 D7)) then (([0,1,2,2,3,3,3,3,4,4,4,4,4,4,4,4,5,5,5,5,5,5,5,5,5,5,5,5,5,5,5,5,6,6,6,6,6,6,6,6,6,6,6,6,6,6,6,6,6,6,6,6,6,6,6,6,6,6,6,6,6,6,6,6,7,7,7,7,7,7,7,7,7,7,7,7,7,7,7,7,7,7,7,7,7,7,7,7,7,7,7,7,7,7,7,7,7,7,7,7,7,7,7,7,7,7,7,7,7,7,7,7,7,7,7,7,7,7,7,7,7,7,7,7,7,7,7,7,8,8,8,8,8,8,8,8,8,8,8,8,8,8,8,8,8,8,8,8,8,8,8,8,8,8,8,8,8,8,8,8,8,8,8,8,8,8,8,8,8,8,8,8,8,8,8,8,8,8,8,8,8,8,8,8,8,8,8,8,8,8,8,8,8,8,8,8,8,8,8,8,8,8,8,8,8,8,8,8,8,8,8,8,8,8,8,8,8,8,8,8,8,8,8,8,8,8,8,8,8,8,8,8,8,8,8,8,8,8,8,8,8,8,8,8,8,8,8,8,8,8,8,8,8,8,8,8]:List UInt8)[(IntKind.wrap .u8 D7:Int).toNat]?).map fun b=>V.int .u8 b.toNat else none).bind fun x6=>
    some [.int .i64 (IntKind.wrap .i64 (fp+(IntKind.wrap .i64 x6.toInt)))]))
theorem YO {x:Int} {r:Option (List V)} (h:ajo CC x=r):CC Hk [.int .u64 x]=r:=
 bC (key:=134) (L:=YM CC) (bs:=[.cond 4 (av [1,0,1,0] uh) (av [1,0,1,1] uh),.cond 8 (av [1,1,0,1,0] uh) (av [1,1,0,1,1] uh)]) (by kernel_rfl) (bt (ajm CC) (bt (ajn CC) aC)) (bw (by kernel_rfl) h)
noncomputable abbrev mu:Code:=cN Tryd.prog (aD.bd 169)
noncomputable def zq (C:ae) (a b' jO:Int) (ff fC:Bool) (length:Int) (t39:Bool) (aj:List V) {β:Type} (kr:(Int × (List V))→Option β):Option β:=
 bif t39 then
  (C LV [.int .i64 a,.int .i64 b',.list aF aj]).bind fun r3=>
  kr (IntKind.wrap .i64 (jO-1),(V.nth r3 0).toList)
 else
  kr (jO,aj)
noncomputable def zr (C:ae) (a b' jO:Int) (ff fC:Bool) (length pivot hint:Int) (t56:Bool) (aj:List V) {β:Type} (kr:(Int × Int × (List V))→Option β):Option β:=
 bif t56 then
  (C LW [.int .i64 a,.int .i64 b',.list aF aj]).bind fun r7=>
  kr (IntKind.wrap .i64 ((IntKind.wrap .i64 (b'-1))-(IntKind.wrap .i64 (pivot-a))),1,(V.nth r7 0).toList)
 else
  kr (pivot,hint,aj)
noncomputable def nv (C:ae) (a b' jO:Int) (ff fC:Bool) (length pivot:Int) (t75:Bool) (aj:List V) {β:Type} (kr:((Bool × (List V)) ⊕ (List V))→Option β):Option β:=
 bif t75 then
  (C LX [.int .i64 a,.int .i64 b',.list aF aj]).bind fun aO=>
  bif (V.nth aO 0).toBool then
  kr (.inl ((V.nth aO 0).toBool,(V.nth (aO.drop 1) 0).toList))
  else
  kr (.inr ((V.nth (aO.drop 1) 0).toList))
 else
  kr (.inr aj)
noncomputable def qE (C:ae) (a b' jO:Int) (ff fC:Bool) (aj:List V) {β:Type} (kn:(Int × Int × Int × Bool × Bool × (List V))→Option β) (kr:(List V)→Option β):Option β:=
 bif decide (((IntKind.wrap .i64 (b'-a)):Int)≤12) then
  (C Ho [.int .i64 a,.int .i64 b',.list aF aj]).bind fun r1=>
  kr ((V.nth r1 0).toList)
 else
  bif (jO:Int)==0 then
  (C Hp [.int .i64 a,.int .i64 b',.list aF aj]).bind fun r2=>
  kr ((V.nth r2 0).toList)
  else
  zq C a b' jO ff fC (IntKind.wrap .i64 (b'-a)) (!ff) aj (un fun (cL:Int) (D8:List V)=>
   (C Hq [.list aF D8,.int .i64 a,.int .i64 b']).bind fun r6=>
   zr C a b' cL ff fC (IntKind.wrap .i64 (b'-a)) ((V.nth r6 0).toInt) ((V.nth (r6.drop 1) 0).toInt) ((((V.nth (r6.drop 1) 0).toInt):Int)==2) D8 (un fun (ed:Int)=>un fun (OT:Int) (pA:List V)=>
    bif ff then
     bif fC then
     nv C a b' cL ff fC (IntKind.wrap .i64 (b'-a)) ed ((OT:Int)==1) pA (dy (un fun (yR:Bool) (OH:List V)=>
      kr OH) (fun (wE:List V)=>
      bif decide ((a:Int)>0) then
       bif (decide (0≤(IntKind.wrap .i64 (a-1))))&&(decide ((IntKind.wrap .i64 (a-1))<(wE.length:Int))) then
       (wE[(IntKind.wrap .i64 (a-1):Int).toNat]?).bind fun gE=>
       bif (decide (0≤ed))&&(decide (ed<(wE.length:Int))) then
        (wE[(ed:Int).toNat]?).bind fun fJ=>
        (C bx [.int .i64 ((gE.cell 0).toInt),.int .i64 ((gE.cell 1).toInt),.int .i64 ((gE.cell 2).toInt),.int .i64 ((fJ.cell 0).toInt),.int .i64 ((fJ.cell 1).toInt),.int .i64 ((fJ.cell 2).toInt)]).bind fun eJ=>
        bif !(decide ((((V.nth eJ 0).toInt):Int)<0)) then
        (C yk [.int .i64 a,.int .i64 b',.int .i64 ed,.list aF wE]).bind fun uj=>
        kn ((V.nth uj 0).toInt,b',cL,ff,fC,(V.nth (uj.drop 1) 0).toList)
        else
        (C pg [.int .i64 a,.int .i64 b',.int .i64 ed,.list aF wE]).bind fun eS=>
        bif decide (((IntKind.wrap .i64 (((V.nth eS 0).toInt)-a)):Int)<(IntKind.wrap .i64 (b'-((V.nth eS 0).toInt)))) then
         (C ik [.int .i64 a,.int .i64 ((V.nth eS 0).toInt),.int .i64 cL,.list aF ((V.nth (eS.drop 2) 0).toList)]).bind fun gX=>
         kn (IntKind.wrap .i64 (((V.nth eS 0).toInt)+1),b',cL,decide (((IntKind.wrap .i64 (((V.nth eS 0).toInt)-a)):Int)≥(IntKind.wrap .i64 (Int.tdiv (IntKind.wrap .i64 (b'-a)) 8))),(V.nth (eS.drop 1) 0).toBool,(V.nth gX 0).toList)
        else
         (C ik [.int .i64 (IntKind.wrap .i64 (((V.nth eS 0).toInt)+1)),.int .i64 b',.int .i64 cL,.list aF ((V.nth (eS.drop 2) 0).toList)]).bind fun pD=>
         kn (a,(V.nth eS 0).toInt,cL,decide (((IntKind.wrap .i64 (b'-((V.nth eS 0).toInt))):Int)≥(IntKind.wrap .i64 (Int.tdiv (IntKind.wrap .i64 (b'-a)) 8))),(V.nth (eS.drop 1) 0).toBool,(V.nth pD 0).toList)
       else none
       else none
      else
       (C pg [.int .i64 a,.int .i64 b',.int .i64 ed,.list aF wE]).bind fun jN=>
       bif decide (((IntKind.wrap .i64 (((V.nth jN 0).toInt)-a)):Int)<(IntKind.wrap .i64 (b'-((V.nth jN 0).toInt)))) then
       (C ik [.int .i64 a,.int .i64 ((V.nth jN 0).toInt),.int .i64 cL,.list aF ((V.nth (jN.drop 2) 0).toList)]).bind fun OU=>
       kn (IntKind.wrap .i64 (((V.nth jN 0).toInt)+1),b',cL,decide (((IntKind.wrap .i64 (((V.nth jN 0).toInt)-a)):Int)≥(IntKind.wrap .i64 (Int.tdiv (IntKind.wrap .i64 (b'-a)) 8))),(V.nth (jN.drop 1) 0).toBool,(V.nth OU 0).toList)
       else
       (C ik [.int .i64 (IntKind.wrap .i64 (((V.nth jN 0).toInt)+1)),.int .i64 b',.int .i64 cL,.list aF ((V.nth (jN.drop 2) 0).toList)]).bind fun OV=>
       kn (a,(V.nth jN 0).toInt,cL,decide (((IntKind.wrap .i64 (b'-((V.nth jN 0).toInt))):Int)≥(IntKind.wrap .i64 (Int.tdiv (IntKind.wrap .i64 (b'-a)) 8))),(V.nth (jN.drop 1) 0).toBool,(V.nth OV 0).toList)))
     else
     nv C a b' cL ff fC (IntKind.wrap .i64 (b'-a)) ed false pA (dy (un fun (agB:Bool) (ajp:List V)=>
      kr ajp) (fun (sI:List V)=>
      bif decide ((a:Int)>0) then
       bif (decide (0≤(IntKind.wrap .i64 (a-1))))&&(decide ((IntKind.wrap .i64 (a-1))<(sI.length:Int))) then
       (sI[(IntKind.wrap .i64 (a-1):Int).toNat]?).bind fun wy=>
       bif (decide (0≤ed))&&(decide (ed<(sI.length:Int))) then
        (sI[(ed:Int).toNat]?).bind fun wz=>
        (C bx [.int .i64 ((wy.cell 0).toInt),.int .i64 ((wy.cell 1).toInt),.int .i64 ((wy.cell 2).toInt),.int .i64 ((wz.cell 0).toInt),.int .i64 ((wz.cell 1).toInt),.int .i64 ((wz.cell 2).toInt)]).bind fun zf=>
        bif !(decide ((((V.nth zf 0).toInt):Int)<0)) then
        (C yk [.int .i64 a,.int .i64 b',.int .i64 ed,.list aF sI]).bind fun Jb=>
        kn ((V.nth Jb 0).toInt,b',cL,ff,fC,(V.nth (Jb.drop 1) 0).toList)
        else
        (C pg [.int .i64 a,.int .i64 b',.int .i64 ed,.list aF sI]).bind fun mw=>
        bif decide (((IntKind.wrap .i64 (((V.nth mw 0).toInt)-a)):Int)<(IntKind.wrap .i64 (b'-((V.nth mw 0).toInt)))) then
         (C ik [.int .i64 a,.int .i64 ((V.nth mw 0).toInt),.int .i64 cL,.list aF ((V.nth (mw.drop 2) 0).toList)]).bind fun OW=>
         kn (IntKind.wrap .i64 (((V.nth mw 0).toInt)+1),b',cL,decide (((IntKind.wrap .i64 (((V.nth mw 0).toInt)-a)):Int)≥(IntKind.wrap .i64 (Int.tdiv (IntKind.wrap .i64 (b'-a)) 8))),(V.nth (mw.drop 1) 0).toBool,(V.nth OW 0).toList)
        else
         (C ik [.int .i64 (IntKind.wrap .i64 (((V.nth mw 0).toInt)+1)),.int .i64 b',.int .i64 cL,.list aF ((V.nth (mw.drop 2) 0).toList)]).bind fun OX=>
         kn (a,(V.nth mw 0).toInt,cL,decide (((IntKind.wrap .i64 (b'-((V.nth mw 0).toInt))):Int)≥(IntKind.wrap .i64 (Int.tdiv (IntKind.wrap .i64 (b'-a)) 8))),(V.nth (mw.drop 1) 0).toBool,(V.nth OX 0).toList)
       else none
       else none
      else
       (C pg [.int .i64 a,.int .i64 b',.int .i64 ed,.list aF sI]).bind fun my=>
       bif decide (((IntKind.wrap .i64 (((V.nth my 0).toInt)-a)):Int)<(IntKind.wrap .i64 (b'-((V.nth my 0).toInt)))) then
       (C ik [.int .i64 a,.int .i64 ((V.nth my 0).toInt),.int .i64 cL,.list aF ((V.nth (my.drop 2) 0).toList)]).bind fun OY=>
       kn (IntKind.wrap .i64 (((V.nth my 0).toInt)+1),b',cL,decide (((IntKind.wrap .i64 (((V.nth my 0).toInt)-a)):Int)≥(IntKind.wrap .i64 (Int.tdiv (IntKind.wrap .i64 (b'-a)) 8))),(V.nth (my.drop 1) 0).toBool,(V.nth OY 0).toList)
       else
       (C ik [.int .i64 (IntKind.wrap .i64 (((V.nth my 0).toInt)+1)),.int .i64 b',.int .i64 cL,.list aF ((V.nth (my.drop 2) 0).toList)]).bind fun OZ=>
       kn (a,(V.nth my 0).toInt,cL,decide (((IntKind.wrap .i64 (b'-((V.nth my 0).toInt))):Int)≥(IntKind.wrap .i64 (Int.tdiv (IntKind.wrap .i64 (b'-a)) 8))),(V.nth (my.drop 1) 0).toBool,(V.nth OZ 0).toList)))
    else
     nv C a b' cL ff fC (IntKind.wrap .i64 (b'-a)) ed false pA (dy (un fun (aqC:Bool) (ajq:List V)=>
      kr ajq) (fun (ki:List V)=>
      bif decide ((a:Int)>0) then
      bif (decide (0≤(IntKind.wrap .i64 (a-1))))&&(decide ((IntKind.wrap .i64 (a-1))<(ki.length:Int))) then
       (ki[(IntKind.wrap .i64 (a-1):Int).toNat]?).bind fun nu=>
       bif (decide (0≤ed))&&(decide (ed<(ki.length:Int))) then
       (ki[(ed:Int).toNat]?).bind fun wA=>
       (C bx [.int .i64 ((nu.cell 0).toInt),.int .i64 ((nu.cell 1).toInt),.int .i64 ((nu.cell 2).toInt),.int .i64 ((wA.cell 0).toInt),.int .i64 ((wA.cell 1).toInt),.int .i64 ((wA.cell 2).toInt)]).bind fun sM=>
       bif !(decide ((((V.nth sM 0).toInt):Int)<0)) then
        (C yk [.int .i64 a,.int .i64 b',.int .i64 ed,.list aF ki]).bind fun qG=>
        kn ((V.nth qG 0).toInt,b',cL,ff,fC,(V.nth (qG.drop 1) 0).toList)
       else
        (C pg [.int .i64 a,.int .i64 b',.int .i64 ed,.list aF ki]).bind fun mz=>
        bif decide (((IntKind.wrap .i64 (((V.nth mz 0).toInt)-a)):Int)<(IntKind.wrap .i64 (b'-((V.nth mz 0).toInt)))) then
        (C ik [.int .i64 a,.int .i64 ((V.nth mz 0).toInt),.int .i64 cL,.list aF ((V.nth (mz.drop 2) 0).toList)]).bind fun O0=>
        kn (IntKind.wrap .i64 (((V.nth mz 0).toInt)+1),b',cL,decide (((IntKind.wrap .i64 (((V.nth mz 0).toInt)-a)):Int)≥(IntKind.wrap .i64 (Int.tdiv (IntKind.wrap .i64 (b'-a)) 8))),(V.nth (mz.drop 1) 0).toBool,(V.nth O0 0).toList)
        else
        (C ik [.int .i64 (IntKind.wrap .i64 (((V.nth mz 0).toInt)+1)),.int .i64 b',.int .i64 cL,.list aF ((V.nth (mz.drop 2) 0).toList)]).bind fun O1=>
        kn (a,(V.nth mz 0).toInt,cL,decide (((IntKind.wrap .i64 (b'-((V.nth mz 0).toInt))):Int)≥(IntKind.wrap .i64 (Int.tdiv (IntKind.wrap .i64 (b'-a)) 8))),(V.nth (mz.drop 1) 0).toBool,(V.nth O1 0).toList)
       else none
      else none
      else
      (C pg [.int .i64 a,.int .i64 b',.int .i64 ed,.list aF ki]).bind fun mA=>
      bif decide (((IntKind.wrap .i64 (((V.nth mA 0).toInt)-a)):Int)<(IntKind.wrap .i64 (b'-((V.nth mA 0).toInt)))) then
       (C ik [.int .i64 a,.int .i64 ((V.nth mA 0).toInt),.int .i64 cL,.list aF ((V.nth (mA.drop 2) 0).toList)]).bind fun O2=>
       kn (IntKind.wrap .i64 (((V.nth mA 0).toInt)+1),b',cL,decide (((IntKind.wrap .i64 (((V.nth mA 0).toInt)-a)):Int)≥(IntKind.wrap .i64 (Int.tdiv (IntKind.wrap .i64 (b'-a)) 8))),(V.nth (mA.drop 1) 0).toBool,(V.nth O2 0).toList)
      else
       (C ik [.int .i64 (IntKind.wrap .i64 (((V.nth mA 0).toInt)+1)),.int .i64 b',.int .i64 cL,.list aF ((V.nth (mA.drop 2) 0).toList)]).bind fun O3=>
       kn (a,(V.nth mA 0).toInt,cL,decide (((IntKind.wrap .i64 (b'-((V.nth mA 0).toInt))):Int)≥(IntKind.wrap .i64 (Int.tdiv (IntKind.wrap .i64 (b'-a)) 8))),(V.nth (mA.drop 1) 0).toBool,(V.nth O3 0).toList)))))
noncomputable def YP (C:ae):(Int × Int × Int × Bool × Bool × (List V))→Option ((Int × Int × Int × Bool × Bool × (List V)) ⊕ (List V)):=un fun a=>un fun b'=>un fun jO=>un fun ff=>un fun fC aj=>qE C a b' jO ff fC aj (fun y=>some (.inl y)) (fun r=>some (.inr r))
noncomputable def YQ (C:ae):cH:=fun β n ds k=>
 bif Nat.beq n 639 then pf Nb [[1,2,0,4,5,6,0]] (@zq C) ds k else
 bif Nat.beq n 911 then pf Nc [[1,2,3,4,5,6,0,0,0]] (@zr C) ds k else
 bif Nat.beq n 1215 then pf Nd [[1,2,3,4,5,6,7,0,0],[1,2,3,4,5,6,7,0]] (@nv C) ds k else
 bif Nat.beq n 33 then bE Ng [true,true,true,true,true,true] [[0]] (@qE C) ds k else
 none
abbrev Jc (C:ae) (b:cE):Prop:=cF Tryd.prog aD C (YQ C) 169 (cQ Tryd.prog (aD.bd 169)) (aD.sin 169).bf.length b
theorem ajr (C:ae):Jc C (.cond 39 (av [1,1,0,0,0,1,1,1,0,1,0] mu) (av [1,1,0,0,0,1,1,1,0,1,1] mu)):=
 ql Nb [[1,2,0,4,5,6,0]] (@zq C) (by kernel_rfl) (bc (bs:=[]) (by kernel_rfl) aC) (bc (bs:=[]) (by kernel_rfl) aC) (fun ds=>by kernel_rfl) (fun i β k=>by kernel_rfl) (fun β ds k=>by kernel_rfl)
theorem ajs (C:ae):Jc C (.cond 56 (av [1,1,0,0,0,1,1,1,1,1,0,1,0] mu) (av [1,1,0,0,0,1,1,1,1,1,0,1,1] mu)):=
 ql Nc [[1,2,3,4,5,6,0,0,0]] (@zr C) (by kernel_rfl) (bc (bs:=[]) (by kernel_rfl) aC) (bc (bs:=[]) (by kernel_rfl) aC) (fun ds=>by kernel_rfl) (fun i β k=>by kernel_rfl) (fun β ds k=>by kernel_rfl)
theorem ajt (C:ae):Jc C (.cond 75 (av [1,1,0,0,0,1,1,1,1,1,1,0,1,0] mu) (av [1,1,0,0,0,1,1,1,1,1,1,0,1,1] mu)):=
 ql Nd [[1,2,3,4,5,6,7,0,0],[1,2,3,4,5,6,7,0]] (@nv C) (by kernel_rfl) (bc (bs:=[]) (by kernel_rfl) aC) (bc (bs:=[]) (by kernel_rfl) aC) (fun ds=>by kernel_rfl) (fun i β k=>by kernel_rfl) (fun β ds k=>by kernel_rfl)
theorem aju (C:ae):Jc C (.loop (av [1,1,0,0] mu)):=
 bH Ng [true,true,true,true,true,true] [[0]] (@qE C) (by kernel_rfl) (bc (bs:=[.cond 39 (av [1,1,0,0,0,1,1,1,0,1,0] mu) (av [1,1,0,0,0,1,1,1,0,1,1] mu),.cond 56 (av [1,1,0,0,0,1,1,1,1,1,0,1,0] mu) (av [1,1,0,0,0,1,1,1,1,1,0,1,1] mu),.cond 75 (av [1,1,0,0,0,1,1,1,1,1,1,0,1,0] mu) (av [1,1,0,0,0,1,1,1,1,1,1,0,1,1] mu)]) (by kernel_rfl) (bt (ajr C) (bt (ajs C) (bt (ajt C) aC)))) (fun ds=>by kernel_rfl) (fun i x=>by kernel_rfl) (fun i x β k=>by kernel_rfl) (fun β ds k=>by kernel_rfl)
noncomputable def YR (C:ae) (a b' jO:Int) (aj:List V):Option (List V):=
 (Loop (YP C) (a,b',jO,true,true,aj)).bind (fun (ajv:List V)=>
  some [.list aF ajv])
theorem ajw {a b' jO:Int} {aj:List V} {r:Option (List V)} (h:YR CC a b' jO aj=r):CC ik [.int .i64 a,.int .i64 b',.int .i64 jO,.list aF aj]=r:=
 bC (key:=169) (L:=YQ CC) (bs:=[.loop (av [1,1,0,0] mu)]) (by kernel_rfl) (bt (aju CC) aC) (bw (by kernel_rfl) h)
noncomputable def YS (C:ae) (xs:List V):Option (List V):=
 (C BO [.int .u64 (IntKind.wrap .u64 (xs.length:Int))]).bind fun r1=>
 (C ik [.int .i64 0,.int .i64 (xs.length:Int),.int .i64 ((V.nth r1 0).toInt),.list aF xs]).bind fun r2=>
 some [.list aF ((V.nth r2 0).toList)]
theorem ajx {xs:List V} {r:Option (List V)} (h:YS CC xs=r):CC BJ [.list aF xs]=r:=
 bC (key:=87) (L:=dg) (bs:=[]) (by kernel_rfl) aC (bw (by kernel_rfl) h)
end Go.AM
set_option maxRecDepth 100000
set_option maxHeartbeats 4000000
namespace Go.AM.SL
open Go.AM Go.Proofs Go.Sort
theorem YT (a b:Ed):(aG a b=true)=(a.lt b):=by rw[ue,propext (HP a b)]
theorem Jd (a b:Ed):(aG a b=false)= ¬(a.lt b):=by rw[←YT];simp
theorem zt:SWO aG where
 irrefl x:=by rw[Jd];unfold Ed.lt;omega
 trans x y z:=by simp only[YT];unfold Ed.lt;omega
 ntrans x y z:=by simp only[Jd];unfold Ed.lt;omega
def Je:List UInt8:=([0,1,2,2,3,3,3,3,4,4,4,4,4,4,4,4,5,5,5,5,5,5,5,5,5,5,5,5,5,5,5,5,6,6,6,6,6,6,6,6,6,6,6,6,6,6,6,6,6,6,6,6,6,6,6,6,6,6,6,6,6,6,6,6,7,7,7,7,7,7,7,7,7,7,7,7,7,7,7,7,7,7,7,7,7,7,7,7,7,7,7,7,7,7,7,7,7,7,7,7,7,7,7,7,7,7,7,7,7,7,7,7,7,7,7,7,7,7,7,7,7,7,7,7,7,7,7,7,8,8,8,8,8,8,8,8,8,8,8,8,8,8,8,8,8,8,8,8,8,8,8,8,8,8,8,8,8,8,8,8,8,8,8,8,8,8,8,8,8,8,8,8,8,8,8,8,8,8,8,8,8,8,8,8,8,8,8,8,8,8,8,8,8,8,8,8,8,8,8,8,8,8,8,8,8,8,8,8,8,8,8,8,8,8,8,8,8,8,8,8,8,8,8,8,8,8,8,8,8,8,8,8,8,8,8,8,8,8,8,8,8,8,8,8,8,8,8,8,8,8,8,8,8,8,8,8]:List UInt8)
theorem ajy:(List.range 256).all (fun y=>match Je[y]? with|some b=>decide (b.toNat≤8)&&(Nat.beq y 0||(decide (1≤b.toNat)&&decide (2^(b.toNat-1)≤y)))|none=>false)=true:=by decide+kernel
theorem YU {y:Nat} (h:y<256): ∃b,Je[y]? =some b∧b.toNat≤8∧(0<y→1≤b.toNat∧2^(b.toNat-1)≤y):=by
 have:=fO.1 ajy y (gG.2 h)
 cases hb:Je[y]? with
 | none=>rw[hb] at this;cases this
 | some b=>
  rw[hb] at this
  simp only[aS,oK,dv] at this
  refine ⟨b,rfl,this.1,fun hy=> ?_⟩
  rcases this.2 with h2|h2
  ·have:=Nat.eq_of_beq_eq_true h2;omega
  ·exact h2
theorem O4 {y t k:Nat} (h:2^(t-1)≤y/2^k) (ht:1≤t):2^(t+k-1)≤y:=by
 have e:t+k-1=(t-1)+k:=by omega
 rw[e,Nat.pow_add]
 exact kp (dJ _ h) (Nat.div_mul_le_self _ _)
noncomputable def zu (y n:Int):Option (List V):=
(bif decide ((y:Int)≥256) then
    (bif decide (0≤(IntKind.wrap .u8 (Int.fdiv y (2^(min (8:Int).toNat (IntKind.bits .u64)))))) then (([0,1,2,2,3,3,3,3,4,4,4,4,4,4,4,4,5,5,5,5,5,5,5,5,5,5,5,5,5,5,5,5,6,6,6,6,6,6,6,6,6,6,6,6,6,6,6,6,6,6,6,6,6,6,6,6,6,6,6,6,6,6,6,6,7,7,7,7,7,7,7,7,7,7,7,7,7,7,7,7,7,7,7,7,7,7,7,7,7,7,7,7,7,7,7,7,7,7,7,7,7,7,7,7,7,7,7,7,7,7,7,7,7,7,7,7,7,7,7,7,7,7,7,7,7,7,7,7,8,8,8,8,8,8,8,8,8,8,8,8,8,8,8,8,8,8,8,8,8,8,8,8,8,8,8,8,8,8,8,8,8,8,8,8,8,8,8,8,8,8,8,8,8,8,8,8,8,8,8,8,8,8,8,8,8,8,8,8,8,8,8,8,8,8,8,8,8,8,8,8,8,8,8,8,8,8,8,8,8,8,8,8,8,8,8,8,8,8,8,8,8,8,8,8,8,8,8,8,8,8,8,8,8,8,8,8,8,8,8,8,8,8,8,8,8,8,8,8,8,8,8,8,8,8,8,8]:List UInt8)[(IntKind.wrap .u8 (Int.fdiv y (2^(min (8:Int).toNat (IntKind.bits .u64)))):Int).toNat]?).map fun b=>V.int .u8 b.toNat else none).bind fun x5=>
    some [V.int .i64 (IntKind.wrap .i64 ((IntKind.wrap .i64 (n+8))+(IntKind.wrap .i64 x5.toInt)))]
   else
    (bif decide (0≤(IntKind.wrap .u8 y)) then (([0,1,2,2,3,3,3,3,4,4,4,4,4,4,4,4,5,5,5,5,5,5,5,5,5,5,5,5,5,5,5,5,6,6,6,6,6,6,6,6,6,6,6,6,6,6,6,6,6,6,6,6,6,6,6,6,6,6,6,6,6,6,6,6,7,7,7,7,7,7,7,7,7,7,7,7,7,7,7,7,7,7,7,7,7,7,7,7,7,7,7,7,7,7,7,7,7,7,7,7,7,7,7,7,7,7,7,7,7,7,7,7,7,7,7,7,7,7,7,7,7,7,7,7,7,7,7,7,8,8,8,8,8,8,8,8,8,8,8,8,8,8,8,8,8,8,8,8,8,8,8,8,8,8,8,8,8,8,8,8,8,8,8,8,8,8,8,8,8,8,8,8,8,8,8,8,8,8,8,8,8,8,8,8,8,8,8,8,8,8,8,8,8,8,8,8,8,8,8,8,8,8,8,8,8,8,8,8,8,8,8,8,8,8,8,8,8,8,8,8,8,8,8,8,8,8,8,8,8,8,8,8,8,8,8,8,8,8,8,8,8,8,8,8,8,8,8,8,8,8,8,8,8,8,8,8]:List UInt8)[(IntKind.wrap .u8 y:Int).toNat]?).map fun b=>V.int .u8 b.toNat else none).bind fun x6=>
    some [V.int .i64 (IntKind.wrap .i64 (n+(IntKind.wrap .i64 x6.toInt)))])
theorem ajz {x:Nat} (h:x<2^64): ∃L:Nat,CC Hk [.int .u64 (x:Int)]=some [.int .i64 (L:Int)]∧L≤64∧(0<x→1≤L∧2^(L-1)≤x):=by
 have last: ∀y n:Nat,y<65536→n≤48→∃t:Nat,
   zu (y:Int) (n:Int)=some [V.int .i64 ((n+t:Nat):Int)]∧t≤16∧(0<y→1≤t∧2^(t-1)≤y):=by
  intro y n hy hn
  unfold zu
  rw[show ([0,1,2,2,3,3,3,3,4,4,4,4,4,4,4,4,5,5,5,5,5,5,5,5,5,5,5,5,5,5,5,5,6,6,6,6,6,6,6,6,6,6,6,6,6,6,6,6,6,6,6,6,6,6,6,6,6,6,6,6,6,6,6,6,7,7,7,7,7,7,7,7,7,7,7,7,7,7,7,7,7,7,7,7,7,7,7,7,7,7,7,7,7,7,7,7,7,7,7,7,7,7,7,7,7,7,7,7,7,7,7,7,7,7,7,7,7,7,7,7,7,7,7,7,7,7,7,7,8,8,8,8,8,8,8,8,8,8,8,8,8,8,8,8,8,8,8,8,8,8,8,8,8,8,8,8,8,8,8,8,8,8,8,8,8,8,8,8,8,8,8,8,8,8,8,8,8,8,8,8,8,8,8,8,8,8,8,8,8,8,8,8,8,8,8,8,8,8,8,8,8,8,8,8,8,8,8,8,8,8,8,8,8,8,8,8,8,8,8,8,8,8,8,8,8,8,8,8,8,8,8,8,8,8,8,8,8,8,8,8,8,8,8,8,8,8,8,8,8,8,8,8,8,8,8,8]:List UInt8)=Je from rfl]
  by_cases h1:y≥256
  ·have e:Int.fdiv (y:Int) (2^(min (8:Int).toNat (IntKind.bits .u64)))=((y/2^8:Nat):Int):=B6 (m:=8) (by omega)
   obtain ⟨b,hb,b1,b2⟩:=YU (y:=y/2^8) (by omega)
   refine ⟨b.toNat+8,?_,by omega,fun _=> ?_⟩
   ·rw[e,aJ,af (by omega),Lw (by omega) (by omega),aJ,af (by omega),Int.toNat_natCast,hb]
    simp only[Option.map_some,Option.bind_some,V.toInt_int]
    simp (disch:=omega) only[wrap64]
    congr 3
    omega
   ·obtain ⟨b3,b4⟩:=b2 (by omega)
    exact ⟨by omega,O4 b4 b3⟩
  ·obtain ⟨b,hb,b1,b2⟩:=YU (y:=y) (by omega)
   refine ⟨b.toNat,?_,by omega,b2⟩
   rw[aJ,ah (by omega),Lw (by omega) (by omega),aJ,af (by omega),Int.toNat_natCast,hb]
   simp (disch:=omega) only[Option.map_some,Option.bind_some,V.toInt_int,wrap64]
   congr 3
 have mid: ∀y n:Nat,y<4294967296→n≤32→∃t:Nat,∀F:Int→Int→Option (List V),
   (∀y n:Nat,y<65536→n≤48→∃t:Nat,F (y:Int) (n:Int)=some [V.int .i64 ((n+t:Nat):Int)]∧t≤16∧(0<y→1≤t∧2^(t-1)≤y))→
   ∃t:Nat,wD CC (y:Int) (n:Int) (decide (((y:Int):Int)≥65536)) (un F)=some [V.int .i64 ((n+t:Nat):Int)]∧t≤32∧(0<y→1≤t∧2^(t-1)≤y):=by
  intro y n hy hn
  refine ⟨0,fun F hF=> ?_⟩
  unfold wD
  by_cases h1:y≥65536
  ·have e:Int.fdiv (y:Int) (2^(min (16:Int).toNat (IntKind.bits .u64)))=((y/2^16:Nat):Int):=B6 (m:=16) (by omega)
   rw[aJ,af (by omega),e,wrap64 (by omega) (by omega)]
   obtain ⟨t,h2,h3,h4⟩:=hF (y/2^16) (n+16) (by omega) (by omega)
   refine ⟨t+16,?_,by omega,fun _=> ?_⟩
   ·rw[show ((n:Int)+16)=((n+16:Nat):Int) by omega]
    simp only[un]
    rw[h2]
    congr 3
    omega
   ·obtain ⟨b3,b4⟩:=h4 (by omega)
    exact ⟨by omega,O4 b4 b3⟩
  ·rw[aJ,ah (by omega)]
   obtain ⟨t,h2,h3,h4⟩:=hF y n (by omega) (by omega)
   exact ⟨t,h2,by omega,h4⟩
 by_cases h1:x≥4294967296
 ·have e:Int.fdiv (x:Int) (2^(min (32:Int).toNat (IntKind.bits .u64)))=((x/2^32:Nat):Int):=B6 (m:=32) (by omega)
  obtain ⟨_,hm⟩:=mid (x/2^32) 32 (by omega) (by omega)
  obtain ⟨t,h2,h3,h4⟩:=hm zu last
  refine ⟨32+t,YO ?_,by omega,fun _=> ?_⟩
  ·show wC CC (x:Int) 0 (decide (((x:Int):Int)≥4294967296)) (un fun (ui:Int) (fe:Int)=>wD CC ui fe (decide ((ui:Int)≥65536)) (un zu))=_
   unfold wC
   rw[aJ,af (by omega),e]
   exact h2
  ·obtain ⟨b3,b4⟩:=h4 (by omega)
   rw[Nat.add_comm 32 t]
   exact ⟨by omega,O4 b4 b3⟩
 ·obtain ⟨_,hm⟩:=mid x 0 (by omega) (by omega)
  obtain ⟨t,h2,h3,h4⟩:=hm zu last
  refine ⟨t,YO ?_,by omega,h4⟩
  show wC CC (x:Int) 0 (decide (((x:Int):Int)≥4294967296)) (un fun (ui:Int) (fe:Int)=>wD CC ui fe (decide ((ui:Int)≥65536)) (un zu))=_
  unfold wC
  rw[aJ,ah (by omega)]
  rw[dV] at h2
  exact h2
theorem YV {x:Nat} (h:x<2^64): ∃L:Nat,CC BO [.int .u64 (x:Int)]=some [.int .i64 (L:Int)]∧L≤64∧(0<x→1≤L∧2^(L-1)≤x):=by
 obtain ⟨L,h1,h2⟩:=ajz h
 refine ⟨L,ajl ?_,h2⟩
 unfold YL
 rw[h1]
 rfl
theorem ajA {x:Nat} (h0:0<x) (h:x<1152921504606846976): ∃M:Nat,CC Hm [.int .i64 (x:Int)]=some [.int .u64 (M:Int)]∧1≤M∧M≤2*x:=by
 obtain ⟨L,h1,h2,h3⟩:=YV (x:=x) (by omega)
 obtain ⟨h4,h5⟩:=h3 h0
 have e:2^L=2*2^(L-1):=by
  obtain ⟨k,rfl⟩: ∃k,L=k+1:=⟨L-1,by omega⟩
  rw[Nat.pow_succ];simp only[EU];omega
 have hL:L<64:=by
  by_cases hx:L<64
  ·exact hx
  ·have:2^63≤2^(L-1):=pN (by omega) (by omega)
   omega
 refine ⟨2^L,ajk ?_,qU (by simp),by omega⟩
 unfold YK
 rw[tT (A:=x) (by omega),h1]
 simp only[Option.bind_some,V.cq,V.toInt_int]
 rw[aJ,af (by omega),Int.toNat_natCast,yu hL]
theorem ajB (r:Int): ∃R:Nat,CC Hn [.int .u64 r]=some [.int .u64 (R:Int),.int .u64 (R:Int)]∧R<2^64:=by
 have h: ∀n:Int,∃R:Nat,IntKind.wrap .u64 n=(R:Int)∧R<2^64:=fun n=>⟨(IntKind.wrap .u64 n).toNat,by rw[wrap_u64];omega,by rw[wrap_u64];omega⟩
 obtain ⟨R,h1,h2⟩:=h _
 exact ⟨R,ajj (by unfold YJ;rw[h1]),h2⟩
theorem Jf {d:Array Ed} {i:Nat} (h:i<d.size):idx (eA d) (i:Int)=some (d[i]!).enc:=by rw[GQ,gC h]
theorem O5 {d:Array Ed} {a b:Nat} {s:Int} (ha:a<d.size) (hb:b<d.size): ∃(x y:Nat) (s':Int),CC BW [.list aF (eA d),.int .i64 (a:Int),.int .i64 (b:Int),.int .i64 s]=some [.int .i64 (x:Int),.int .i64 (y:Int),.int .i64 s']∧(x=a∧y=b∨x=b∧y=a):=by
 by_cases h:b8 d[b]! d[a]! <0
 ·refine ⟨b,a,_,YE (by unfold OS;rw[Jf hb,Jf ha];simp only[Option.bind_some,Ed.dR,Ed.dS,Ed.dU,gW,V.cq,V.toInt_int];rw[aJ,af h]),.inr ⟨rfl,rfl⟩⟩
 ·refine ⟨a,b,_,YE (by unfold OS;rw[Jf hb,Jf ha];simp only[Option.bind_some,Ed.dR,Ed.dS,Ed.dU,gW,V.cq,V.toInt_int];rw[aJ,ah h]),.inl ⟨rfl,rfl⟩⟩
theorem O6 {d:Array Ed} {a b c:Nat} {s:Int} (ha:a<d.size) (hb:b<d.size) (hc:c<d.size): ∃(m:Nat) (s':Int),CC Hr [.list aF (eA d),.int .i64 (a:Int),.int .i64 (b:Int),.int .i64 (c:Int),.int .i64 s]=some [.int .i64 (m:Int),.int .i64 s']∧(m=a∨m=b∨m=c):=by
 obtain ⟨x1,y1,s1,e1,o1⟩:=O5 (s:=s) ha hb
 obtain ⟨x2,y2,s2,e2,o2⟩:=O5 (d:=d) (a:=y1) (b:=c) (s:=s1) (by omega) hc
 obtain ⟨x3,y3,s3,e3,o3⟩:=O5 (d:=d) (a:=x1) (b:=x2) (s:=s2) (by omega) (by omega)
 refine ⟨y3,s3,aje ?_,by omega⟩
 unfold YD
 rw[e1]
 simp only[Option.bind_some,V.cq,V.rR,V.toInt_int,mE,jQ]
 rw[e2]
 simp only[Option.bind_some,V.cq,V.rR,V.toInt_int,mE,jQ]
 rw[e3]
 rfl
theorem O7 {d:Array Ed} {a:Nat} {s:Int} (h1:1≤a) (ha:a+1<d.size) (hs:d.size<1152921504606846976): ∃(m:Nat) (s':Int),CC BV [.list aF (eA d),.int .i64 (a:Int),.int .i64 s]=some [.int .i64 (m:Int),.int .i64 s']∧a≤m+1∧m≤a+1:=by
 obtain ⟨m,s',e,o⟩:=O6 (d:=d) (a:=a-1) (b:=a) (c:=a+1) (s:=s) (by omega) (by omega) (by omega)
 refine ⟨m,s',ajf ?_,by omega,by omega⟩
 unfold YF
 simp (disch:=omega) only[kS,dC,wrap64]
 rw[e]
 rfl
theorem O8 (n:Nat):Int.tdiv (n:Int) 4=((n/4:Nat):Int):=by
 have:=divC n 4
 exact this
theorem mulC (k n:Nat):((k:Nat):Int)*(n:Int)=((k*n:Nat):Int):=(Int.natCast_mul k n).symm
theorem ajC {d:Array Ed} {a b:Nat} (gq:a+12<b) (hb:b≤d.size) (hs:d.size<1152921504606846976): ∃(p:Nat) (h:Int),CC Hq [.list aF (eA d),.int .i64 (a:Int),.int .i64 (b:Int)]=some [.int .i64 (p:Int),.int .i64 h]∧a≤p∧p<b:=by
 have fin: ∀(p:Nat) (s:Int),∃h:Int,(bif (s:Int)==0 then some [V.int .i64 (p:Int),V.int .i64 1] else bif (s:Int)==12 then some [V.int .i64 (p:Int),V.int .i64 2] else some [V.int .i64 (p:Int),V.int .i64 0])=some [V.int .i64 (p:Int),V.int .i64 h]:=by
  intro p s
  rw[rS]
  split
  ·exact ⟨1,rfl⟩
  ·rw[rS]
   split
   ·exact ⟨2,rfl⟩
   ·exact ⟨0,rfl⟩
 have e1:IntKind.wrap .i64 ((b:Int)-(a:Int))=((b-a:Nat):Int):=by rw[np (by omega),wrap64 (by omega) (by omega)]
 have e2:IntKind.wrap .i64 (Int.tdiv ((b-a:Nat):Int) 4)=(((b-a)/4:Nat):Int):=by rw[O8,wrap64 (by omega) (by omega)]
 have e3: ∀k:Nat,k≤3→IntKind.wrap .i64 ((a:Int)+IntKind.wrap .i64 ((k:Int)*(((b-a)/4:Nat):Int)))=((a+k*((b-a)/4):Nat):Int):=by
  intro k hk
  have tM:k*((b-a)/4)≤3*((b-a)/4):=dJ _ hk
  simp (disch:=omega) only[mulC,wrap64,gD]
 have O9:=e3 1 (by omega)
 have uk:=e3 2 (by omega)
 have Pb:=e3 3 (by omega)
 rw[show ((1:Nat):Int)=1 from rfl] at O9
 rw[show ((2:Nat):Int)=2 from rfl] at uk
 rw[show ((3:Nat):Int)=3 from rfl] at Pb
 by_cases h50:b-a≥50
 ·obtain ⟨m1,s1,q1,r1⟩:=O7 (d:=d) (a:=a+1*((b-a)/4)) (s:=0) (by omega) (by omega) hs
  obtain ⟨m2,s2,q2,r2⟩:=O7 (d:=d) (a:=a+2*((b-a)/4)) (s:=s1) (by omega) (by omega) hs
  obtain ⟨m3,s3,q3,r3⟩:=O7 (d:=d) (a:=a+3*((b-a)/4)) (s:=s2) (by omega) (by omega) hs
  obtain ⟨m,s,q,r⟩:=O6 (d:=d) (a:=m1) (b:=m2) (c:=m3) (s:=s3) (by omega) (by omega) (by omega)
  obtain ⟨h,hf⟩:=fin m s
  refine ⟨m,h,YC ?_,by omega,by omega⟩
  unfold OQ D4 D3
  rw[e1,e2,O9,uk,Pb,ox (by omega),cond_true,ox (by omega),cond_true,q1]
  simp only[Option.bind_some,V.cq,V.rR,V.toInt_int,mE,jQ]
  rw[q2]
  simp only[Option.bind_some,V.cq,V.rR,V.toInt_int,mE,jQ]
  rw[q3]
  simp only[Option.bind_some,V.cq,V.rR,V.toInt_int,mE,jQ,un]
  rw[q]
  exact hf
 ·obtain ⟨m,s,q,r⟩:=O6 (d:=d) (a:=a+1*((b-a)/4)) (b:=a+2*((b-a)/4)) (c:=a+3*((b-a)/4)) (s:=0) (by omega) (by omega) (by omega)
  obtain ⟨h,hf⟩:=fin m s
  refine ⟨m,h,YC ?_,by omega,by omega⟩
  unfold OQ D4 D3
  rw[e1,e2,O9,uk,Pb,ox (by omega),cond_true,pz (by omega),cond_false]
  simp only[un]
  rw[q]
  exact hf
theorem ajD {a b M:Nat} (hM1:1≤M) (hM:M≤2*(b-a)) (h8:8≤b-a) (hB:b<1152921504606846976): ∀(n i:Nat) (d:Array Ed) (r:Int),a+2*((b-a)/4)+2-i=n→a≤i→b≤d.size→d.size<1152921504606846976→
  ∃x y z R,Loop (Ja CC a (b-a:Nat) M) ((i:Int),eA d,r)=some (x,y,eA R,z)∧PermIn a b d R:=by
 have e2:IntKind.wrap .i64 (Int.tdiv ((b-a:Nat):Int) 4)=(((b-a)/4:Nat):Int):=by rw[O8,wrap64 (by omega) (by omega)]
 have uk:IntKind.wrap .i64 ((a:Int)+IntKind.wrap .i64 (2*(((b-a)/4:Nat):Int)))=((a+2*((b-a)/4):Nat):Int):=by
  have:=mulC 2 ((b-a)/4)
  rw[show ((2:Nat):Int)=2 from rfl] at this
  rw[this]
  simp (disch:=omega) only[wrap64,gD]
 intro n
 induction n with
 | zero=>
  intro i d r hn hi hb hs
  refine ⟨(i:Int),false,r,d,cl ?_,permIn_refl _ _ _⟩
  simp only[Ja,D6,un]
  rw[e2,uk,dC,wrap64 (by omega) (by omega),pz (by omega),cond_false]
 | succ n ih=>
  intro i d r hn hi hb hs
  obtain ⟨R1,q1,q2⟩:=ajB r
  obtain ⟨o,ho,nR⟩: ∃o:Nat,(o=if R1&&&(M-1)≥b-a then (R1&&&(M-1))-(b-a) else R1&&&(M-1))∧o<b-a:=by
   refine ⟨_,rfl,?_⟩
   have:R1&&&(M-1)≤M-1:=Nat.and_le_right
   split<;>omega
  have hand:R1&&&(M-1)≤M-1:=Nat.and_le_right
  have hP:=swp_permIn (α:=Ed) d a b i (a+o) hi (by omega) (by omega) (by omega) hb
  obtain ⟨x,y,z,R,e,hR⟩:=ih (i+1) (swp d i (a+o)) (R1:Int) (by omega) (by omega) (by rw[size_swp];exact hb) (by rw[size_swp];exact hs)
  refine ⟨x,y,z,R,(eu ?_).trans e,permIn_trans _ _ _ a b hP hR⟩
  simp only[Ja,D6,un]
  rw[e2,uk,dC,wrap64 (x:=((a+2*((b-a)/4)+1:Nat):Int)) (by omega) (by omega),ox (by omega),cond_true,q1]
  simp only[Option.bind_some,V.cq,V.rR,V.toInt_int,mE,jQ]
  have e5:IntKind.wrap .u64 ((M:Int)-1)=((M-1:Nat):Int):=by rw[kS hM1,tT (by omega)]
  rw[e5,u64_and q2 (by omega),wrap64 (x:=((R1&&&(M-1):Nat):Int)) (by omega) (by omega)]
  have fin: ∀k:Int,k=(o:Int)→(bif (decide (0≤(IntKind.wrap .i64 ((a:Int)+k))))&&(decide ((IntKind.wrap .i64 ((a:Int)+k))<((eA d).length:Int))) then
   ((eA d)[(IntKind.wrap .i64 ((a:Int)+k):Int).toNat]?).bind fun x4=>
   bif (decide (0≤(i:Int)))&&(decide ((i:Int)<((eA d).length:Int))) then
    ((eA d)[((i:Int):Int).toNat]?).bind fun x5=>
    bif (decide (0≤(i:Int)))&&(decide ((i:Int)<((eA d).length:Int))) then
    ((eA d)[((i:Int):Int).toNat]?).bind fun x6=>
    bif (decide (0≤(IntKind.wrap .i64 ((a:Int)+k))))&&(decide ((IntKind.wrap .i64 ((a:Int)+k))<(((eA d).set (((i:Int):Int).toNat) (.agg [.int .i64 ((x4.cell 0).toInt),.int .i64 ((x4.cell 1).toInt),.int .i64 ((x4.cell 2).toInt)])).length:Int))) then
     (((eA d).set (((i:Int):Int).toNat) (.agg [.int .i64 ((x4.cell 0).toInt),.int .i64 ((x4.cell 1).toInt),.int .i64 ((x4.cell 2).toInt)]))[(IntKind.wrap .i64 ((a:Int)+k):Int).toNat]?).bind fun x7=>
     some (.inl (IntKind.wrap .i64 ((i:Int)+1),((eA d).set (((i:Int):Int).toNat) (.agg [.int .i64 ((x4.cell 0).toInt),.int .i64 ((x4.cell 1).toInt),.int .i64 ((x4.cell 2).toInt)])).set ((IntKind.wrap .i64 ((a:Int)+k):Int).toNat) (.agg [.int .i64 ((x5.cell 0).toInt),.int .i64 ((x5.cell 1).toInt),.int .i64 ((x5.cell 2).toInt)]),(R1:Int)))
    else none
    else none
   else none
   else none:Option ((Int × List V × Int) ⊕ (Int × Bool × List V × Int)))=some (.inl (((i+1:Nat):Int),eA (swp d i (a+o)),(R1:Int))):=by
   intro k hk
   subst hk
   simp (disch:=omega) only[aJ,dr,gU,af,ah,wrap64,dC,gD,Int.toNat_natCast,Option.bind_some,gA,gC,Ed.dR,Ed.dS,Ed.dU,Ed.re,gB,iP,g9,gW,V.cq,V.toInt_int,cond_true,cond_false]
   rfl
  unfold I9
  by_cases h:R1&&&(M-1)≥b-a
  ·rw[af h] at ho
   rw[ox (by omega),cond_true]
   exact fin _ (by rw[np (by omega),wrap64 (by omega) (by omega)];omega)
  ·rw[ah h] at ho
   rw[pz (by omega),cond_false]
   exact fin _ (by omega)
theorem ajE {a b:Nat} {d:Array Ed} (gq:a+12<b) (hb:b≤d.size) (hs:d.size<1152921504606846976): ∃R,CC LV [.int .i64 (a:Int),.int .i64 (b:Int),.list aF (eA d)]=some [.list aF (eA R)]∧PermIn a b d R:=by
 obtain ⟨M,q1,q2,q3⟩:=ajA (x:=b-a) (by omega) (by omega)
 have e1:IntKind.wrap .i64 ((b:Int)-(a:Int))=((b-a:Nat):Int):=by rw[np (by omega),wrap64 (by omega) (by omega)]
 have e2:IntKind.wrap .i64 (Int.tdiv ((b-a:Nat):Int) 4)=(((b-a)/4:Nat):Int):=by rw[O8,wrap64 (by omega) (by omega)]
 have uk:IntKind.wrap .i64 ((a:Int)+IntKind.wrap .i64 (2*(((b-a)/4:Nat):Int)))=((a+2*((b-a)/4):Nat):Int):=by
  have:=mulC 2 ((b-a)/4)
  rw[show ((2:Nat):Int)=2 from rfl] at this
  rw[this]
  simp (disch:=omega) only[wrap64,gD]
 obtain ⟨x,y,z,R,e,hR⟩:=ajD (a:=a) (b:=b) (M:=M) q2 q3 (by omega) (by omega) _ (a+2*((b-a)/4)-1) d (IntKind.wrap .u64 ((b-a:Nat):Int)) rfl (by omega) hb hs
 refine ⟨R,aji ?_,hR⟩
 unfold YI
 rw[e1,aJ,af (by omega),q1]
 simp only[Option.bind_some,V.cq,V.toInt_int]
 rw[e2,uk,kS (by omega),wrap64 (x:=((a+2*((b-a)/4)-1:Nat):Int)) (by omega) (by omega),e]
 rfl
noncomputable def um (C:ae) (a b':Int) (ff fC:Bool) (cL ed:Int) (nt:List V) {β:Type} (kn:(Int × Int × Int × Bool × Bool × (List V))→Option β):Option β:=
      bif decide ((a:Int)>0) then
       bif (decide (0≤(IntKind.wrap .i64 (a-1))))&&(decide ((IntKind.wrap .i64 (a-1))<(nt.length:Int))) then
       (nt[(IntKind.wrap .i64 (a-1):Int).toNat]?).bind fun kh=>
       bif (decide (0≤ed))&&(decide (ed<(nt.length:Int))) then
        (nt[(ed:Int).toNat]?).bind fun nr=>
        (C bx [.int .i64 ((kh.cell 0).toInt),.int .i64 ((kh.cell 1).toInt),.int .i64 ((kh.cell 2).toInt),.int .i64 ((nr.cell 0).toInt),.int .i64 ((nr.cell 1).toInt),.int .i64 ((nr.cell 2).toInt)]).bind fun kR=>
        bif !(decide ((((V.nth kR 0).toInt):Int)<0)) then
        (C yk [.int .i64 a,.int .i64 b',.int .i64 ed,.list aF nt]).bind fun mi=>
        kn ((V.nth mi 0).toInt,b',cL,ff,fC,(V.nth (mi.drop 1) 0).toList)
        else
        (C pg [.int .i64 a,.int .i64 b',.int .i64 ed,.list aF nt]).bind fun eJ=>
        bif decide (((IntKind.wrap .i64 (((V.nth eJ 0).toInt)-a)):Int)<(IntKind.wrap .i64 (b'-((V.nth eJ 0).toInt)))) then
         (C ik [.int .i64 a,.int .i64 ((V.nth eJ 0).toInt),.int .i64 cL,.list aF ((V.nth (eJ.drop 2) 0).toList)]).bind fun uj=>
         kn (IntKind.wrap .i64 (((V.nth eJ 0).toInt)+1),b',cL,decide (((IntKind.wrap .i64 (((V.nth eJ 0).toInt)-a)):Int)≥(IntKind.wrap .i64 (Int.tdiv (IntKind.wrap .i64 (b'-a)) 8))),(V.nth (eJ.drop 1) 0).toBool,(V.nth uj 0).toList)
        else
         (C ik [.int .i64 (IntKind.wrap .i64 (((V.nth eJ 0).toInt)+1)),.int .i64 b',.int .i64 cL,.list aF ((V.nth (eJ.drop 2) 0).toList)]).bind fun eS=>
         kn (a,(V.nth eJ 0).toInt,cL,decide (((IntKind.wrap .i64 (b'-((V.nth eJ 0).toInt))):Int)≥(IntKind.wrap .i64 (Int.tdiv (IntKind.wrap .i64 (b'-a)) 8))),(V.nth (eJ.drop 1) 0).toBool,(V.nth eS 0).toList)
       else none
       else none
      else
       (C pg [.int .i64 a,.int .i64 b',.int .i64 ed,.list aF nt]).bind fun gX=>
       bif decide (((IntKind.wrap .i64 (((V.nth gX 0).toInt)-a)):Int)<(IntKind.wrap .i64 (b'-((V.nth gX 0).toInt)))) then
       (C ik [.int .i64 a,.int .i64 ((V.nth gX 0).toInt),.int .i64 cL,.list aF ((V.nth (gX.drop 2) 0).toList)]).bind fun pD=>
       kn (IntKind.wrap .i64 (((V.nth gX 0).toInt)+1),b',cL,decide (((IntKind.wrap .i64 (((V.nth gX 0).toInt)-a)):Int)≥(IntKind.wrap .i64 (Int.tdiv (IntKind.wrap .i64 (b'-a)) 8))),(V.nth (gX.drop 1) 0).toBool,(V.nth pD 0).toList)
       else
       (C ik [.int .i64 (IntKind.wrap .i64 (((V.nth gX 0).toInt)+1)),.int .i64 b',.int .i64 cL,.list aF ((V.nth (gX.drop 2) 0).toList)]).bind fun jN=>
       kn (a,(V.nth gX 0).toInt,cL,decide (((IntKind.wrap .i64 (b'-((V.nth gX 0).toInt))):Int)≥(IntKind.wrap .i64 (Int.tdiv (IntKind.wrap .i64 (b'-a)) 8))),(V.nth (gX.drop 1) 0).toBool,(V.nth jN 0).toList)
theorem Jg (C:ae) (a b' jO:Int) (ff fC:Bool) (aj:List V) {β:Type} (kn:(Int × Int × Int × Bool × Bool × (List V))→Option β) (kr:(List V)→Option β):
  qE C a b' jO ff fC aj kn kr=
 bif decide (((IntKind.wrap .i64 (b'-a)):Int)≤12) then
  (C Ho [.int .i64 a,.int .i64 b',.list aF aj]).bind fun r1=>
  kr ((V.nth r1 0).toList)
 else
  bif (jO:Int)==0 then
  (C Hp [.int .i64 a,.int .i64 b',.list aF aj]).bind fun r2=>
  kr ((V.nth r2 0).toList)
  else
  zq C a b' jO ff fC (IntKind.wrap .i64 (b'-a)) (!ff) aj (un fun (cL:Int) (D8:List V)=>
   (C Hq [.list aF D8,.int .i64 a,.int .i64 b']).bind fun r6=>
   zr C a b' cL ff fC (IntKind.wrap .i64 (b'-a)) ((V.nth r6 0).toInt) ((V.nth (r6.drop 1) 0).toInt) ((((V.nth (r6.drop 1) 0).toInt):Int)==2) D8 (un fun (ed:Int)=>un fun (OT:Int) (pA:List V)=>
    bif ff then
     bif fC then
     nv C a b' cL ff fC (IntKind.wrap .i64 (b'-a)) ed ((OT:Int)==1) pA (dy (un fun (Xf:Bool) (Pc:List V)=>
      kr Pc) (fun (nt:List V)=>um C a b' ff fC cL ed nt kn))
     else
     nv C a b' cL ff fC (IntKind.wrap .i64 (b'-a)) ed false pA (dy (un fun (aqD:Bool) (ajF:List V)=>
      kr ajF) (fun (ajG:List V)=>um C a b' ff fC cL ed ajG kn))
    else
     nv C a b' cL ff fC (IntKind.wrap .i64 (b'-a)) ed false pA (dy (un fun (aqE:Bool) (ajH:List V)=>
      kr ajH) (fun (ajI:List V)=>um C a b' ff fC cL ed ajI kn)))):=rfl
section
variable {a b:Nat} {lim:Int} {wb wp:Bool}
theorem ajJ {d:Array Ed} (gq:a+12<b) (hb:b≤d.size) (hs:d.size<1152921504606846976) (len:Int) (t:Bool): ∃(l1:Int) (d1:Array Ed),PermIn a b d d1∧∀(β:Type) (kr:(Int × List V)→Option β),zq CC a b lim wb wp len t (eA d) kr=kr (l1,eA d1):=by
 cases t with
 | true=>
  obtain ⟨R,e,hR⟩:=ajE gq hb hs
  refine ⟨IntKind.wrap .i64 (lim-1),R,hR,fun β kr=> ?_⟩
  unfold zq
  rw[cond_true,e]
  rfl
 | false=>exact ⟨lim,d,permIn_refl _ _ _,fun β kr=>rfl⟩
theorem ajK {d:Array Ed} (gq:a+12<b) (hb:b≤d.size) (hs:d.size<1152921504606846976) (len h:Int) (t:Bool) {p:Nat} (h1:a≤p) (h2:p<b): ∃(p2:Nat) (h2:Int) (d1:Array Ed),a≤p2∧p2<b∧PermIn a b d d1∧∀(β:Type) (kr:(Int × Int × List V)→Option β),zr CC a b lim wb wp len p h t (eA d) kr=kr ((p2:Int),h2,eA d1):=by
 cases t with
 | true=>
  refine ⟨b-1-(p-a),1,reverseRange d a b,by omega,by omega,reverseRange_holds d a b (by omega) hb,fun β kr=> ?_⟩
  unfold zr
  rw[cond_true,aiA (by omega) hb hs]
  simp (disch:=omega) only[Option.bind_some,V.cq,V.oe,kS,np,wrap64]
 | false=>exact ⟨p,h,d,h1,h2,permIn_refl _ _ _,fun β kr=>rfl⟩
theorem ajL {d:Array Ed} (gq:a+12<b) (hb:b≤d.size) (hs:d.size<1152921504606846976) (hB:Below aG a b d) (len p:Int) (t:Bool): ∃d1:Array Ed,PermIn a b d d1∧
  ((∀(β:Type) (kr:((Bool × List V) ⊕ List V)→Option β),nv CC a b lim wb wp len p t (eA d) kr=kr (.inr (eA d1)))∨
  (SortedIn aG a b d1∧∀(β:Type) (kr:((Bool × List V) ⊕ List V)→Option β),nv CC a b lim wb wp len p t (eA d) kr=kr (.inl (true,eA d1)))):=by
 cases t with
 | true=>
  have hp:=partialInsertionSort_holds (lt:=aG) zt d a b (by omega) hb hB
  refine ⟨_,hp.1,?_⟩
  cases h:(partialInsertionSort aG d a b).2 with
  | true=>
   refine .inr ⟨hp.2 h,fun β kr=> ?_⟩
   unfold nv
   rw[cond_true,Yy (by omega) hb hs,h]
   rfl
  | false=>
   refine .inl fun β kr=> ?_
   unfold nv
   rw[cond_true,Yy (by omega) hb hs,h]
   rfl
 | false=>exact ⟨d,permIn_refl _ _ _,.inl fun β kr=>rfl⟩
end
def Jh (a b:Nat) (d:Array Ed):Prop:= ∀(lim:Int) (wb wp:Bool),∃R,Loop (YP CC) ((a:Int),(b:Int),lim,wb,wp,eA d)=some (eA R)∧PermIn a b d R∧SortedIn aG a b R
theorem Jh.call {a b:Nat} {d:Array Ed} (h:Jh a b d) (lim:Int): ∃R,CC ik [.int .i64 (a:Int),.int .i64 (b:Int),.int .i64 lim,.list aF (eA d)]=some [.list aF (eA R)]∧PermIn a b d R∧SortedIn aG a b R:=by
 obtain ⟨R,e,h1,h2⟩:=h lim true true
 refine ⟨R,ajw ?_,h1,h2⟩
 unfold YR
 rw[e]
 rfl
theorem ajM {a b p:Nat} {d:Array Ed} (gq:a+12<b) (hb:b≤d.size) (hs:d.size<1152921504606846976) (hB:Below aG a b d) (h1:a≤p) (h2:p<b)
  (ih: ∀(a2 b2:Nat) (d2:Array Ed),b2-a2<b-a→a2≤b2→b2≤d2.size→d2.size<1152921504606846976→Below aG a2 b2 d2→Jh a2 b2 d2) (wb wp:Bool) (lim:Int):
  ∃(a2 b2:Nat) (wF wG:Bool) (d2:Array Ed),b2-a2<b-a∧a2≤b2∧b2≤d2.size∧d2.size<1152921504606846976∧Below aG a2 b2 d2∧
   (∀R,PermIn a2 b2 d2 R→SortedIn aG a2 b2 R→PermIn a b d R∧SortedIn aG a b R)∧
   ∀(β:Type) (kn:(Int × Int × Int × Bool × Bool × (List V))→Option β),um CC a b wb wp lim p (eA d) kn=kn ((a2:Int),(b2:Int),lim,wF,wG,eA d2):=by
 have part: ∃(a2 b2:Nat) (wF wG:Bool) (d2:Array Ed),b2-a2<b-a∧a2≤b2∧b2≤d2.size∧d2.size<1152921504606846976∧Below aG a2 b2 d2∧
   (∀R,PermIn a2 b2 d2 R→SortedIn aG a2 b2 R→PermIn a b d R∧SortedIn aG a b R)∧
   ∀(β:Type) (kn:(Int × Int × Int × Bool × Bool × (List V))→Option β),
    ((CC pg [.int .i64 (a:Int),.int .i64 (b:Int),.int .i64 (p:Int),.list aF (eA d)]).bind fun eJ=>
        bif decide (((IntKind.wrap .i64 (((V.nth eJ 0).toInt)-(a:Int))):Int)<(IntKind.wrap .i64 ((b:Int)-((V.nth eJ 0).toInt)))) then
         (CC ik [.int .i64 (a:Int),.int .i64 ((V.nth eJ 0).toInt),.int .i64 lim,.list aF ((V.nth (eJ.drop 2) 0).toList)]).bind fun uj=>
         kn (IntKind.wrap .i64 (((V.nth eJ 0).toInt)+1),(b:Int),lim,decide (((IntKind.wrap .i64 (((V.nth eJ 0).toInt)-(a:Int))):Int)≥(IntKind.wrap .i64 (Int.tdiv (IntKind.wrap .i64 ((b:Int)-(a:Int))) 8))),(V.nth (eJ.drop 1) 0).toBool,(V.nth uj 0).toList)
        else
         (CC ik [.int .i64 (IntKind.wrap .i64 (((V.nth eJ 0).toInt)+1)),.int .i64 (b:Int),.int .i64 lim,.list aF ((V.nth (eJ.drop 2) 0).toList)]).bind fun eS=>
         kn ((a:Int),(V.nth eJ 0).toInt,lim,decide (((IntKind.wrap .i64 ((b:Int)-((V.nth eJ 0).toInt))):Int)≥(IntKind.wrap .i64 (Int.tdiv (IntKind.wrap .i64 ((b:Int)-(a:Int))) 8))),(V.nth (eJ.drop 1) 0).toBool,(V.nth eS 0).toList))=kn ((a2:Int),(b2:Int),lim,wF,wG,eA d2):=by
  obtain ⟨mid,ap,d4,hx⟩: ∃mid ap d4,partition aG d a b p=(mid,ap,d4):=⟨_,_,_,rfl⟩
  obtain ⟨g1,g2,pE,hBa,hBr,ajN,ajO⟩:=round_part zt (partition_holds aG) h1 h2 hb hB hx
  have hc:=ai3 (a:=a) (b:=b) (pivot:=p) (d:=d) h2 (by omega) hb hs
  rw[hx] at hc
  by_cases hl:mid-a<b-mid
  ·obtain ⟨L,e,l1,l2⟩:=(ih a mid d4 (by omega) g1 (by rw[pE];omega) (by rw[pE];exact hs) hBa).call lim
   obtain ⟨Pd,ow⟩:=ajN _ l1 l2
   refine ⟨mid+1,b,decide (((IntKind.wrap .i64 ((mid:Int)-(a:Int))):Int)≥(IntKind.wrap .i64 (Int.tdiv (IntKind.wrap .i64 ((b:Int)-(a:Int))) 8))),ap,L,by omega,by omega,by rw[l1.1,pE];exact hb,by rw[l1.1,pE];exact hs,Pd,ow,fun β kn=> ?_⟩
   ·rw[hc]
    simp only[Option.bind_some,V.cq,V.rR,V.toInt_int,V.j8,V.oe,mE,jQ]
    rw[aJ,af (by rw[np g1,np (by omega),wrap64 (by omega) (by omega),wrap64 (by omega) (by omega)];omega),e]
    simp only[Option.bind_some,V.cq,V.oe]
    rw[dC,wrap64 (x:=((mid+1:Nat):Int)) (by omega) (by omega)]
  ·obtain ⟨L,e,l1,l2⟩:=(ih (mid+1) b d4 (by omega) (by omega) (by rw[pE];exact hb) (by rw[pE];exact hs) hBr).call lim
   obtain ⟨Pd,ow⟩:=ajO _ l1 l2
   refine ⟨a,mid,decide (((IntKind.wrap .i64 ((b:Int)-(mid:Int))):Int)≥(IntKind.wrap .i64 (Int.tdiv (IntKind.wrap .i64 ((b:Int)-(a:Int))) 8))),ap,L,by omega,by omega,by rw[l1.1,pE];omega,by rw[l1.1,pE];exact hs,Pd,ow,fun β kn=> ?_⟩
   ·rw[hc]
    simp only[Option.bind_some,V.cq,V.rR,V.toInt_int,V.j8,V.oe,mE,jQ]
    rw[aJ,ah (by rw[np g1,np (by omega),wrap64 (by omega) (by omega),wrap64 (by omega) (by omega)];omega),dC,wrap64 (x:=((mid+1:Nat):Int)) (by omega) (by omega),e]
    simp only[Option.bind_some,V.cq,V.oe]
 by_cases ha:0<a
 ·by_cases hc:b8 d[a-1]! d[p]! <0
  ·obtain ⟨a2,b2,wF,wG,d2,q1,q2,q3,q4,q5,q6,q7⟩:=part
   refine ⟨a2,b2,wF,wG,d2,q1,q2,q3,q4,q5,q6,fun β kn=> ?_⟩
   rw[←q7 β kn]
   unfold um
   rw[aJ,af (by omega),kS ha,wrap64 (by omega) (by omega),kU (i:=a-1) (by omega),kV (by omega),kU (i:=p) (by omega),kV (by omega)]
   simp only[Ed.dR,Ed.dS,Ed.dU,gW,Option.bind_some,V.cq,V.toInt_int]
   rw[gU,aJ,af hc]
  ·obtain ⟨mid,d4,hx⟩: ∃mid d4,partitionEqual aG d a b p=(mid,d4):=⟨_,_,rfl⟩
   obtain ⟨g1,u6,pE,hB4,ow⟩:=round_eq zt (partitionEqual_holds aG) ha h1 h2 hb hB (by rw[Jd,←propext (HP _ _)];exact hc) hx
   have he:=ai5 (a:=a) (b:=b) (pivot:=p) (d:=d) h2 (by omega) hb hs
   rw[hx] at he
   refine ⟨mid,b,wb,wp,d4,by omega,u6,by rw[pE];exact hb,by rw[pE];exact hs,hB4,ow,fun β kn=> ?_⟩
   unfold um
   rw[aJ,af (by omega),kS ha,wrap64 (by omega) (by omega),kU (i:=a-1) (by omega),kV (by omega),kU (i:=p) (by omega),kV (by omega)]
   simp only[Ed.dR,Ed.dS,Ed.dU,gW,Option.bind_some,V.cq,V.toInt_int]
   rw[gU,aJ,ah hc,he]
   rfl
 ·obtain ⟨a2,b2,wF,wG,d2,q1,q2,q3,q4,q5,q6,q7⟩:=part
  refine ⟨a2,b2,wF,wG,d2,q1,q2,q3,q4,q5,q6,fun β kn=> ?_⟩
  rw[←q7 β kn]
  unfold um
  rw[aJ,ah (by omega)]
theorem ajP: ∀(n a b:Nat) (d:Array Ed),b-a≤n→a≤b→b≤d.size→d.size<1152921504606846976→Below aG a b d→Jh a b d:=by
 intro n
 induction n with
 | zero=>
  intro a b d hn gq hb hs hB lim wb wp
  have hi:=insertionSort_holds (lt:=aG) zt d a b gq hb
  refine ⟨_,cl ?_,hi⟩
  show qE CC a b lim wb wp (eA d) (fun y=>some (Sum.inl y)) (fun r=>some (Sum.inr r))=_
  rw[Jg,aJ,af (by rw[np gq,wrap64 (by omega) (by omega)];omega),Yh hb hs (by omega)]
  rfl
 | succ n ih=>
  intro a b d hn gq hb hs hB lim wb wp
  by_cases h12:b-a≤12
  ·have hi:=insertionSort_holds (lt:=aG) zt d a b gq hb
   refine ⟨_,cl ?_,hi⟩
   show qE CC a b lim wb wp (eA d) (fun y=>some (Sum.inl y)) (fun r=>some (Sum.inr r))=_
   rw[Jg,aJ,af (by rw[np gq,wrap64 (by omega) (by omega)];omega),Yh hb hs (by omega)]
   rfl
  ·have D9:a+12<b:=by omega
   have oa: ¬(((IntKind.wrap .i64 ((b:Int)-(a:Int))):Int)≤12):=by rw[np gq,wrap64 (by omega) (by omega)];omega
   by_cases h0:lim=0
   ·have hi:=heapSort_holds (lt:=aG) zt d a b gq hb
    refine ⟨_,cl ?_,hi⟩
    show qE CC a b lim wb wp (eA d) (fun y=>some (Sum.inl y)) (fun r=>some (Sum.inr r))=_
    rw[Jg,aJ,ah oa,rS,af h0,aiy (by omega) hb hs]
    rfl
   ·obtain ⟨l1,d1,s1,k1⟩:=ajJ (lim:=lim) (wb:=wb) (wp:=wp) D9 hb hs (IntKind.wrap .i64 ((b:Int)-(a:Int))) (!wb)
    have b1:b≤d1.size:=by rw[s1.1];exact hb
    have z1:d1.size<1152921504606846976:=by rw[s1.1];exact hs
    obtain ⟨p,h,c1,p1,p2⟩:=ajC D9 b1 z1
    obtain ⟨q,h2,d2,q1,q2,s2,k2⟩:=ajK (lim:=l1) (wb:=wb) (wp:=wp) D9 b1 z1 (IntKind.wrap .i64 ((b:Int)-(a:Int))) h (h==2) p1 p2
    have b2:b≤d2.size:=by rw[s2.1];exact b1
    have z2:d2.size<1152921504606846976:=by rw[s2.1];exact z1
    have B2:Below aG a b d2:=(hB.perm hb s1).perm b1 s2
    obtain ⟨t,ht⟩: ∃t:Bool,t=(bif wb then (bif wp then (h2==1) else false) else false):=⟨_,rfl⟩
    obtain ⟨d3,s3,k3⟩:=ajL (lim:=l1) (wb:=wb) (wp:=wp) D9 b2 z2 B2 (IntKind.wrap .i64 ((b:Int)-(a:Int))) (q:Int) t
    have b3:b≤d3.size:=by rw[s3.1];exact b2
    have z3:d3.size<1152921504606846976:=by rw[s3.1];exact z2
    have B3:Below aG a b d3:=B2.perm b2 s3
    have P3:PermIn a b d d3:=permIn_trans _ _ _ a b (permIn_trans _ _ _ a b s1 s2) s3
    have step: ∀(β:Type) (kn:(Int × Int × Int × Bool × Bool × (List V))→Option β) (kr:(List V)→Option β),qE CC a b lim wb wp (eA d) kn kr=
      nv CC a b l1 wb wp (IntKind.wrap .i64 ((b:Int)-(a:Int))) (q:Int) t (eA d2) (dy (un fun (Xf:Bool) (Pc:List V)=>kr Pc) (fun (nt:List V)=>um CC a b wb wp l1 q nt kn)):=by
     intro β kn kr
     rw[Jg,aJ,ah oa,rS,ah h0,k1]
     simp only[un]
     rw[c1]
     simp only[Option.bind_some,V.cq,V.rR,V.toInt_int,mE,jQ]
     rw[k2]
     simp only[un]
     rw[ht]
     cases wb
     ·rfl
     ·cases wp
      ·rfl
      ·rfl
    rcases k3 with k3|⟨k3s,k3⟩
    ·obtain ⟨a4,b4,wb4,wp4,d4,r1,r2,r3,r4,r5,r6,r7⟩:=ajM D9 b3 z3 B3 q1 q2 (fun a2 b2 d2 aY h1 h2 h3 h4=>ih a2 b2 d2 (by omega) h1 h2 h3 h4) wb wp l1
     obtain ⟨R,e,e1,e2⟩:=ih a4 b4 d4 (by omega) r2 r3 r4 r5 l1 wb4 wp4
     obtain ⟨f1,f2⟩:=r6 R e1 e2
     refine ⟨R,(eu ?_).trans e,permIn_trans _ _ _ a b P3 f1,f2⟩
     show qE CC a b lim wb wp (eA d) (fun y=>some (Sum.inl y)) (fun r=>some (Sum.inr r))=_
     rw[step,k3]
     exact r7 _ (fun y=>some (Sum.inl y))
    ·refine ⟨d3,cl ?_,P3,k3s⟩
     show qE CC a b lim wb wp (eA d) (fun y=>some (Sum.inl y)) (fun r=>some (Sum.inr r))=_
     rw[step,k3]
     rfl
theorem ajQ (l:List Ed) (hs:l.length<1152921504606846976): ∃R:List Ed,CC BJ [.list aF (l.map Ed.enc)]=some [.list aF (R.map Ed.enc)]∧R.Perm l∧R.Pairwise (fun x y=> ¬y.lt x):=by
 obtain ⟨L,e1,_⟩:=YV (x:=l.length) (by omega)
 obtain ⟨R,e2,h1,h2⟩:=(ajP _ 0 l.toArray.size l.toArray (aI _) (ju _) (aI _) (by simpa using hs) (.inl rfl)).call (L:Int)
 have ba:R.size=l.length:=by rw[h1.1];simp
 refine ⟨R.toList,ajx ?_,?_,?_⟩
 ·unfold YS
  rw[cM,tT (A:=l.length) (by omega),e1]
  simp only[Option.bind_some,V.cq,V.toInt_int]
  have e3:eA l.toArray=l.map Ed.enc:=by simp[qB]
  rw[e3,show ((l.toArray.size:Nat):Int)=(l.length:Int) by simp,show ((0:Nat):Int)=0 from rfl] at e2
  rw[e2]
  rfl
 ·have h3:=h1.2.2
  rw[show l.toArray.size=R.size from h1.1.symm,Array.extract_size,h1.1,Array.extract_size] at h3
  exact h3
 ·rw[wU]
  intro i j hi hj vn
  have h3:=h2 i j (ju _) vn (by simpa[←ba] using hj)
  rw[Jd] at h3
  have eh:i<R.size:=by simpa using hi
  have gR:j<R.size:=by simpa using hj
  rw[getElem!_pos R i eh,getElem!_pos R j gR] at h3
  simpa using h3
end Go.AM.SL
set_option maxRecDepth 100000
namespace Go.AM
open Go.Proofs
noncomputable def YW (C:ae) (eQ gx fe gV:Int) (fp:List V):Option (List V):=
 (C BL [.int .i64 eQ,.int .i64 gx,.int .u64 fe,.int .u64 gV,.list aF fp]).bind fun r1=>
 bif (((V.nth (r1.drop 2) 0).toInt):Int) != 0 then
  some [.int .i64 0,.int .i64 0,.int .i64 ((V.nth (r1.drop 2) 0).toInt),.list ag ([]:List V),.list ai ([]:List V)]
 else
  (C vP [.int .i64 ((V.nth r1 0).toInt),.int .i64 ((V.nth (r1.drop 1) 0).toInt),.list ag ((V.nth (r1.drop 3) 0).toList),.list ai ((V.nth ((r1.drop 3).drop 1) 0).toList)]).bind fun r2=>
  some [.int .i64 ((V.nth r2 0).toInt),.int .i64 ((V.nth (r2.drop 1) 0).toInt),.int .i64 0,.list ag ((V.nth (r2.drop 2) 0).toList),.list ai ((V.nth ((r2.drop 2).drop 1) 0).toList)]
theorem ajR {eQ gx fe gV:Int} {fp:List V} {r:Option (List V)} (h:YW CC eQ gx fe gV fp=r):CC BH [.int .i64 eQ,.int .i64 gx,.int .u64 fe,.int .u64 gV,.list aF fp]=r:=
 bC (key:=79) (L:=dg) (bs:=[]) (by kernel_rfl) aC (bw (by kernel_rfl) h)
noncomputable def Pe (C:ae) (bn bh bp bq:Int) (bN:List V):Option (List V):=
 (C BJ [.list aF bN]).bind fun r1=>
 (C Ha [.list aF ((V.nth r1 0).toList)]).bind fun r2=>
 bif (V.nth r2 0).toBool then
  (C BH [.int .i64 bn,.int .i64 bh,.int .u64 bp,.int .u64 bq,.list aF ((V.nth (r2.drop 1) 0).toList)]).bind fun r3=>
  some [.int .i64 ((V.nth r3 0).toInt),.int .i64 ((V.nth (r3.drop 1) 0).toInt),.int .i64 ((V.nth (r3.drop 2) 0).toInt),.int .i64 bn,.int .i64 bh,.int .u64 bp,.int .u64 bq,.list aF ((V.nth (r2.drop 1) 0).toList),.list ag ((V.nth (r3.drop 3) 0).toList),.list ai ((V.nth ((r3.drop 3).drop 1) 0).toList)]
 else
  (C BH [.int .i64 bn,.int .i64 bh,.int .u64 bp,.int .u64 bq,.list aF ((V.nth (r2.drop 1) 0).toList)]).bind fun r4=>
  some [.int .i64 ((V.nth r4 0).toInt),.int .i64 ((V.nth (r4.drop 1) 0).toInt),.int .i64 ((V.nth (r4.drop 2) 0).toInt),.int .i64 bn,.int .i64 bh,.int .u64 bp,.int .u64 bq,.list aF ((V.nth (r2.drop 1) 0).toList),.list ag ((V.nth (r4.drop 3) 0).toList),.list ai ((V.nth ((r4.drop 3).drop 1) 0).toList)]
theorem YX {bn bh bp bq:Int} {bN:List V} {r:Option (List V)} (h:Pe CC bn bh bp bq bN=r):CC tP [.int .i64 bn,.int .i64 bh,.int .u64 bp,.int .u64 bq,.list aF bN]=r:=
 bC (key:=65) (L:=dg) (bs:=[]) (by kernel_rfl) aC (bw (by kernel_rfl) h)
section
variable {n:Nf} {L S:Nat} (h:Nat6 n L S)
include h
end
instance (n:Nf) (L S:Nat):Decidable (iO n L S):=by unfold iO;infer_instance
noncomputable def gf (n:Nf) (L S:Nat):Da:=if iO n L S then zD else minD (jq n L S)
def oD (n:Nf) (L S:Nat):Int:=if iO n L S then 3 else 0
section
variable {n:Nf} {L S:Nat} (h:Nat6 n L S)
include h
theorem YY:CC BH (m7 n [])=some (gd (gf n L S) (oD n L S)):=by
 refine ajR ?_
 unfold YW gf oD
 by_cases ho:iO n L S
 ·obtain ⟨X,hX⟩:=ahC h ho
  rw[af ho,af ho]
  refine bs hX (bT rfl ?_)
  rfl
 ·obtain ⟨X,hX⟩:=ahB h ho
  rw[ah ho,ah ho]
  refine bs hX (bF rfl ?_)
  refine bs (Om (yV h ho)) ?_
  rfl
end
def cW (L S st fin:Nat) (l:List Ed):Nf:=⟨L,S,st,fin,sG l⟩
structure uo (L S st fin:Nat) (l:List Ed):Prop where
 l1:1≤L
 l6:L≤6
 qw:S≤64
 st:st<2^S
 fin:fin<2^S
 E: ∀e∈l,e.In L S
 len:l.length≤1000000
theorem pF {L S st fin:Nat} {l:List Ed} (h:uo L S st fin l):Nat6 (cW L S st fin l) L S where
 hL:=rfl
 hS:=rfl
 ok:=by
  have xi:=h.l1
  have hl6:=h.l6
  have hs:=h.qw
  have b6:=h.st
  have ow:=h.fin
  have hp:2^S≤2^64:=pN (by omega) hs
  have fw: ∀e∈sG l,e.In L S:=fun e he=>h.E e (y4.1 he)
  have hlen:=ah4 (L:=L) (S:=S) (by omega) (by omega) (OE l) fw
  refine ⟨by simp only[cW];omega,by simp only[cW];omega,by simp only[cW];omega,by simp only[cW];omega,by simp only[cW];omega,by simp only[cW];omega,by simp only[cW];unfold maxLen;omega,fun e he=> ?_⟩
  have:=fw e he
  unfold Ed.In at this
  unfold Ed.Ok
  omega
 code:=by
  have xi:=h.l1
  have hl6:=h.l6
  have hs:=h.qw
  unfold Nf.code
  rw[ah (by simp only[cW];omega),ah (by simp only[cW,Int.toNat_natCast];have:=h.st;have:=h.fin;omega),af]
  intro i hi
  have fw: ∀e∈sG l,e.In L S:=fun e he=>h.E e (y4.1 he)
  unfold Nf.qu
  simp only[cW] at*
  refine ⟨by rw[fI hi];exact fw _ (eU hi),fun h0=> ?_⟩
  rw[fI hi,fI (show i-1<_ by omega)]
  exact wU.1 (OE l) (i-1) i (by omega) hi (by omega)
def Pf (m:Da) (e:Int) (n:Nf):List V:=[.int .i64 (m.L:Int),.int .i64 (m.st:Int),.int .i64 e,.int .i64 n.L,.int .i64 n.S,.int .u64 (n.st:Int),.int .u64 (n.fin:Int),.list aF (n.E.map Ed.enc),.list ag m.c8,.list ai m.cB]
section
variable {L S st fin:Nat} {l:List Ed} (h:uo L S st fin l)
include h
theorem Pg:CC tP [.int .i64 (L:Int),.int .i64 (S:Int),.int .u64 (st:Int),.int .u64 (fin:Int),.list aF (l.map Ed.enc)]=some (Pf (gf (cW L S st fin l) L S) (oD (cW L S st fin l) L S) (cW L S st fin l)):=by
 have hl:=h.len
 obtain ⟨R,e1,p1,s1⟩:=SL.ajQ l (by omega)
 obtain ⟨b,e2⟩:=X2 (l:=R) (by rw[p1.length_eq];exact hl)
 obtain ⟨c1,c2⟩:=aib s1
 have hc:iQ R=sG l:=XS c1 (OE l) fun x=>by rw[c2,y4,p1.mem_iff]
 rw[hc] at e2
 have e3:=YY (pF h)
 refine YX ?_
 unfold Pe
 refine bs e1 ?_
 refine bs e2 ?_
 cases b
 ·refine bF rfl ?_
  refine bs e3 ?_
  rfl
 ·refine bT rfl ?_
  refine bs e3 ?_
  rfl
end
noncomputable abbrev zw:Code:=cN Tryd.prog (aD.bd 41)
noncomputable def Ea (C:ae) (t40 sN sO:Int) (qH oE:List V) (sP sQ:Int) (qI pG:List V) (t41:Int) {β:Type} (kn:Int→Option β) (kr:((Bool) ⊕ (Int × Bool))→Option β):Option β:=
 bif decide ((t41:Int)<t40) then
  (idx qH t41).bind fun x1=>
  (idx qI t41).bind fun x2=>
  bif !(x1.toBool==x2.toBool) then
  kr (.inl false)
  else
  kn (IntKind.wrap .i64 (t41+1))
 else
  kr (.inr (t41,decide ((t41:Int)<t40)))
noncomputable def Ph (C:ae) (t40 sN sO:Int) (qH oE:List V) (sP sQ:Int) (qI pG:List V):(Int)→Option ((Int) ⊕ ((Bool) ⊕ (Int × Bool))):=fun t41=>Ea C t40 sN sO qH oE sP sQ qI pG t41 (fun y=>some (.inl y)) (fun r=>some (.inr r))
noncomputable def Eb (C:ae) (q t58 t59 t80 sN sO:Int) (qH oE:List V) (sP sQ:Int) (qI pG:List V) (t81:Int) {β:Type} (kn:Int→Option β) (kr:((Bool) ⊕ (Int × Bool))→Option β):Option β:=
 bif decide ((t81:Int)<t80) then
  (idx oE q).bind fun x9=>
  (idx x9.toList t81).bind fun jn=>
  (idx pG q).bind fun gy=>
  (idx gy.toList t81).bind fun qv=>
  bif (jn.toInt:Int) != qv.toInt then
  kr (.inl false)
  else
  kn (IntKind.wrap .i64 (t81+1))
 else
  kr (.inr (t81,decide ((t81:Int)<t80)))
noncomputable def Pj (C:ae) (q t58 t59 t80 sN sO:Int) (qH oE:List V) (sP sQ:Int) (qI pG:List V):(Int)→Option ((Int) ⊕ ((Bool) ⊕ (Int × Bool))):=fun t81=>Eb C q t58 t59 t80 sN sO qH oE sP sQ qI pG t81 (fun y=>some (.inl y)) (fun r=>some (.inr r))
noncomputable def Ec (C:ae) (t58 sN sO:Int) (qH oE:List V) (sP sQ:Int) (qI pG:List V) (t59:Int) {β:Type} (kn:Int→Option β) (kr:((Bool) ⊕ (Int × Bool))→Option β):Option β:=
 bif decide ((t59:Int)<t58) then
  (idx oE t59).bind fun x6=>
  (idx pG t59).bind fun x7=>
  bif ((x6.toList.length:Int):Int) != (x7.toList.length:Int) then
  kr (.inl false)
  else
  (idx oE t59).bind fun x8=>
  (Loop (Pj C t59 t58 t59 (x8.toList.length:Int) sN sO qH oE sP sQ qI pG) 0).bind (dy (fun (su:Bool)=>
   kr (.inl su)) (un fun (v7:Int) (ajS:Bool)=>
   kn (IntKind.wrap .i64 (t59+1))))
 else
  kr (.inr (t59,decide ((t59:Int)<t58)))
noncomputable def Pk (C:ae) (t58 sN sO:Int) (qH oE:List V) (sP sQ:Int) (qI pG:List V):(Int)→Option ((Int) ⊕ ((Bool) ⊕ (Int × Bool))):=fun t59=>Ec C t58 sN sO qH oE sP sQ qI pG t59 (fun y=>some (.inl y)) (fun r=>some (.inr r))
noncomputable def YZ (C:ae):cH:=fun β n ds k=>
 bif Nat.beq n 65 then bE Mf [false,true,false,false,false,false,false,false,false,false] [[0],[1,0,0,3,4,5,6,7,8,9,10]] (@Ea C) ds k else
 bif Nat.beq n 241 then bE Mg [false,false,false,false,true,false,false,false,false,false,false,false,false] [[0],[1,2,3,4,0,0,6,7,8,9,10,11,12,13]] (@Eb C) ds k else
 bif Nat.beq n 161 then bE Mh [false,true,false,false,false,false,false,false,false,false] [[0],[1,0,0,3,4,5,6,7,8,9,10]] (@Ec C) ds k else
 none
abbrev Pl (C:ae) (b:cE):Prop:=cF Tryd.prog aD C (YZ C) 41 (cQ Tryd.prog (aD.bd 41)) (aD.sin 41).bf.length b
theorem ajT (C:ae):Pl C (.loop (av [1,1,0,1,0,0] zw)):=
 bH Mf [false,true,false,false,false,false,false,false,false,false] [[0],[1,0,0,3,4,5,6,7,8,9,10]] (@Ea C) (by kernel_rfl) (bc (bs:=[]) (by kernel_rfl) aC) (fun ds=>by kernel_rfl) (fun i x=>by kernel_rfl) (fun i x β k=>by kernel_rfl) (fun β ds k=>by kernel_rfl)
theorem ajU (C:ae):Pl C (.loop (av [1,1,1,0,1,0,0,1,1,0,0,1,1,1,0,0] zw)):=
 bH Mg [false,false,false,false,true,false,false,false,false,false,false,false,false] [[0],[1,2,3,4,0,0,6,7,8,9,10,11,12,13]] (@Eb C) (by kernel_rfl) (bc (bs:=[]) (by kernel_rfl) aC) (fun ds=>by kernel_rfl) (fun i x=>by kernel_rfl) (fun i x β k=>by kernel_rfl) (fun β ds k=>by kernel_rfl)
theorem ajV (C:ae):Pl C (.loop (av [1,1,1,0,1,0,0] zw)):=
 bH Mh [false,true,false,false,false,false,false,false,false,false] [[0],[1,0,0,3,4,5,6,7,8,9,10]] (@Ec C) (by kernel_rfl) (bc (bs:=[.loop (av [1,1,1,0,1,0,0,1,1,0,0,1,1,1,0,0] zw)]) (by kernel_rfl) (bt (ajU C) aC)) (fun ds=>by kernel_rfl) (fun i x=>by kernel_rfl) (fun i x β k=>by kernel_rfl) (fun β ds k=>by kernel_rfl)
noncomputable def Y0 (C:ae) (zx zy:Int) (wH wI:List V) (zz zA:Int) (zB zC:List V):Option (List V):=
 bif (zx:Int) != zz then
  some [.bool false]
 else
  bif (zy:Int) != zA then
  some [.bool false]
  else
  bif ((wH.length:Int):Int) != (zB.length:Int) then
   some [.bool false]
  else
   bif ((wI.length:Int):Int) != (zC.length:Int) then
   some [.bool false]
   else
   (Loop (Ph C (wH.length:Int) zx zy wH wI zz zA zB zC) 0).bind (dy (fun (lA:Bool)=>
    some [.bool lA]) (un fun (ka:Int) (m9:Bool)=>
    (Loop (Pk C (wI.length:Int) zx zy wH wI zz zA zB zC) 0).bind (dy (fun (Il:Bool)=>
     some [.bool Il]) (un fun (aqF:Int) (XL:Bool)=>
     some [.bool true]))))
theorem ajW {zx zy:Int} {wH wI:List V} {zz zA:Int} {zB zC:List V} {r:Option (List V)} (h:Y0 CC zx zy wH wI zz zA zB zC=r):CC G0 [.int .i64 zx,.int .i64 zy,.list ag wH,.list ai wI,.int .i64 zz,.int .i64 zA,.list ag zB,.list ai zC]=r:=
 bC (key:=41) (L:=YZ CC) (bs:=[.loop (av [1,1,0,1,0,0] zw),.loop (av [1,1,1,0,1,0,0] zw)]) (by kernel_rfl) (bt (ajT CC) (bt (ajV CC) aC)) (bw (by kernel_rfl) h)
section
variable {a b:Da} (ha:a.Ok) (hb:b.Ok) (hL:a.L=b.L) {op:Nat}
include ha hb hL
end
theorem ajX (m:Da) (hn:m.n≤1000000) (hl:m.L≤1000):CC G0 (jL m (dt m))=some [.bool true]:=by
 refine ajW ?_
 unfold Y0
 refine bF (by simp) (bF (by simp) (bF (by simp) (bF (by simp) ?_)))
 rw[Da.lE]
 refine bs (fZ m.n (fun i=>(i:Int)) (.inr ((m.n:Int),false)) (fun i hi=> ?_) ?_) ?_
 ·simp only[Ph,Ea]
  refine bT (dA hi) ?_
  refine bs (Da.yH hi) ?_
  refine bs (Da.yH hi) ?_
  refine bF (by simp) ?_
  rw[da (by omega)]
 ·simp only[Ph,Ea]
  refine bF (bJ (aI _)) ?_
  rw[bJ (aI _)]
 ·simp only[dy,un]
  rw[Da.N4]
  refine bs (fZ m.n (fun i=>(i:Int)) (.inr ((m.n:Int),false)) (fun i hi=> ?_) ?_) ?_
  ·simp only[Pk,Ec]
   refine bT (dA hi) ?_
   refine bs (Da.ot hi) ?_
   refine bs (Da.ot hi) ?_
   refine bF (by simp) ?_
   refine bs (Da.ot hi) ?_
   rw[pw,eo]
   refine bs (fZ m.L (fun x=>(x:Int)) (.inr ((m.L:Int),false)) (fun x hx=> ?_) ?_) ?_
   ·simp only[Pj,Eb]
    refine bT (dA hx) ?_
    refine bs (Da.ot hi) ?_
    rw[pw]
    refine bs (ou hx) ?_
    refine bs (Da.ot hi) ?_
    rw[pw]
    refine bs (ou hx) ?_
    refine bF (by simp) ?_
    rw[da (by omega)]
   ·simp only[Pj,Eb]
    refine bF (bJ (aI _)) ?_
    rw[bJ (aI _)]
   ·simp only[dy,un]
    rw[da (by omega)]
  ·simp only[Pk,Ec]
   refine bF (bJ (aI _)) ?_
   rw[bJ (aI _)]
  ·rfl
theorem Da.Ok.same {m:Da} (h:m.Ok):CC G0 (jL m (dt m))=some [.bool true]:=ajX m (by have:=h.eE;omega) (by have:=h.l6;omega)
noncomputable abbrev zE:Code:=cN Tryd.prog (aD.bd 75)
noncomputable def wJ (C:ae) (p:Int) (t19:List V) (t20 t21:Int) (t26:List V) (t27 a8 bj:Int) (bz br:List V) (changed:Bool) (t28:Int) (results:List V) {β:Type} (kn:(Bool × Int × (List V))→Option β) (kr:(Bool × Int × Bool × (List V))→Option β):Option β:=
 bif decide ((t28:Int)<t27) then
  (idx t26 t28).bind fun x2=>
  bif (decide (0≤x2.toInt))&&(decide (x2.toInt<(results.length:Int))) then
  (results[(x2.toInt:Int).toNat]?).bind fun x3=>
  bif x3.toBool then
   bif (decide (0≤p))&&(decide (p<(results.length:Int))) then
   (results[(p:Int).toNat]?).bind fun x4=>
   bif !x4.toBool then
    bif (decide (0≤p))&&(decide (p<(results.length:Int))) then
    (results[(p:Int).toNat]?).bind fun x5=>
    kn (true,IntKind.wrap .i64 (t28+1),results.set ((p:Int).toNat) (.bool true))
    else none
   else
    kn (changed,IntKind.wrap .i64 (t28+1),results)
   else none
  else
   kn (changed,IntKind.wrap .i64 (t28+1),results)
  else none
 else
  kr (changed,t28,decide ((t28:Int)<t27),results)
noncomputable def zF (C:ae) (p:Int) (t19:List V) (t20 t21:Int) (t26:List V) (t27 a8 bj:Int) (bz br:List V):(Bool × Int × (List V))→Option ((Bool × Int × (List V)) ⊕ (Bool × Int × Bool × (List V))):=un fun changed=>un fun t28 results=>wJ C p t19 t20 t21 t26 t27 a8 bj bz br changed t28 results (fun y=>some (.inl y)) (fun r=>some (.inr r))
noncomputable def Ee (C:ae) (t19:List V) (t20 a8 bj:Int) (bz br:List V) (changed:Bool) (t21:Int) (results:List V) {β:Type} (kn:(Bool × Int × (List V))→Option β) (kr:(Bool × Int × Bool × (List V))→Option β):Option β:=
 bif decide ((t21:Int)<t20) then
  (idx t19 t21).bind fun x1=>
  (Loop (zF C t21 t19 t20 t21 x1.toList (x1.toList.length:Int) a8 bj bz br) (changed,0,results)).bind (un fun (ajY:Bool)=>un fun (m8:Int)=>un fun (tW:Bool) (ajZ:List V)=>
   kn (ajY,IntKind.wrap .i64 (t21+1),ajZ))
 else
  kr (changed,t21,decide ((t21:Int)<t20),results)
noncomputable def Ji (C:ae) (t19:List V) (t20 a8 bj:Int) (bz br:List V):(Bool × Int × (List V))→Option ((Bool × Int × (List V)) ⊕ (Bool × Int × Bool × (List V))):=un fun changed=>un fun t21 results=>Ee C t19 t20 a8 bj bz br changed t21 results (fun y=>some (.inl y)) (fun r=>some (.inr r))
noncomputable def Ef (C:ae) (a8 bj:Int) (bz br:List V) (changed:Bool) (results:List V) {β:Type} (kn:(Bool × (List V))→Option β) (kr:(Bool × (List V))→Option β):Option β:=
 bif changed then
  (Loop (Ji C br (br.length:Int) a8 bj bz br) (false,0,results)).bind (un fun (aj0:Bool)=>un fun (yW:Int)=>un fun (yR:Bool) (aj1:List V)=>
   kn (aj0,aj1))
 else
  kr (changed,results)
noncomputable def Jj (C:ae) (a8 bj:Int) (bz br:List V):(Bool × (List V))→Option ((Bool × (List V)) ⊕ (Bool × (List V))):=un fun changed results=>Ef C a8 bj bz br changed results (fun y=>some (.inl y)) (fun r=>some (.inr r))
noncomputable def Y1 (C:ae):cH:=fun β n ds k=>
 bif Nat.beq n 161 then bE Mv [true,false,false,false,false,false,false,true,false,false,false,false,true] [[0,2,3,4,5,6,7,0,0,9,10,11,12,0]] (@wJ C) ds k else
 bif Nat.beq n 113 then bE Mw [true,false,false,true,false,false,false,false,true] [[0,2,3,0,0,5,6,7,8,0]] (@Ee C) ds k else
 bif Nat.beq n 65 then bE Mx [true,false,false,false,false,true] [[0,2,3,4,5,0]] (@Ef C) ds k else
 none
abbrev Pm (C:ae) (b:cE):Prop:=cF Tryd.prog aD C (Y1 C) 75 (cQ Tryd.prog (aD.bd 75)) (aD.sin 75).bf.length b
theorem aj2 (C:ae):Pm C (.loop (av [1,1,1,0,1,0,0,1,0,1,1,0,0,1,1,0,0,1,1,0,0] zE)):=
 bH Mv [true,false,false,false,false,false,false,true,false,false,false,false,true] [[0,2,3,4,5,6,7,0,0,9,10,11,12,0]] (@wJ C) (by kernel_rfl) (bc (bs:=[]) (by kernel_rfl) aC) (fun ds=>by kernel_rfl) (fun i x=>by kernel_rfl) (fun i x β k=>by kernel_rfl) (fun β ds k=>by kernel_rfl)
theorem aj3 (C:ae):Pm C (.loop (av [1,1,1,0,1,0,0,1,0,1,1,0,0] zE)):=
 bH Mw [true,false,false,true,false,false,false,false,true] [[0,2,3,0,0,5,6,7,8,0]] (@Ee C) (by kernel_rfl) (bc (bs:=[.loop (av [1,1,1,0,1,0,0,1,0,1,1,0,0,1,1,0,0,1,1,0,0] zE)]) (by kernel_rfl) (bt (aj2 C) aC)) (fun ds=>by kernel_rfl) (fun i x=>by kernel_rfl) (fun i x β k=>by kernel_rfl) (fun β ds k=>by kernel_rfl)
theorem aj4 (C:ae):Pm C (.loop (av [1,1,1,0,1,0,0] zE)):=
 bH Mx [true,false,false,false,false,true] [[0,2,3,4,5,0]] (@Ef C) (by kernel_rfl) (bc (bs:=[.loop (av [1,1,1,0,1,0,0,1,0,1,1,0,0] zE)]) (by kernel_rfl) (bt (aj3 C) aC)) (fun ds=>by kernel_rfl) (fun i x=>by kernel_rfl) (fun i x β k=>by kernel_rfl) (fun β ds k=>by kernel_rfl)
noncomputable def Y2 (C:ae) (aw az:Int) (ar ay:List V):Option (List V):=
 bif (decide (0≤(ar.length:Int)))&&((decide ((ar.length:Int)≤(ar.length:Int)))&&(Nat.ble ((((ar.length:Int):Int).toNat)*1) ct)) then
  (Loop (Jj C aw az ar ay) (true,ar.take (List.replicate (((ar.length:Int):Int).toNat) (V.bool false)).length++(List.replicate (((ar.length:Int):Int).toNat) (V.bool false)).drop ar.length)).bind (un fun (v7:Bool) (aj5:List V)=>
   some [.list ag aj5])
 else none
theorem aj6 {aw az:Int} {ar ay:List V} {r:Option (List V)} (h:Y2 CC aw az ar ay=r):CC yi [.int .i64 aw,.int .i64 az,.list ag ar,.list ai ay]=r:=
 bC (key:=75) (L:=Y1 CC) (bs:=[.loop (av [1,1,1,0,1,0,0] zE)]) (by kernel_rfl) (bt (aj4 CC) aC) (bw (by kernel_rfl) h)
noncomputable abbrev zG:Code:=cN Tryd.prog (aD.bd 76)
noncomputable def Eg (C:ae) (q t13 t14 t19 t20:Int) (t27:List V) (t28 a8 bj:Int) (bz br:List V) (t29:Int) (outs:List V) {β:Type} (kn:(Int × (List V))→Option β) (kr:(Int × Bool × (List V))→Option β):Option β:=
 bif decide ((t29:Int)<t28) then
  (idx t27 t29).bind fun x2=>
  bif (decide (0≤q))&&(decide (q<(outs.length:Int))) then
  (outs[(q:Int).toNat]?).bind fun x3=>
  bif x3.toBool then
   bif (decide (0≤q))&&(decide (q<(outs.length:Int))) then
   (outs[(q:Int).toNat]?).bind fun x4=>
   kn (IntKind.wrap .i64 (t29+1),outs.set ((q:Int).toNat) (.bool true))
   else none
  else
   bif (decide (0≤x2.toInt))&&(decide (x2.toInt<(outs.length:Int))) then
   (outs[(x2.toInt:Int).toNat]?).bind fun x5=>
   bif (decide (0≤q))&&(decide (q<(outs.length:Int))) then
    (outs[(q:Int).toNat]?).bind fun x6=>
    kn (IntKind.wrap .i64 (t29+1),outs.set ((q:Int).toNat) (.bool x5.toBool))
   else none
   else none
  else none
 else
  kr (t29,decide ((t29:Int)<t28),outs)
noncomputable def Jk (C:ae) (q t13 t14 t19 t20:Int) (t27:List V) (t28 a8 bj:Int) (bz br:List V):(Int × (List V))→Option ((Int × (List V)) ⊕ (Int × Bool × (List V))):=un fun t29 outs=>Eg C q t13 t14 t19 t20 t27 t28 a8 bj bz br t29 outs (fun y=>some (.inl y)) (fun r=>some (.inr r))
noncomputable def Eh (C:ae) (t13 t14 t19 a8 bj:Int) (bz br:List V) (t20:Int) (outs:List V) {β:Type} (kn:(Int × (List V))→Option β) (kr:(Int × Bool × (List V))→Option β):Option β:=
 bif decide ((t20:Int)<t19) then
  (idx br t20).bind fun x1=>
  (Loop (Jk C t20 t13 t14 t19 t20 x1.toList (x1.toList.length:Int) a8 bj bz br) (0,outs)).bind (un fun (m8:Int)=>un fun (tW:Bool) (aj7:List V)=>
   kn (IntKind.wrap .i64 (t20+1),aj7))
 else
  kr (t20,decide ((t20:Int)<t19),outs)
noncomputable def Ei (C:ae) (t13 t14 t19 a8 bj:Int) (bz br:List V):(Int × (List V))→Option ((Int × (List V)) ⊕ (Int × Bool × (List V))):=un fun t20 outs=>Eh C t13 t14 t19 a8 bj bz br t20 outs (fun y=>some (.inl y)) (fun r=>some (.inr r))
noncomputable def Ej (C:ae) (t13 a8 bj:Int) (bz br:List V) (t14:Int) (outs:List V) {β:Type} (kn:(Int × (List V))→Option β) (kr:(Int × Bool × (List V))→Option β):Option β:=
 bif decide ((t14:Int)<t13) then
  (Loop (Ei C t13 t14 (outs.length:Int) a8 bj bz br) (0,outs)).bind (un fun (Oa:Int)=>un fun (yW:Bool) (aj8:List V)=>
   kn (IntKind.wrap .i64 (t14+1),aj8))
 else
  kr (t14,decide ((t14:Int)<t13),outs)
noncomputable def Jl (C:ae) (t13 a8 bj:Int) (bz br:List V):(Int × (List V))→Option ((Int × (List V)) ⊕ (Int × Bool × (List V))):=un fun t14 outs=>Ej C t13 a8 bj bz br t14 outs (fun y=>some (.inl y)) (fun r=>some (.inr r))
noncomputable def Y3 (C:ae):cH:=fun β n ds k=>
 bif Nat.beq n 161 then bE My [false,false,false,false,false,false,false,true,false,false,false,false,true] [[1,2,3,4,5,6,7,0,0,9,10,11,12,0]] (@Eg C) ds k else
 bif Nat.beq n 113 then bE Mz [false,false,false,true,false,false,false,false,true] [[1,2,3,0,0,5,6,7,8,0]] (@Eh C) ds k else
 bif Nat.beq n 49 then bE MA [false,true,false,false,false,false,true] [[1,0,0,3,4,5,6,0]] (@Ej C) ds k else
 none
abbrev Pn (C:ae) (b:cE):Prop:=cF Tryd.prog aD C (Y3 C) 76 (cQ Tryd.prog (aD.bd 76)) (aD.sin 76).bf.length b
theorem aj9 (C:ae):Pn C (.loop (av [1,1,0,1,0,0,1,1,0,0,1,1,1,0,0,1,1,0,0,1,1,0,0] zG)):=
 bH My [false,false,false,false,false,false,false,true,false,false,false,false,true] [[1,2,3,4,5,6,7,0,0,9,10,11,12,0]] (@Eg C) (by kernel_rfl) (bc (bs:=[]) (by kernel_rfl) aC) (fun ds=>by kernel_rfl) (fun i x=>by kernel_rfl) (fun i x β k=>by kernel_rfl) (fun β ds k=>by kernel_rfl)
theorem aka (C:ae):Pn C (.loop (av [1,1,0,1,0,0,1,1,0,0,1,1,1,0,0] zG)):=
 bH Mz [false,false,false,true,false,false,false,false,true] [[1,2,3,0,0,5,6,7,8,0]] (@Eh C) (by kernel_rfl) (bc (bs:=[.loop (av [1,1,0,1,0,0,1,1,0,0,1,1,1,0,0,1,1,0,0,1,1,0,0] zG)]) (by kernel_rfl) (bt (aj9 C) aC)) (fun ds=>by kernel_rfl) (fun i x=>by kernel_rfl) (fun i x β k=>by kernel_rfl) (fun β ds k=>by kernel_rfl)
theorem akb (C:ae):Pn C (.loop (av [1,1,0,1,0,0] zG)):=
 bH MA [false,true,false,false,false,false,true] [[1,0,0,3,4,5,6,0]] (@Ej C) (by kernel_rfl) (bc (bs:=[.loop (av [1,1,0,1,0,0,1,1,0,0,1,1,1,0,0] zG)]) (by kernel_rfl) (bt (aka C) aC)) (fun ds=>by kernel_rfl) (fun i x=>by kernel_rfl) (fun i x β k=>by kernel_rfl) (fun β ds k=>by kernel_rfl)
noncomputable def Y4 (C:ae) (aw az:Int) (ar ay:List V):Option (List V):=
 bif Nat.ble ((([]:List V).length+ar.length)*1) ct then
  (Loop (Jl C ((([]:List V)++ar).length:Int) aw az ar ay) (0,([]:List V)++ar)).bind (un fun (su:Int)=>un fun (v7:Bool) (akc:List V)=>
   some [.list ag akc])
 else none
theorem akd {aw az:Int} {ar ay:List V} {r:Option (List V)} (h:Y4 CC aw az ar ay=r):CC G7 [.int .i64 aw,.int .i64 az,.list ag ar,.list ai ay]=r:=
 bC (key:=76) (L:=Y3 CC) (bs:=[.loop (av [1,1,0,1,0,0] zG)]) (by kernel_rfl) (bt (akb CC) aC) (bw (by kernel_rfl) h)
def cT (r:Nat→Bool):Nat→Nat
 | 0=>0
 | n+1=>cT r n+(if r n=true then 1 else 0)
theorem Po (r:Nat→Bool): ∀n,cT r n≤n
 | 0=>aI _
 | n+1=>by have:=Po r n;rw[cT];split<;>omega
theorem Pp {r s:Nat→Bool}: ∀{n},(∀q,q<n→r q=true→s q=true)→cT r n≤cT s n
 | 0,_=>aI _
 | n+1,h=>by
  have:=Pp (n:=n) fun q hq=>h q (by omega)
  have h2:=h n (by omega)
  rw[cT,cT]
  split
  ·rename_i h3;rw[af (h2 h3)];omega
  ·omega
theorem Pq {r s:Nat→Bool}: ∀{n},(∀q,q<n→r q=true→s q=true)→(∃q,q<n∧r q=false∧s q=true)→cT r n<cT s n
 | 0,_,h=>by obtain ⟨q,h1,_⟩:=h;omega
 | n+1,h,he=>by
  have hm:=Pp (n:=n) fun q hq=>h q (by omega)
  obtain ⟨q,h1,h2,h3⟩:=he
  rw[cT,cT]
  rcases eg q n with c|c
  ·have:=Pq (n:=n) (fun q hq=>h q (by omega)) ⟨q,c,h2,h3⟩
   have h4:=h n (by omega)
   split
   ·rename_i h5;rw[af (h4 h5)];omega
   ·omega
  ·obtain rfl:q=n:=by omega
   rw[h2,h3]
   simp only[Bool.false_eq_true,ky,iR]
   omega
namespace Da
def fL (a:Da) (k q:Nat):Prop:= ∃w,WL a.L w∧w.length≤k∧a.acc q w=true
def Live (a:Da) (q:Nat):Prop:= ∃w,WL a.L w∧a.acc q w=true
open Classical in
noncomputable def eY (a:Da) (q:Nat):Bool:=decide (a.Live q)
open Classical in
theorem zH {a:Da} {q:Nat}:a.eY q=true↔a.Live q:=by unfold eY;exact decide_eq_true_iff
theorem fL.live {a:Da} {k q:Nat} (h:a.fL k q):a.Live q:=by obtain ⟨w,h1,_,h3⟩:=h;exact ⟨w,h1,h3⟩
theorem fL.mono {a:Da} {k m q:Nat} (h:a.fL k q) (hk:k≤m):a.fL m q:=by obtain ⟨w,h1,h2,h3⟩:=h;exact ⟨w,h1,by omega,h3⟩
theorem Y5 {a:Da} {k q:Nat}:a.fL (k+1) q↔a.fin q=true∨∃x,x<a.L∧a.fL k (a.nx q x):=by
 constructor
 ·rintro ⟨w,h1,h2,h3⟩
  match w,h1,h2,h3 with
  | [],_,_,h3=>exact .inl h3
  | x::w,h1,h2,h3=>exact .inr ⟨x,h1.head,w,h1.tail,by simpa using h2,h3⟩
 ·rintro (h|⟨x,hx,w,h1,h2,h3⟩)
  ·exact ⟨[],WL.nil,by simp,h⟩
  ·exact ⟨x::w,h1.cons hx,by simpa using h2,h3⟩
theorem Y6 {a:Da} {q x:Nat} (hx:x<a.L) (h:a.Live (a.nx q x)):a.Live q:=by
 obtain ⟨w,h1,h2⟩:=h
 exact ⟨x::w,h1.cons hx,h2⟩
theorem Y7 {a:Da} {q:Nat} (h:a.fin q=true):a.Live q:=⟨[],WL.nil,h⟩
theorem Y8 {a:Da} (ha:a.Ok) {r:Nat→Bool} (hf: ∀q,q<a.n→a.fin q=true→r q=true) (hc: ∀q x,q<a.n→x<a.L→r (a.nx q x)=true→r q=true) {q:Nat} (hq:q<a.n) (h:a.Live q):r q=true:=by
 obtain ⟨w,h1,h2⟩:=h
 induction w generalizing q with
 | nil=>exact hf q hq h2
 | cons x w ih=>exact hc q x hq h1.head (ih (ha.dH hq h1.head) h1.tail h2)
theorem ake {a:Da} (ha:a.Ok) {q:Nat} (hq:q<a.n) (h:a.Live q):a.fL a.n q:=by
 classical
 have grow: ∀k,k≤cT (fun q=>decide (a.fL k q)) a.n∨∃j,j<k∧∀q,q<a.n→a.fL (j+1) q→a.fL j q:=by
  intro k
  induction k with
  | zero=>exact .inl (ju _)
  | succ k ih=>
   rcases ih with h1|⟨j,h1,h2⟩
   ·by_cases hs: ∀q,q<a.n→a.fL (k+1) q→a.fL k q
    ·exact .inr ⟨k,by omega,hs⟩
    ·left
     have: ∃q,q<a.n∧a.fL (k+1) q∧¬a.fL k q:=by
      refine Classical.byContradiction fun hn=>hs fun q hq h3=>Classical.byContradiction fun h4=>hn ⟨q,hq,h3,h4⟩
     obtain ⟨q,h3,h4,h5⟩:=this
     have:=Pq (r:=fun q=>decide (a.fL k q)) (s:=fun q=>decide (a.fL (k+1) q)) (n:=a.n) (fun q _ hr=>bO ((ET hr).mono (by omega))) ⟨q,h3,dE h5,bO h4⟩
     omega
   ·exact .inr ⟨j,by omega,h2⟩
 rcases grow (a.n+1) with h1|⟨j,h1,h2⟩
 ·have:=Po (fun q=>decide (a.fL (a.n+1) q)) a.n
  omega
 ·refine fL.mono (k:=j) ?_ (by omega)
  have:=Y8 ha (r:=fun q=>decide (a.fL j q)) (fun q _ hf=>bO ⟨[],WL.nil,by simp,hf⟩) (fun q x hq hx hr=>bO (h2 q hq (Y5.2 (.inr ⟨x,hx,ET hr⟩)))) hq h
  exact ET this
end Da
def bV (n:Nat) (r:Nat→Bool):List V:=tab n fun q=>V.bool (r q)
theorem akf {n:Nat} {r:Nat→Bool}:(bV n r).length=n:=by simp[bV]
def upd (r:Nat→Bool) (p:Nat) (b:Bool) (q:Nat):Bool:=if q=p then b else r q
theorem pH {r:Nat→Bool} {p:Nat} {b:Bool}:upd r p b p=b:=af rfl
theorem pI {r:Nat→Bool} {p q:Nat} {b:Bool} (h:q≠p):upd r p b q=r q:=ah h
theorem Y9 {r:Nat→Bool} {p:Nat} {b c:Bool}:upd (upd r p b) p c=upd r p c:=by
 funext q
 by_cases h:q=p
 ·rw[h,pH,pH]
 ·rw[pI h,pI h,pI h]
theorem akg {r:Nat→Bool} {p:Nat}:upd r p (r p)=r:=by
 funext q
 by_cases h:q=p
 ·rw[h,pH]
 ·rw[pI h]
theorem Pr {n:Nat} {r:Nat→Bool} {p:Nat} {b:Bool}:(bV n r).set p (.bool b)=bV n (upd r p b):=by
 unfold bV
 rw[pr]
 refine ep fun q _=> ?_
 by_cases h:q=p
 ·rw[af h,h,pH]
 ·rw[ah h,pI h]
theorem Za {n:Nat} {r s:Nat→Bool} (h: ∀q,q<n→r q=s q):bV n r=bV n s:=ep fun q hq=>by rw[h q hq]
structure Ek (a:Da) (r0 r:Nat→Bool) (c:Bool):Prop where
 good: ∀q,q<a.n→r q=true→a.Live q
 up: ∀q,q<a.n→r0 q=true→r q=true
 yes:c=true→∃q,q<a.n∧r0 q=false∧r q=true
 no:c=false→∀q,q<a.n→r q=r0 q
section
variable {a:Da} (h:a.Ok)
include h
theorem akh {r0 r:Nat→Bool} {c:Bool} (hr:Ek a r0 r c) {p:Nat} (hp:p<a.n) {k1 k2 k3 k4:Int} {l1 l2:List V}:
  ∃o,Loop (zF CC (p:Int) l1 k1 k2 (tab a.L fun x=>iV (a.nx p x)) ((tab a.L fun x=>iV (a.nx p x)).length:Int) k3 k4 l2 a.cB) (c,0,bV a.n r)=some o∧∃c' r',o=(c',(a.L:Int),false,bV a.n r')∧Ek a r0 r' c'∧(c'=false→c=false∧∀x,x<a.L→r0 (a.nx p x)=true→r0 p=true):=by
 have h6:=h.l6
 rw[eo]
 refine yG (fun x st=> ∃c' r',st=(c',(x:Int),bV a.n r')∧Ek a r0 r' c'∧(c'=false→c=false∧∀y,y<x→r0 (a.nx p y)=true→r0 p=true)) _ a.L 0 _ (fun x _ hx st b6=> ?_) (fun st b6=> ?_) ⟨c,r,rfl,hr,fun e=>⟨e,fun y hy=>by omega⟩⟩
 ·obtain ⟨c',r',rfl,hI,fa⟩:=b6
  rw[dV] at hx
  have nW:=h.dH hp hx
  by_cases h1:r' (a.nx p x)=true
  ·by_cases h2:r' p=true
   ·refine ⟨(c',((x+1:Nat):Int),bV a.n r'),?_,c',r',rfl,hI,fun e=>⟨(fa e).1,fun y hy Jm=> ?_⟩⟩
    ·simp only[zF,wJ,un]
     refine bT (dA hx) ?_
     refine bs (ou hx) ?_
     refine (dN (i:=a.nx p x) nW).trans ?_
     refine bT h1 ?_
     refine (dN (i:=p) hp).trans ?_
     refine bF (by rw[V.j8,h2];rfl) ?_
     rw[da (by omega)]
    ·rw[←hI.no e p hp];exact h2
   ·refine ⟨(true,((x+1:Nat):Int),bV a.n (upd r' p true)),?_,true,_,rfl,⟨fun q hq ll=> ?_,fun q hq ll=> ?_,fun _=>⟨p,hp,?_,pH⟩,fun e=>by cases e⟩,fun e=>by cases e⟩
    ·simp only[zF,wJ,un]
     refine bT (dA hx) ?_
     refine bs (ou hx) ?_
     refine (dN (i:=a.nx p x) nW).trans ?_
     refine bT h1 ?_
     refine (dN (i:=p) hp).trans ?_
     refine bT (by rw[V.j8,show r' p=false by simpa using h2];rfl) ?_
     refine (dN (i:=p) hp).trans ?_
     rw[da (by omega),Int.toNat_natCast,Pr]
    ·by_cases e:q=p
     ·rw[e];exact Da.Y6 hx (hI.good _ nW h1)
     ·rw[pI e] at ll;exact hI.good q hq ll
    ·by_cases e:q=p
     ·rw[e,pH]
     ·rw[pI e];exact hI.up q hq ll
    ·cases e:r0 p with
     | false=>rfl
     | true=>exact absurd (hI.up p hp e) h2
  ·refine ⟨(c',((x+1:Nat):Int),bV a.n r'),?_,c',r',rfl,hI,fun e=>⟨(fa e).1,fun y hy Jm=> ?_⟩⟩
   ·simp only[zF,wJ,un]
    refine bT (dA hx) ?_
    refine bs (ou hx) ?_
    refine (dN (i:=a.nx p x) nW).trans ?_
    refine bF (by simpa using h1) ?_
    rw[da (by omega)]
   ·rcases eg y x with c1|c1
    ·exact (fa e).2 y c1 Jm
    ·rw[show y=x by omega,←hI.no e _ nW] at Jm
     exact absurd Jm h1
 ·obtain ⟨c',r',rfl,hI,fa⟩:=b6
  rw[dV] at*
  refine ⟨_,?_,c',r',rfl,hI,fa⟩
  simp only[zF,wJ,un]
  refine bF (bJ (aI _)) ?_
  rw[bJ (aI _)]
theorem aki {r0:Nat→Bool} (hg: ∀q,q<a.n→r0 q=true→a.Live q) {k3 k4:Int} {l2:List V}:
  ∃o,Loop (Ji CC a.cB (a.cB.length:Int) k3 k4 l2 a.cB) (false,0,bV a.n r0)=some o∧∃c' r',o=(c',(a.n:Int),false,bV a.n r')∧Ek a r0 r' c'∧(c'=false→∀q x,q<a.n→x<a.L→r0 (a.nx q x)=true→r0 q=true):=by
 have hm:=h.eE
 rw[Da.N4]
 refine yG (fun p st=> ∃c' r',st=(c',(p:Int),bV a.n r')∧Ek a r0 r' c'∧(c'=false→∀q x,q<p→x<a.L→r0 (a.nx q x)=true→r0 q=true)) _ a.n 0 _ (fun p _ hp st b6=> ?_) (fun st b6=> ?_) ⟨false,r0,rfl,⟨hg,fun q _ e=>e,fun e=>(by cases e),fun _ q _=>rfl⟩,fun e q x hq=>by omega⟩
 ·obtain ⟨c',r',rfl,hI,fa⟩:=b6
  rw[dV] at hp
  obtain ⟨o,h1,c2,r2,rfl,h3,h4⟩:=akh h hI hp (k1:=(a.n:Int)) (k2:=(p:Int)) (k3:=k3) (k4:=k4) (l1:=a.cB) (l2:=l2)
  refine ⟨(c2,((p+1:Nat):Int),bV a.n r2),?_,c2,r2,rfl,h3,fun e q x hq hx hr=> ?_⟩
  ·simp only[Ji,Ee,un]
   refine bT (dA hp) ?_
   refine bs (Da.ot hp) ?_
   rw[pw]
   refine bs h1 ?_
   rw[da (by omega)];rfl
  ·rcases eg q p with c1|c1
   ·exact fa (h4 e).1 q x c1 hx hr
   ·obtain rfl:q=p:=by omega
    exact (h4 e).2 x hx hr
 ·obtain ⟨c',r',rfl,hI,fa⟩:=b6
  rw[dV] at*
  refine ⟨_,?_,c',r',rfl,hI,fa⟩
  simp only[Ji,Ee,un]
  refine bF (bJ (aI _)) ?_
  rw[bJ (aI _)]
theorem Ps:CC yi (dt a)=some [.list ag (bV a.n a.eY)]:=by
 have hm:=h.eE
 refine aj6 ?_
 unfold Y2
 rw[Da.lE]
 refine bT (ng (by omega) (by omega)) ?_
 have e0:a.c8.take (List.replicate (((a.n:Nat):Int).toNat) (V.bool false)).length++(List.replicate (((a.n:Nat):Int).toNat) (V.bool false)).drop a.n=bV a.n a.fin:=by
  rw[Int.toNat_natCast,uB,uH (by simp),List.drop_eq_nil_of_le (by simp),iS]
  rfl
 rw[e0]
 have key:=Ly (step:=Jj CC (a.L:Int) (a.st:Int) a.c8 a.cB)
  (fun x=> ∃c r,x=(c,bV a.n r)∧(∀q,q<a.n→r q=true→a.Live q)∧(∀q,q<a.n→a.fin q=true→r q=true)∧(c=false→∀q x,q<a.n→x<a.L→r (a.nx q x)=true→r q=true))
  (fun x=>(if x.1=true then 1 else 0)+2*(a.n-cT (fun q=>(x.2.getD q (.bool false)).toBool) a.n))
  (fun o=>o=(false,bV a.n a.eY)) (fun x hx=> ?_) (true,bV a.n a.fin) ⟨true,a.fin,rfl,fun q _ e=>Da.Y7 e,fun q _ e=>e,fun e=>by cases e⟩
 ·obtain ⟨r,h1,rfl⟩:=key
  refine bs h1 ?_
  rfl
 ·obtain ⟨c,r,rfl,hg,hf,fa⟩:=hx
  cases c with
  | false=>
   right
   refine ⟨_,?_,rfl⟩
   simp only[Jj,Ef,un]
   refine bF rfl ?_
   have:bV a.n r=bV a.n a.eY:=Za fun q hq=>by
    rw[lM,Da.zH]
    exact ⟨fun e=>hg q hq e,fun e=>Da.Y8 h hf (fa rfl) hq e⟩
   rw[this]
  | true=>
   left
   obtain ⟨o,h1,c2,r2,rfl,hI,ja⟩:=aki h hg (k3:=(a.L:Int)) (k4:=(a.st:Int)) (l2:=a.c8)
   refine ⟨(c2,bV a.n r2),?_,⟨c2,r2,rfl,hI.good,fun q hq e=>hI.up q hq (hf q hq e),fun e q x hq hx hr=> ?_⟩,?_⟩
   ·simp only[Jj,Ef,un]
    refine bT rfl ?_
    refine bs h1 ?_
    rfl
   ·rw[hI.no e q hq]
    rw[hI.no e _ (h.dH hq hx)] at hr
    exact ja e q x hq hx hr
   ·have ec: ∀s:Nat→Bool,cT (fun q=>((bV a.n s).getD q (.bool false)).toBool) a.n=cT s a.n:=fun s=>by
     have: ∀m,m≤a.n→cT (fun q=>((bV a.n s).getD q (.bool false)).toBool) m=cT s m:=by
      intro m
      induction m with
      | zero=>intro _;rfl
      | succ m ih=>
       intro hm
       rw[cT,cT,ih (by omega)]
       unfold bV
       rw[sw (by omega)];rfl
     exact this a.n (aI _)
    simp only[ec]
    have l1:=Po r2 a.n
    have l2:=Pp hI.up
    cases c2 with
    | false=>simp;omega
    | true=>
     have:=Pq hI.up (hI.yes rfl)
     simp only[iR]
     omega
end
def mB (a:Da) (r:Nat→Bool) (p x:Nat):Bool:=r p||(List.range x).any fun y=>r (a.nx p y)
theorem akj {a:Da} {r:Nat→Bool} {p x:Nat}:mB a r p (x+1)=(mB a r p x||r (a.nx p x)):=by
 unfold mB
 rw[ta,List.any_append]
 simp[Bool.or_assoc]
theorem akk {a:Da} (h:a.Ok) {r:Nat→Bool} {p:Nat} (hp:p<a.n) {k1 k2 k3 k4 k5 k6:Int} {l2:List V}:
  Loop (Jk CC (p:Int) k1 k2 k3 k4 (tab a.L fun x=>iV (a.nx p x)) ((tab a.L fun x=>iV (a.nx p x)).length:Int) k5 k6 l2 a.cB) (0,bV a.n r)=some ((a.L:Int),false,bV a.n (upd r p (mB a r p a.L))):=by
 have h6:=h.l6
 rw[eo]
 have e0:bV a.n r=bV a.n (upd r p (mB a r p 0)):=by
  rw[show mB a r p 0=r p by simp[mB],akg]
 rw[e0]
 refine (fZ a.L (fun x=>((x:Int),bV a.n (upd r p (mB a r p x)))) _ (fun x hx=> ?_) ?_)
 ·have nW:=h.dH hp hx
  simp only[Jk,Eg,un]
  refine bT (dA hx) ?_
  refine bs (ou hx) ?_
  refine (dN (i:=p) hp).trans ?_
  rw[pH,da (by omega),V.j8,akj]
  cases hb:mB a r p x with
  | true=>
   refine bT rfl ?_
   refine (dN (i:=p) hp).trans ?_
   rw[Int.toNat_natCast,Pr,Y9]
   rfl
  | false=>
   refine bF rfl ?_
   refine (dN (i:=a.nx p x) nW).trans ?_
   refine (dN (i:=p) hp).trans ?_
   have e2:upd r p false (a.nx p x)=r (a.nx p x):=by
    by_cases e:a.nx p x=p
    ·rw[e,pH]
     have:r p=false:=by
      unfold mB at hb
      cases h3:r p with
      | false=>rfl
      | true=>rw[h3] at hb;simp at hb
     exact this.symm
    ·rw[pI e]
   rw[Int.toNat_natCast,V.j8,e2,Pr,Y9]
   rfl
 ·simp only[Jk,Eg,un]
  refine bF (bJ (aI _)) ?_
  rw[bJ (aI _)]
section
variable {a:Da} (h:a.Ok)
include h
theorem akl {r:Nat→Bool} {k:Nat} (hg: ∀q,q<a.n→r q=true→a.Live q) (hk: ∀q,q<a.n→a.fL k q→r q=true) {k1 k2 k3 k4:Int} {l2:List V}:
  ∃o,Loop (Ei CC k1 k2 ((bV a.n r).length:Int) k3 k4 l2 a.cB) (0,bV a.n r)=some o∧∃r',o=((a.n:Int),false,bV a.n r')∧(∀q,q<a.n→r' q=true→a.Live q)∧(∀q,q<a.n→a.fL (k+1) q→r' q=true):=by
 have hm:=h.eE
 rw[akf]
 have key:=yG (step:=Ei CC k1 k2 (a.n:Int) k3 k4 l2 a.cB) (fun p st=> ∃r',st=((p:Int),bV a.n r')∧(∀q,q<a.n→r' q=true→a.Live q)∧(∀q,q<a.n→a.fL k q→r' q=true)∧(∀q,q<p→a.fL (k+1) q→r' q=true)) (fun o=> ∃r',o=((a.n:Int),false,bV a.n r')∧(∀q,q<a.n→r' q=true→a.Live q)∧(∀q,q<a.n→a.fL (k+1) q→r' q=true)) a.n 0 (0,bV a.n r) (fun p _ hp st b6=> ?_) (fun st b6=> ?_) ⟨r,rfl,hg,hk,fun q hq=>by omega⟩
 ·exact key
 ·obtain ⟨r',rfl,i1,i2,i3⟩:=b6
  rw[dV] at hp
  refine ⟨(((p+1:Nat):Int),bV a.n (upd r' p (mB a r' p a.L))),?_,_,rfl,fun q hq e=> ?_,fun q hq e=> ?_,fun q hq e=> ?_⟩
  ·simp only[Ei,Eh,un]
   refine bT (dA hp) ?_
   refine bs (Da.ot hp) ?_
   rw[pw]
   refine bs (akk h hp) ?_
   rw[da (by omega)];rfl
  ·by_cases eq:q=p
   ·rw[eq,pH,mB,oK] at e
    rw[eq]
    rcases e with e|e
    ·exact i1 p hp e
    ·obtain ⟨y,h1,h2⟩:=qT.1 e
     have hy:=gG.1 h1
     exact Da.Y6 hy (i1 _ (h.dH hp hy) h2)
   ·rw[pI eq] at e;exact i1 q hq e
  ·by_cases eq:q=p
   ·rw[eq,pH,mB,oK]
    exact .inl (eq▸i2 q hq e)
   ·rw[pI eq];exact i2 q hq e
  ·by_cases eq:q=p
   ·rw[eq] at e
    rw[eq,pH,mB,oK]
    rcases Da.Y5.1 e with e|⟨x,hx,e⟩
    ·exact .inl (i2 p hp ⟨[],WL.nil,by simp,e⟩)
    ·exact .inr (qT.2 ⟨x,gG.2 hx,i2 _ (h.dH hp hx) e⟩)
   ·rw[pI eq];exact i3 q (by omega) e
 ·obtain ⟨r',rfl,i1,i2,i3⟩:=b6
  rw[dV] at*
  refine ⟨_,?_,r',rfl,i1,i3⟩
  simp only[Ei,Eh,un]
  refine bF (bJ (aI _)) ?_
  rw[bJ (aI _)]
theorem akm:CC G7 (dt a)=some [.list ag (bV a.n a.eY)]:=by
 have hm:=h.eE
 refine akd ?_
 unfold Y4
 refine bT (cap (by simp;omega) (by omega)) ?_
 rw[List.nil_append,Da.lE]
 have key:=yG (step:=Jl CC (a.n:Int) (a.L:Int) (a.st:Int) a.c8 a.cB) (fun k st=> ∃r',st=((k:Int),bV a.n r')∧(∀q,q<a.n→r' q=true→a.Live q)∧(∀q,q<a.n→a.fL k q→r' q=true)) (fun o=>o=((a.n:Int),false,bV a.n a.eY)) a.n 0 (0,bV a.n a.fin) (fun k _ hk st b6=> ?_) (fun st b6=> ?_) ⟨a.fin,rfl,fun q _ e=>Da.Y7 e,fun q _ e=>by
  obtain ⟨w,h1,h2,h3⟩:=e
  obtain rfl:w=[]:=List.length_eq_zero_iff.1 (by omega)
  exact h3⟩
 ·obtain ⟨o,h1,rfl⟩:=key
  refine bs h1 ?_
  rfl
 ·obtain ⟨r',rfl,i1,i2⟩:=b6
  rw[dV] at hk
  obtain ⟨o,h1,r2,rfl,i3,i4⟩:=akl h i1 i2 (k1:=(a.n:Int)) (k2:=(k:Int)) (k3:=(a.L:Int)) (k4:=(a.st:Int)) (l2:=a.c8)
  refine ⟨(((k+1:Nat):Int),bV a.n r2),?_,r2,rfl,i3,i4⟩
  simp only[Jl,Ej,un]
  refine bT (dA hk) ?_
  refine bs h1 ?_
  rw[da (by omega)];rfl
 ·obtain ⟨r',rfl,i1,i2⟩:=b6
  rw[dV] at*
  refine ⟨_,?_,rfl⟩
  simp only[Jl,Ej,un]
  refine bF (bJ (aI _)) ?_
  rw[bJ (aI _)]
  have:bV a.n r'=bV a.n a.eY:=Za fun q hq=>by
   rw[lM,Da.zH]
   exact ⟨fun e=>i1 q hq e,fun e=>i2 q hq (Da.ake h hq e)⟩
  rw[this]
end
noncomputable def Pt (C:ae) (bR nf:Int):Option (List V):=
 bif decide ((nf:Int)>64) then
  some [V.bool true]
 else
  some [V.bool false,.int .i64 bR,.int .i64 nf,.int .u64 0,.int .u64 0,.list aF ([]:List V)]
theorem Zb {bR nf:Int} {r:Option (List V)} (h:Pt CC bR nf=r):CC vQ [.int .i64 bR,.int .i64 nf]=r:=
 bC (key:=61) (L:=dg) (bs:=[]) (by kernel_rfl) aC (bw (by kernel_rfl) h)
noncomputable def Zc (C:ae) (El letter to bn bh bp bq:Int) (bN:List V):Option (List V):=
 bif Nat.ble ((bN.length+([.agg [.int .i64 El,.int .i64 letter,.int .i64 to]]:List V).length)*24) ct then
  some [.int .i64 bn,.int .i64 bh,.int .u64 bp,.int .u64 bq,.list aF (bN++([.agg [.int .i64 El,.int .i64 letter,.int .i64 to]]:List V))]
 else none
theorem akn {El letter to bn bh bp bq:Int} {bN:List V} {r:Option (List V)} (h:Zc CC El letter to bn bh bp bq bN=r):CC yf [.int .i64 El,.int .i64 letter,.int .i64 to,.int .i64 bn,.int .i64 bh,.int .u64 bp,.int .u64 bq,.list aF bN]=r:=
 bC (key:=62) (L:=dg) (bs:=[]) (by kernel_rfl) aC (bw (by kernel_rfl) h)
noncomputable def Zd (C:ae) (q bn bh bp bq:Int) (bN:List V):Option (List V):=
 bif decide (0≤q) then
  some [.int .i64 bn,.int .i64 bh,.int .u64 (IntKind.wrap .u64 ((BitVec.ofInt (IntKind.bits .u64) bp|||BitVec.ofInt (IntKind.bits .u64) (IntKind.wrap .u64 (1*2^(min q.toNat (IntKind.bits .u64))))).toNat)),.int .u64 bq,.list aF bN]
 else none
theorem ako {q bn bh bp bq:Int} {bN:List V} {r:Option (List V)} (h:Zd CC q bn bh bp bq bN=r):CC yg [.int .i64 q,.int .i64 bn,.int .i64 bh,.int .u64 bp,.int .u64 bq,.list aF bN]=r:=
 bC (key:=63) (L:=dg) (bs:=[]) (by kernel_rfl) aC (bw (by kernel_rfl) h)
noncomputable def Ze (C:ae) (q bn bh bp bq:Int) (bN:List V):Option (List V):=
 bif decide (0≤q) then
  some [.int .i64 bn,.int .i64 bh,.int .u64 bp,.int .u64 (IntKind.wrap .u64 ((BitVec.ofInt (IntKind.bits .u64) bq|||BitVec.ofInt (IntKind.bits .u64) (IntKind.wrap .u64 (1*2^(min q.toNat (IntKind.bits .u64))))).toNat)),.list aF bN]
 else none
theorem akp {q bn bh bp bq:Int} {bN:List V} {r:Option (List V)} (h:Ze CC q bn bh bp bq bN=r):CC G6 [.int .i64 q,.int .i64 bn,.int .i64 bh,.int .u64 bp,.int .u64 bq,.list aF bN]=r:=
 bC (key:=69) (L:=dg) (bs:=[]) (by kernel_rfl) aC (bw (by kernel_rfl) h)
noncomputable abbrev Zf:Code:=cN Tryd.prog (aD.bd 64)
noncomputable def Em (C:ae) (offset:Int) (t8:List V) (t9 t10 bn bh bp bq:Int) (dk:List V) {β:Type} (kn:(Int × Int × Int × Int × Int × (List V))→Option β) (kr:(Int × Bool × Int × Int × Int × Int × (List V))→Option β):Option β:=
 bif decide ((t10:Int)<t9) then
  (idx t8 t10).bind fun x1=>
  bif x1.toBool then
  (C G6 [.int .i64 (IntKind.wrap .i64 (t10+offset)),.int .i64 bn,.int .i64 bh,.int .u64 bp,.int .u64 bq,.list aF dk]).bind fun r2=>
  kn (IntKind.wrap .i64 (t10+1),(V.nth r2 0).toInt,(V.nth (r2.drop 1) 0).toInt,(V.nth ((r2.drop 1).drop 1) 0).toInt,(V.nth (((r2.drop 1).drop 1).drop 1) 0).toInt,(V.nth (r2.drop 4) 0).toList)
  else
  kn (IntKind.wrap .i64 (t10+1),bn,bh,bp,bq,dk)
 else
  kr (t10,decide ((t10:Int)<t9),bn,bh,bp,bq,dk)
noncomputable def Pu (C:ae) (offset:Int) (t8:List V) (t9:Int):(Int × Int × Int × Int × Int × (List V))→Option ((Int × Int × Int × Int × Int × (List V)) ⊕ (Int × Bool × Int × Int × Int × Int × (List V))):=un fun t10=>un fun bn=>un fun bh=>un fun bp=>un fun bq dk=>Em C offset t8 t9 t10 bn bh bp bq dk (fun y=>some (.inl y)) (fun r=>some (.inr r))
noncomputable def Zg (C:ae):cH:=fun β n ds k=>
 bif Nat.beq n 17 then bE Ms [false,false,false,true,true,true,true,true,true] [[1,2,3,0,0,0,0,0,0,0]] (@Em C) ds k else
 none
abbrev akq (C:ae) (b:cE):Prop:=cF Tryd.prog aD C (Zg C) 64 (cQ Tryd.prog (aD.bd 64)) (aD.sin 64).bf.length b
theorem akr (C:ae):akq C (.loop (av [1,0,0] Zf)):=
 bH Ms [false,false,false,true,true,true,true,true,true] [[1,2,3,0,0,0,0,0,0,0]] (@Em C) (by kernel_rfl) (bc (bs:=[]) (by kernel_rfl) aC) (fun ds=>by kernel_rfl) (fun i x=>by kernel_rfl) (fun i x β k=>by kernel_rfl) (fun β ds k=>by kernel_rfl)
noncomputable def Zh (C:ae) (final:List V) (offset bn bh bp bq:Int) (bN:List V):Option (List V):=
 (Loop (Pu C offset final (final.length:Int)) (0,bn,bh,bp,bq,bN)).bind (un fun (lA:Int)=>un fun (ka:Bool)=>un fun (aks:Int)=>un fun (En:Int)=>un fun (wK:Int)=>un fun (wL:Int) (b_9:List V)=>
  some [.int .i64 aks,.int .i64 En,.int .u64 wK,.int .u64 wL,.list aF b_9])
theorem akt {final:List V} {offset bn bh bp bq:Int} {bN:List V} {r:Option (List V)} (h:Zh CC final offset bn bh bp bq bN=r):CC yh [.list ag final,.int .i64 offset,.int .i64 bn,.int .i64 bh,.int .u64 bp,.int .u64 bq,.list aF bN]=r:=
 bC (key:=64) (L:=Zg CC) (bs:=[.loop (av [1,0,0] Zf)]) (by kernel_rfl) (bt (akr CC) aC) (bw (by kernel_rfl) h)
noncomputable abbrev Jn:Code:=cN Tryd.prog (aD.bd 73)
noncomputable def Eo (C:ae) (offset p:Int) (t11:List V) (t12 t13:Int) (t18:List V) (t19 t20 bn bh bp bq:Int) (dk:List V) {β:Type} (kn:(Int × Int × Int × Int × Int × (List V))→Option β) (kr:(Int × Bool × Int × Int × Int × Int × (List V))→Option β):Option β:=
 bif decide ((t20:Int)<t19) then
  (idx t18 t20).bind fun x2=>
  (C yf [.int .i64 (IntKind.wrap .i64 (p+offset)),.int .i64 t20,.int .i64 (IntKind.wrap .i64 (x2.toInt+offset)),.int .i64 bn,.int .i64 bh,.int .u64 bp,.int .u64 bq,.list aF dk]).bind fun r3=>
  kn (IntKind.wrap .i64 (t20+1),(V.nth r3 0).toInt,(V.nth (r3.drop 1) 0).toInt,(V.nth ((r3.drop 1).drop 1) 0).toInt,(V.nth (((r3.drop 1).drop 1).drop 1) 0).toInt,(V.nth (r3.drop 4) 0).toList)
 else
  kr (t20,decide ((t20:Int)<t19),bn,bh,bp,bq,dk)
noncomputable def Pv (C:ae) (offset p:Int) (t11:List V) (t12 t13:Int) (t18:List V) (t19:Int):(Int × Int × Int × Int × Int × (List V))→Option ((Int × Int × Int × Int × Int × (List V)) ⊕ (Int × Bool × Int × Int × Int × Int × (List V))):=un fun t20=>un fun bn=>un fun bh=>un fun bp=>un fun bq dk=>Eo C offset p t11 t12 t13 t18 t19 t20 bn bh bp bq dk (fun y=>some (.inl y)) (fun r=>some (.inr r))
noncomputable def Ep (C:ae) (offset:Int) (t11:List V) (t12 t13 bn bh bp bq:Int) (dk:List V) {β:Type} (kn:(Int × Int × Int × Int × Int × (List V))→Option β) (kr:(Int × Bool × Int × Int × Int × Int × (List V))→Option β):Option β:=
 bif decide ((t13:Int)<t12) then
  (idx t11 t13).bind fun x1=>
  (Loop (Pv C offset t13 t11 t12 t13 x1.toList (x1.toList.length:Int)) (0,bn,bh,bp,bq,dk)).bind (un fun (ka:Int)=>un fun (m9:Bool)=>un fun (En:Int)=>un fun (wK:Int)=>un fun (wL:Int)=>un fun (Er:Int) (yS:List V)=>
   kn (IntKind.wrap .i64 (t13+1),En,wK,wL,Er,yS))
 else
  kr (t13,decide ((t13:Int)<t12),bn,bh,bp,bq,dk)
noncomputable def Pw (C:ae) (offset:Int) (t11:List V) (t12:Int):(Int × Int × Int × Int × Int × (List V))→Option ((Int × Int × Int × Int × Int × (List V)) ⊕ (Int × Bool × Int × Int × Int × Int × (List V))):=un fun t13=>un fun bn=>un fun bh=>un fun bp=>un fun bq dk=>Ep C offset t11 t12 t13 bn bh bp bq dk (fun y=>some (.inl y)) (fun r=>some (.inr r))
noncomputable def Zi (C:ae):cH:=fun β n ds k=>
 bif Nat.beq n 81 then bE Mt [false,false,false,false,false,false,false,true,true,true,true,true,true] [[1,2,3,4,5,6,7,0,0,0,0,0,0,0]] (@Eo C) ds k else
 bif Nat.beq n 33 then bE Mu [false,false,false,true,true,true,true,true,true] [[1,2,3,0,0,0,0,0,0,0]] (@Ep C) ds k else
 none
abbrev Zj (C:ae) (b:cE):Prop:=cF Tryd.prog aD C (Zi C) 73 (cQ Tryd.prog (aD.bd 73)) (aD.sin 73).bf.length b
theorem aku (C:ae):Zj C (.loop (av [1,1,0,0,1,1,0,0,1,1,0,0] Jn)):=
 bH Mt [false,false,false,false,false,false,false,true,true,true,true,true,true] [[1,2,3,4,5,6,7,0,0,0,0,0,0,0]] (@Eo C) (by kernel_rfl) (bc (bs:=[]) (by kernel_rfl) aC) (fun ds=>by kernel_rfl) (fun i x=>by kernel_rfl) (fun i x β k=>by kernel_rfl) (fun β ds k=>by kernel_rfl)
theorem akv (C:ae):Zj C (.loop (av [1,1,0,0] Jn)):=
 bH Mu [false,false,false,true,true,true,true,true,true] [[1,2,3,0,0,0,0,0,0,0]] (@Ep C) (by kernel_rfl) (bc (bs:=[.loop (av [1,1,0,0,1,1,0,0,1,1,0,0] Jn)]) (by kernel_rfl) (bt (aku C) aC)) (fun ds=>by kernel_rfl) (fun i x=>by kernel_rfl) (fun i x β k=>by kernel_rfl) (fun β ds k=>by kernel_rfl)
noncomputable def Zk (C:ae) (aw az:Int) (ar ay:List V) (offset bn bh bp bq:Int) (bN:List V):Option (List V):=
 (Loop (Pw C offset ay (ay.length:Int)) (0,bn,bh,bp,bq,bN)).bind (un fun (yW:Int)=>un fun (yR:Bool)=>un fun (akw:Int)=>un fun (Px:Int)=>un fun (Py:Int)=>un fun (Pz:Int) (CS:List V)=>
  some [.int .i64 akw,.int .i64 Px,.int .u64 Py,.int .u64 Pz,.list aF CS])
theorem akx {aw az:Int} {ar ay:List V} {offset bn bh bp bq:Int} {bN:List V} {r:Option (List V)} (h:Zk CC aw az ar ay offset bn bh bp bq bN=r):CC BG [.int .i64 aw,.int .i64 az,.list ag ar,.list ai ay,.int .i64 offset,.int .i64 bn,.int .i64 bh,.int .u64 bp,.int .u64 bq,.list aF bN]=r:=
 bC (key:=73) (L:=Zi CC) (bs:=[.loop (av [1,1,0,0] Jn)]) (by kernel_rfl) (bt (akv CC) aC) (bw (by kernel_rfl) h)
def fD (p x q:Nat):Ed:=⟨(p:Int),(x:Int),(q:Int)⟩
def aN (L S:Nat) (st fin:Nat) (l:List Ed):List V:=[.int .i64 (L:Int),.int .i64 (S:Int),.int .u64 (st:Int),.int .u64 (fin:Int),.list aF (l.map Ed.enc)]
def fm (n:Nat) (g:Nat→List Ed):List Ed:=(List.range n).flatMap g
theorem aky {g:Nat→List Ed}:fm 0 g=[]:=rfl
theorem Jo {n:Nat} {g:Nat→List Ed}:fm (n+1) g=fm n g++g n:=by simp[fm,ta]
theorem PA {n:Nat} {g:Nat→List Ed} {e:Ed}:e∈fm n g↔∃i,i<n∧e∈g i:=by simp[fm]
theorem Es {n k:Nat} {g:Nat→List Ed} (h: ∀i,i<n→(g i).length≤k):(fm n g).length≤n*k:=by
 induction n with
 | zero=>simp[fm]
 | succ n ih=>
  rw[Jo,dD,Nat.succ_mul]
  have:=ih fun i hi=>h i (by omega)
  have:=h n (by omega)
  omega
theorem qJ {X R:Type} {step:X→Option (X ⊕ R)} (n:Nat) (s:Nat→X) (r:R) {x:X} (hx:x=s 0) (h: ∀i,i<n→step (s i)=some (.inl (s (i+1)))) (he:step (s n)=some (.inr r)):Loop step x=some r:=by rw[hx];exact fZ n s r h he
theorem PB {a b:Nat} (h:a+b≤1000000000):IntKind.wrap .i64 ((a:Int)+(b:Int))=((a+b:Nat):Int):=by rw[wrap64 (by omega) (by omega)];omega
theorem akz {l:List Ed} {p x q:Nat}:l.map Ed.enc++[V.agg [.int .i64 (p:Int),.int .i64 (x:Int),.int .i64 (q:Int)]]=(l++[fD p x q]).map Ed.enc:=by simp[fD,Ed.enc]
section
variable {L S st fin:Nat} {l:List Ed}
theorem PC {p x q:Nat} (h:l.length≤1000000):CC yf [.int .i64 (p:Int),.int .i64 (x:Int),.int .i64 (q:Int),.int .i64 (L:Int),.int .i64 (S:Int),.int .u64 (st:Int),.int .u64 (fin:Int),.list aF (l.map Ed.enc)]=some (aN L S st fin (l++[fD p x q])):=by
 refine akn ?_
 unfold Zc
 refine bT (cap (by simp;omega) (by omega)) ?_
 rw[akz];rfl
theorem PD {q:Nat} (hq:q<64) (hs:st<2^64):CC yg [.int .i64 (q:Int),.int .i64 (L:Int),.int .i64 (S:Int),.int .u64 (st:Int),.int .u64 (fin:Int),.list aF (l.map Ed.enc)]=some (aN L S (st|||2^q) fin l):=by
 refine ako ?_
 unfold Zd
 refine bT (bO (by omega)) ?_
 rw[Int.toNat_natCast,yu hq,u64_or hs (kZ (by omega) hq)];rfl
theorem akA {q:Nat} (hq:q<64) (hs:fin<2^64):CC G6 [.int .i64 (q:Int),.int .i64 (L:Int),.int .i64 (S:Int),.int .u64 (st:Int),.int .u64 (fin:Int),.list aF (l.map Ed.enc)]=some (aN L S st (fin|||2^q) l):=by
 refine akp ?_
 unfold Ze
 refine bT (bO (by omega)) ?_
 rw[Int.toNat_natCast,yu hq,u64_or hs (kZ (by omega) hq)];rfl
theorem PE (h:S≤64):CC vQ [.int .i64 (L:Int),.int .i64 (S:Int)]=some (.bool false::aN L S 0 0 []):=by
 refine Zb ?_
 unfold Pt
 exact bF (dE (by omega)) rfl
theorem PF (h:64<S):CC vQ [.int .i64 (L:Int),.int .i64 (S:Int)]=some [.bool true]:=by
 refine Zb ?_
 unfold Pt
 exact bT (bO (by omega)) rfl
def fu (fin:Nat) (f:Nat→Bool) (off:Nat):Nat→Nat
 | 0=>fin
 | i+1=>if f i=true then fu fin f off i|||2^(i+off) else fu fin f off i
theorem PH {f:Nat→Bool} {off:Nat}: ∀{n j:Nat},(fu fin f off n).testBit j=(fin.testBit j||(decide (off≤j∧j<n+off)&&f (j-off)))
 | 0,j=>by
  rw[dE (by omega)];simp[fu]
 | n+1,j=>by
  unfold fu
  by_cases hf:f n=true
  ·rw[af hf,pM,PH,oL]
   by_cases hj:j=n+off
   ·subst hj
    rw[bO (p:=n+off=n+off) rfl,bO (p:=off≤n+off∧n+off<n+1+off) (by omega),show n+off-off=n by omega,hf];simp
   ·rw[dE (p:=n+off=j) (by omega)]
    have:(off≤j∧j<n+off)↔(off≤j∧j<n+1+off):=by omega
    simp only[this,Bool.or_false]
  ·rw[ah hf,PH]
   by_cases hj:j=n+off
   ·subst hj
    rw[show n+off-off=n by omega,Bool.eq_false_iff.2 hf];simp
   ·have:(off≤j∧j<n+off)↔(off≤j∧j<n+1+off):=by omega
    simp only[this]
theorem Et {f:Nat→Bool} {off k:Nat} (hf:fin<2^k): ∀{n:Nat},n+off≤k→fu fin f off n<2^k
 | 0,_=>hf
 | n+1,h=>by
  unfold fu
  have ih:=Et (f:=f) (off:=off) hf (n:=n) (by omega)
  split
  ·exact s9 ih (kZ (by omega) (by omega))
  ·exact ih
theorem PI {n off:Nat} {f:Nat→Bool} (ho:n+off≤64) (hs:fin<2^64):CC yh [.list ag (bV n f),.int .i64 (off:Int),.int .i64 (L:Int),.int .i64 (S:Int),.int .u64 (st:Int),.int .u64 (fin:Int),.list aF (l.map Ed.enc)]=some (aN L S st (fu fin f off n) l):=by
 refine akt ?_
 unfold Zh
 rw[show (bV n f).length=n from eo]
 refine bs (fZ n (fun i=>((i:Int),(L:Int),(S:Int),(st:Int),(fu fin f off i:Int),l.map Ed.enc)) ((n:Int),false,(L:Int),(S:Int),(st:Int),(fu fin f off n:Int),l.map Ed.enc) (fun i hi=> ?_) ?_) ?_
 ·simp only[Pu,Em,un]
  refine bT (dA hi) ?_
  refine bs (sx hi) ?_
  have aY:=Et (f:=f) (off:=off) hs (n:=i) (by omega)
  cases hf:f i with
  | true=>
   refine bT rfl ?_
   rw[PB (by omega)]
   refine bs (akA (by omega) aY) ?_
   rw[da (by omega),show fu fin f off (i+1)=fu fin f off i|||2^(i+off) from af hf]
   rfl
  | false=>
   refine bF rfl ?_
   rw[da (by omega),show fu fin f off (i+1)=fu fin f off i from ah (by rw[hf];simp)]
 ·simp only[Pu,Em,un]
  refine bF (bJ (aI _)) ?_
  rw[bJ (aI _)]
 ·rfl
def uq (a:Da) (off p:Nat):List Ed:=tab a.L fun x=>fD (p+off) x (a.nx p x+off)
def fM (a:Da) (off:Nat):List Ed:=fm a.n (uq a off)
theorem Eu {a:Da} {off:Nat} {e:Ed}:e∈fM a off↔∃p x,p<a.n∧x<a.L∧e=fD (p+off) x (a.nx p x+off):=by
 unfold fM uq
 rw[PA]
 constructor
 ·rintro ⟨p,hp,he⟩
  obtain ⟨x,hx,rfl⟩:=qy.1 he
  exact ⟨p,x,hp,hx,rfl⟩
 ·rintro ⟨p,x,hp,hx,rfl⟩
  exact ⟨p,hp,qy.2 ⟨x,hx,rfl⟩⟩
theorem Ev {a:Da} (h:a.Ok) {off:Nat} {n:Nat}:(fm n (uq a off)).length≤n*6:=Es fun p _=>by unfold uq;rw[eo];exact h.l6
theorem Zl {a:Da} (h:a.Ok) {off:Nat} (ho:off≤1000) (hl:l.length≤100000):CC BG (jL a [.int .i64 (off:Int),.int .i64 (L:Int),.int .i64 (S:Int),.int .u64 (st:Int),.int .u64 (fin:Int),.list aF (l.map Ed.enc)])=some (aN L S st fin (l++fM a off)):=by
 have hn:=h.eE
 have h6:=h.l6
 refine akx ?_
 unfold Zk
 rw[show a.cB.length=a.n from eo]
 refine bs (qJ a.n (fun i=>((i:Int),(L:Int),(S:Int),(st:Int),(fin:Int),(l++fm i (uq a off)).map Ed.enc)) ((a.n:Int),false,(L:Int),(S:Int),(st:Int),(fin:Int),(l++fM a off).map Ed.enc) (by rw[aky,iS];rfl) (fun p hp=> ?_) ?_) ?_
 ·have hlen:=Ev h (off:=off) (n:=p)
  simp only[Pw,Ep,un]
  refine bT (dA hp) ?_
  refine bs (sx hp) ?_
  rw[show (kf a.L (a.nx p)).toList=tab a.L fun x=>nV (a.nx p x) from rfl,eo]
  refine bs (qJ a.L (fun i=>((i:Int),(L:Int),(S:Int),(st:Int),(fin:Int),((l++fm p (uq a off))++tab i fun x=>fD (p+off) x (a.nx p x+off)).map Ed.enc)) ((a.L:Int),false,(L:Int),(S:Int),(st:Int),(fin:Int),((l++fm p (uq a off))++uq a off p).map Ed.enc) (by rw[NZ,iS];rfl) (fun x hx=> ?_) ?_) ?_
  ·have hq:=h.dH hp hx
   simp only[Pv,Eo,un]
   refine bT (dA hx) ?_
   refine bs (sx hx) ?_
   rw[show (nV (a.nx p x)).toInt=((a.nx p x:Nat):Int) from rfl,PB (by omega),PB (by omega)]
   refine bs (PC (by rw[dD,dD,eo];omega)) ?_
   rw[da (by omega),tZ,←cY]
   rfl
  ·simp only[Pv,Eo,un]
   refine bF (bJ (aI _)) ?_
   rw[bJ (aI _)]
   rfl
  ·simp only[un]
   rw[da (by omega),Jo,←cY]
 ·simp only[Pw,Ep,un]
  refine bF (bJ (aI _)) ?_
  rw[bJ (aI _)]
  rfl
 ·rfl
end
noncomputable def Zm (C:ae) (aw az:Int) (ar ay:List V):Option (List V):=
 (C rW [.int .i64 aw,.int .i64 az,.list ag ar,.list ai ay]).bind fun r1=>
 bif (((V.nth r1 0).toInt):Int) != 0 then
  some [.int .i64 0,.int .i64 0,.int .i64 ((V.nth r1 0).toInt),.list ag ([]:List V),.list ai ([]:List V)]
 else
  (C vP [.int .i64 aw,.int .i64 az,.list ag ar,.list ai ay]).bind fun r2=>
  some [.int .i64 ((V.nth r2 0).toInt),.int .i64 ((V.nth (r2.drop 1) 0).toInt),.int .i64 0,.list ag ((V.nth (r2.drop 2) 0).toList),.list ai ((V.nth ((r2.drop 2).drop 1) 0).toList)]
theorem akB {aw az:Int} {ar ay:List V} {r:Option (List V)} (h:Zm CC aw az ar ay=r):CC rX [.int .i64 aw,.int .i64 az,.list ag ar,.list ai ay]=r:=
 bC (key:=56) (L:=dg) (bs:=[]) (by kernel_rfl) aC (bw (by kernel_rfl) h)
noncomputable def Zn (C:ae) (aw az:Int) (ar ay:List V) (eE:Int):Option (List V):=
 bif decide (((ar.length:Int):Int)≤eE) then
  (C GY [.int .i64 aw,.int .i64 az,.list ag ar,.list ai ay]).bind fun r1=>
  some [.bool ((((V.nth r1 0).toInt):Int)==0)]
 else
  some [.bool false]
theorem akC {aw az:Int} {ar ay:List V} {eE:Int} {r:Option (List V)} (h:Zn CC aw az ar ay eE=r):CC G1 [.int .i64 aw,.int .i64 az,.list ag ar,.list ai ay,.int .i64 eE]=r:=
 bC (key:=45) (L:=dg) (bs:=[]) (by kernel_rfl) aC (bw (by kernel_rfl) h)
theorem kW {a:Da} (h:a.Ok):(minD a).Ok:=(wi h).ok
theorem mC {a:Da} (h:a.Ok):(minD a).L=a.L:=(wi h).hL
theorem Zo {a:Da} (h:a.Ok):(minD a).st=0:=(wi h).st
theorem qK {a:Da} (h:a.Ok) {w:List Nat} (hw:WL a.L w):(minD a).acc (minD a).st w=a.acc a.st w:=by
 rw[Zo h];exact (wi h).lB w hw
theorem Zp {a:Da} (h:a.Ok):(minD a).n≤a.n:=by
 obtain ⟨p,_,c2,_⟩:=ah1 h
 rw[←Dr h (Da.W4 h c2)]
 have h1:=(Da.Oh h c2).qx (a.quo p).n
 have h2:(a.quo p).trim.n=(aA (a.quo p).L (a.quo p).nx (a.quo p).st (a.quo p).n).length:=nd
 rw[h2]
 refine kp h1 ?_
 rw[Da.sC]
 exact Xi p a.n
theorem Zq {a b:Da} (ha:a.Ok) (hb:b.Ok) (hL:a.L=b.L) (hl: ∀w,WL a.L w→a.acc a.st w=b.acc b.st w):minD a=minD b:=
 Dr hb (hL▸Canon.congr (wi ha) hl)
theorem Zr {a:Da} (ha:a.Ok):minD (minD a)=minD a:=
 Zq (kW ha) ha (mC ha) fun w hw=>qK ha (by rwa [mC ha] at hw)
theorem wM {a:Da} (h:a.Ok):CC rX (dt a)=some (gd (minD a) 0):=by
 refine akB ?_
 unfold Zm
 refine bs (CI h) (bF rfl ?_)
 refine bs (Om h) ?_
 rfl
theorem akD {d:Df} (h:d.Ok) (m:Int):CC G1 (sW d [.int .i64 m])=some [.bool (decide ((d.F.length:Int)≤m∧d.val=0))]:=by
 refine akC ?_
 unfold Zn
 rw[cM]
 by_cases h1:(d.F.length:Int)≤m
 ·refine bT (bO h1) ?_
  refine bs (afB h) ?_
  refine congrArg (fun x=>some [V.bool x]) ?_
  rw[lM]
  simp[h1]
 ·refine bF (dE h1) ?_
  rw[dE fun h=>h1 h.1]
def js (E:List Ed):Nat→List Nat→Nat→Prop
 | i,[],k=>i=k
 | i,x::w,k=> ∃j,fD i x j∈E∧js E j w k
theorem js.ext {A B:List Ed} (h: ∀e,e∈A→e∈B): ∀{w:List Nat} {i k:Nat},js A i w k→js B i w k
 | [],_,_,p=>p
 | _::_,_,_,⟨j,h1,h2⟩=>⟨j,h _ h1,js.ext h h2⟩
theorem js.app {E:List Ed}: ∀{v w:List Nat} {i k:Nat},js E i (v++w) k↔∃j,js E i v j∧js E j w k
 | [],w,i,k=>by simp[js]
 | x::v,w,i,k=>by
  simp only[List.cons_append,js]
  constructor
  ·rintro ⟨j,h1,h2⟩
   obtain ⟨m,h3,h4⟩:=js.app.1 h2
   exact ⟨m,⟨j,h1,h3⟩,h4⟩
  ·rintro ⟨m,⟨j,h1,h3⟩,h4⟩
   exact ⟨j,h1,js.app.2 ⟨m,h3,h4⟩⟩
theorem Ew {p x q p' x' q':Nat}:fD p x q=fD p' x' q'↔p=p'∧x=x'∧q=q':=by
 unfold fD
 simp only[Ed.mk.injEq]
 omega
theorem akE {e:Ed} (h1:0≤e.f) (h2:0≤e.l) (h3:0≤e.t):e=fD e.f.toNat e.l.toNat e.t.toNat:=by
 unfold fD
 cases e
 simp only[Ed.mk.injEq] at*
 omega
theorem PJ {E:List Ed} (hE: ∀e∈E,0≤e.f∧0≤e.l∧0≤e.t): ∀(w:List Nat) (s k:Nat),(w.foldl (sn E) s).testBit k=true↔∃i,s.testBit i=true∧js E i w k
 | [],s,k=>by simp[js]
 | x::w,s,k=>by
  rw[List.foldl_cons,PJ hE w]
  constructor
  ·rintro ⟨j,h1,h2⟩
   unfold sn at h1
   rw[Ck,qT] at h1
   obtain ⟨e,he,h3⟩:=h1
   simp only[aS,dv] at h3
   obtain ⟨c1,c2,c3⟩:=hE e he
   refine ⟨e.f.toNat,h3.2.1,j,?_,h2⟩
   have:e=fD e.f.toNat x j:=by
    rw[akE c1 c2 c3]
    rw[Ew]
    simp only[fD,Int.toNat_natCast]
    exact ⟨trivial,by omega,h3.2.2⟩
   exact this▸he
  ·rintro ⟨i,h1,j,h2,h3⟩
   refine ⟨j,?_,h3⟩
   unfold sn
   rw[Ck,qT]
   refine ⟨_,h2,?_⟩
   simp only[aS,dv,fD,Int.toNat_natCast]
   exact ⟨trivial,h1,trivial⟩
theorem akF {fin s:Nat}:sf fin s=true↔∃k,s.testBit k=true∧fin.testBit k=true:=by
 unfold sf
 rw[nB,beq_eq_false_iff_ne]
 constructor
 ·intro h
  obtain ⟨k,hk⟩:=Nat.exists_testBit_of_ne_zero h
  rw[z6,aS] at hk
  exact ⟨k,hk⟩
 ·rintro ⟨k,h1,h2⟩ h0
  have:(s&&&fin).testBit k=true:=by rw[z6,h1,h2];rfl
  rw[h0,Nat.zero_testBit] at this
  cases this
def pJ (st fin:Nat) (l:List Ed) (w:List Nat):Prop:= ∃i k,st.testBit i=true∧fin.testBit k=true∧js l i w k
section
variable {L S st fin:Nat} {l:List Ed} (h:uo L S st fin l)
include h
theorem akG (hn: ¬iO (cW L S st fin l) L S):(gf (cW L S st fin l) L S).Ok:=by
 unfold gf
 rw[ah hn]
 exact kW (yV (pF h) hn)
theorem akH (hn: ¬iO (cW L S st fin l) L S):(gf (cW L S st fin l) L S).L=L:=by
 unfold gf
 rw[ah hn]
 exact mC (yV (pF h) hn)
theorem akI (hn: ¬iO (cW L S st fin l) L S) {w:List Nat} (hw:WL L w):(gf (cW L S st fin l) L S).acc (gf (cW L S st fin l) L S).st w=true↔pJ st fin l w:=by
 have aE:=yV (pF h) hn
 unfold gf
 rw[ah hn,qK aE hw,show (jq (cW L S st fin l) L S).st=0 from rfl,ahD (pF h) hw]
 show sf fin (w.foldl (sn (sG l)) st)=true↔_
 have hE: ∀e∈sG l,0≤e.f∧0≤e.l∧0≤e.t:=fun e he=>by
  have:=h.E e (y4.1 he)
  unfold Ed.In at this
  exact ⟨this.1,this.2.2.2.2.1,this.2.2.1⟩
 rw[akF]
 unfold pJ
 constructor
 ·rintro ⟨k,h1,h2⟩
  obtain ⟨i,h3,h4⟩:=(PJ hE w st k).1 h1
  exact ⟨i,k,h3,h2,h4.ext fun e he=>y4.1 he⟩
 ·rintro ⟨i,k,h1,h2,h3⟩
  exact ⟨k,(PJ hE w st k).2 ⟨i,h1,h3.ext fun e he=>y4.2 he⟩,h2⟩
theorem akJ (hS:S≤9): ¬iO (cW L S st fin l) L S:=fun ho=>by
 have h1:=yU (pF h) (2^S)
 have h2:2^S≤2^9:=pN (by omega) hS
 have h3:(512:Nat)<(aA L (sn (cW L S st fin l).E) (cW L S st fin l).st (2^S)).length:=ho
 have h4:(2:Nat)^9=512:=by decide
 omega
end
noncomputable abbrev Jp:Code:=cN Tryd.prog (aD.bd 51)
noncomputable def Ex (C:ae) (q t36 t37 t41 a8 bj:Int) (bz br:List V) (cS cU fy fA:Int) (gb dp cx cf:List V) (t42 bn bh bp bq:Int) (cb:List V) {β:Type} (kn:(Int × Int × Int × Int × Int × (List V))→Option β) (kr:(Int × Bool × Int × Int × Int × Int × (List V))→Option β):Option β:=
 bif decide ((t42:Int)<t41) then
  (C yf [.int .i64 q,.int .i64 t42,.int .i64 q,.int .i64 bn,.int .i64 bh,.int .u64 bp,.int .u64 bq,.list aF cb]).bind fun r4=>
  kn (IntKind.wrap .i64 (t42+1),(V.nth r4 0).toInt,(V.nth (r4.drop 1) 0).toInt,(V.nth ((r4.drop 1).drop 1) 0).toInt,(V.nth (((r4.drop 1).drop 1).drop 1) 0).toInt,(V.nth (r4.drop 4) 0).toList)
 else
  kr (t42,decide ((t42:Int)<t41),bn,bh,bp,bq,cb)
noncomputable def PK (C:ae) (q t36 t37 t41 a8 bj:Int) (bz br:List V) (cS cU fy fA:Int) (gb dp cx cf:List V):(Int × Int × Int × Int × Int × (List V))→Option ((Int × Int × Int × Int × Int × (List V)) ⊕ (Int × Bool × Int × Int × Int × Int × (List V))):=un fun t42=>un fun bn=>un fun bh=>un fun bp=>un fun bq cb=>Ex C q t36 t37 t41 a8 bj bz br cS cU fy fA gb dp cx cf t42 bn bh bp bq cb (fun y=>some (.inl y)) (fun r=>some (.inr r))
noncomputable def Ey (C:ae) (t36 a8 bj:Int) (bz br:List V) (cS cU fy fA:Int) (gb dp cx cf:List V) (t37 bn bh bp bq:Int) (cb:List V) {β:Type} (kn:(Int × Int × Int × Int × Int × (List V))→Option β) (kr:(Int × Bool × Int × Int × Int × Int × (List V))→Option β):Option β:=
 bif decide ((t37:Int)<t36) then
  (Loop (PK C t37 t36 t37 a8 a8 bj bz br cS cU fy fA gb dp cx cf) (0,bn,bh,bp,bq,cb)).bind (un fun (m9:Int)=>un fun (sg:Bool)=>un fun (wK:Int)=>un fun (wL:Int)=>un fun (Er:Int)=>un fun (akK:Int) (On:List V)=>
   kn (IntKind.wrap .i64 (t37+1),wK,wL,Er,akK,On))
 else
  kr (t37,decide ((t37:Int)<t36),bn,bh,bp,bq,cb)
noncomputable def PL (C:ae) (t36 a8 bj:Int) (bz br:List V) (cS cU fy fA:Int) (gb dp cx cf:List V):(Int × Int × Int × Int × Int × (List V))→Option ((Int × Int × Int × Int × Int × (List V)) ⊕ (Int × Bool × Int × Int × Int × Int × (List V))):=un fun t37=>un fun bn=>un fun bh=>un fun bp=>un fun bq cb=>Ey C t36 a8 bj bz br cS cU fy fA gb dp cx cf t37 bn bh bp bq cb (fun y=>some (.inl y)) (fun r=>some (.inr r))
noncomputable def Zs (C:ae):cH:=fun β n ds k=>
 bif Nat.beq n 193 then bE Mn [false,false,false,false,true,false,false,false,false,false,false,false,false,true,true,true,true,false,false,false,false,true] [[1,2,3,4,0,0,6,7,8,9,10,11,12,13,0,0,0,0,18,19,20,21,0]] (@Ex C) ds k else
 bif Nat.beq n 145 then bE Mo [false,true,false,false,false,false,false,false,false,false,true,true,true,true,false,false,false,false,true] [[1,0,0,3,4,5,6,7,8,9,10,0,0,0,0,15,16,17,18,0]] (@Ey C) ds k else
 none
abbrev Zt (C:ae) (b:cE):Prop:=cF Tryd.prog aD C (Zs C) 51 (cQ Tryd.prog (aD.bd 51)) (aD.sin 51).bf.length b
theorem akL (C:ae):Zt C (.loop (av [1,1,1,1,1,1,0,1,0,0,1,1,0,0,1,1,0,0] Jp)):=
 bH Mn [false,false,false,false,true,false,false,false,false,false,false,false,false,true,true,true,true,false,false,false,false,true] [[1,2,3,4,0,0,6,7,8,9,10,11,12,13,0,0,0,0,18,19,20,21,0]] (@Ex C) (by kernel_rfl) (bc (bs:=[]) (by kernel_rfl) aC) (fun ds=>by kernel_rfl) (fun i x=>by kernel_rfl) (fun i x β k=>by kernel_rfl) (fun β ds k=>by kernel_rfl)
theorem akM (C:ae):Zt C (.loop (av [1,1,1,1,1,1,0,1,0,0] Jp)):=
 bH Mo [false,true,false,false,false,false,false,false,false,false,true,true,true,true,false,false,false,false,true] [[1,0,0,3,4,5,6,7,8,9,10,0,0,0,0,15,16,17,18,0]] (@Ey C) (by kernel_rfl) (bc (bs:=[.loop (av [1,1,1,1,1,1,0,1,0,0,1,1,0,0,1,1,0,0] Jp)]) (by kernel_rfl) (bt (akL C) aC)) (fun ds=>by kernel_rfl) (fun i x=>by kernel_rfl) (fun i x β k=>by kernel_rfl) (fun β ds k=>by kernel_rfl)
noncomputable def PM (C:ae) (aw az:Int) (ar ay:List V):Option (List V):=
 (C rX [.int .i64 aw,.int .i64 az,.list ag ar,.list ai ay]).bind fun r1=>
 bif (((V.nth (r1.drop 2) 0).toInt):Int) != 0 then
  some [.int .i64 0,.int .i64 0,.int .i64 ((V.nth (r1.drop 2) 0).toInt),.list ag ([]:List V),.list ai ([]:List V)]
 else
  (C vQ [.int .i64 aw,.int .i64 (((V.nth (r1.drop 3) 0).toList).length:Int)]).bind fun r2=>
  bif (V.nth r2 0).toBool then
  some [.int .i64 0,.int .i64 0,.int .i64 3,.list ag ([]:List V),.list ai ([]:List V)]
  else
  (C BG [.int .i64 ((V.nth r1 0).toInt),.int .i64 ((V.nth (r1.drop 1) 0).toInt),.list ag ((V.nth (r1.drop 3) 0).toList),.list ai ((V.nth ((r1.drop 3).drop 1) 0).toList),.int .i64 0,.int .i64 ((V.nth (r2.drop 1) 0).toInt),.int .i64 ((V.nth ((r2.drop 1).drop 1) 0).toInt),.int .u64 ((V.nth (((r2.drop 1).drop 1).drop 1) 0).toInt),.int .u64 ((V.nth ((((r2.drop 1).drop 1).drop 1).drop 1) 0).toInt),.list aF ((V.nth ((r2.drop 1).drop 4) 0).toList)]).bind fun r3=>
  (Loop (PL C (((V.nth (r1.drop 3) 0).toList).length:Int) aw az ar ay 0 0 ((V.nth r1 0).toInt) ((V.nth (r1.drop 1) 0).toInt) ([]:List V) ([]:List V) ((V.nth (r1.drop 3) 0).toList) ((V.nth ((r1.drop 3).drop 1) 0).toList)) (0,(V.nth r3 0).toInt,(V.nth (r3.drop 1) 0).toInt,(V.nth ((r3.drop 1).drop 1) 0).toInt,(V.nth (((r3.drop 1).drop 1).drop 1) 0).toInt,(V.nth (r3.drop 4) 0).toList)).bind (un fun (yR:Int)=>un fun (su:Bool)=>un fun (Px:Int)=>un fun (Py:Int)=>un fun (Pz:Int)=>un fun (akN:Int) (CT:List V)=>
   (C yg [.int .i64 ((V.nth (r1.drop 1) 0).toInt),.int .i64 Px,.int .i64 Py,.int .u64 Pz,.int .u64 akN,.list aF CT]).bind fun eS=>
   (C yh [.list ag ((V.nth (r1.drop 3) 0).toList),.int .i64 0,.int .i64 ((V.nth eS 0).toInt),.int .i64 ((V.nth (eS.drop 1) 0).toInt),.int .u64 ((V.nth ((eS.drop 1).drop 1) 0).toInt),.int .u64 ((V.nth (((eS.drop 1).drop 1).drop 1) 0).toInt),.list aF ((V.nth (eS.drop 4) 0).toList)]).bind fun gX=>
   (C tP [.int .i64 ((V.nth gX 0).toInt),.int .i64 ((V.nth (gX.drop 1) 0).toInt),.int .u64 ((V.nth ((gX.drop 1).drop 1) 0).toInt),.int .u64 ((V.nth (((gX.drop 1).drop 1).drop 1) 0).toInt),.list aF ((V.nth (gX.drop 4) 0).toList)]).bind fun pD=>
   some [.int .i64 ((V.nth pD 0).toInt),.int .i64 ((V.nth (pD.drop 1) 0).toInt),.int .i64 ((V.nth (pD.drop 2) 0).toInt),.list ag ((V.nth ((pD.drop 3).drop 5) 0).toList),.list ai ((V.nth (((pD.drop 3).drop 5).drop 1) 0).toList)])
theorem Zu {aw az:Int} {ar ay:List V} {r:Option (List V)} (h:PM CC aw az ar ay=r):CC vO [.int .i64 aw,.int .i64 az,.list ag ar,.list ai ay]=r:=
 bC (key:=51) (L:=Zs CC) (bs:=[.loop (av [1,1,1,1,1,1,0,1,0,0] Jp)]) (by kernel_rfl) (bt (akM CC) aC) (bw (by kernel_rfl) h)
theorem PN {p x q L S:Nat} (hp:p<S) (hx:x<L) (hq:q<S):(fD p x q).In (L:Int) (S:Int):=by unfold Ed.In fD;simp only;omega
theorem Zv {a:Da} (h:a.Ok) {off S:Nat} (hs:a.n+off≤S) {e:Ed} (he:e∈fM a off):e.In (a.L:Int) (S:Int):=by
 obtain ⟨p,x,hp,hx,rfl⟩:=Eu.1 he
 have:=h.dH hp hx
 exact PN (by omega) hx (by omega)
def jt (L n:Nat):List Ed:=fm n fun q=>tab L fun x=>fD q x q
theorem PO {L n:Nat} {e:Ed}:e∈jt L n↔∃q x,q<n∧x<L∧e=fD q x q:=by
 unfold jt
 rw[PA]
 constructor
 ·rintro ⟨p,hp,he⟩
  obtain ⟨x,hx,rfl⟩:=qy.1 he
  exact ⟨p,x,hp,hx,rfl⟩
 ·rintro ⟨p,x,hp,hx,rfl⟩
  exact ⟨p,hp,qy.2 ⟨x,hx,rfl⟩⟩
def sR (m:Da):Nf:=cW m.L m.n (2^m.st) (fu 0 m.fin 0 m.n) (fM m 0++jt m.L m.n)
theorem Jq {m:Da} (h:m.Ok) (hs:m.n≤64):uo m.L m.n (2^m.st) (fu 0 m.fin 0 m.n) (fM m 0++jt m.L m.n) where
 l1:=h.l1
 l6:=h.l6
 qw:=hs
 st:=kZ (by omega) h.s
 fin:=Et (z8 _) (by omega)
 E:=fun e he=>by
  rcases er.1 he with he|he
  ·exact Zv h (by omega) he
  ·obtain ⟨p,x,hp,hx,rfl⟩:=PO.1 he
   exact PN (by omega) hx (by omega)
 len:=by
  have h1:=Ev h (off:=0) (n:=m.n)
  have h2:(jt m.L m.n).length≤m.n*6:=Es fun p _=>by rw[eo];exact h.l6
  rw[dD]
  unfold fM
  omega
section
variable {a:Da} (h:a.Ok)
include h
theorem Zw (hs:(minD a).n≤64) {X:Da} {e:Int} {n:Nf} (hr:CC tP (aN (minD a).L (minD a).n (2^(minD a).st) (fu 0 (minD a).fin 0 (minD a).n) (fM (minD a) 0++jt (minD a).L (minD a).n))=some (Pf X e n)):CC vO (dt a)=some (gd X e):=by
 have hm:=kW h
 have h6:=hm.l6
 have hL:=mC h
 have b6:=hm.s
 refine Zu ?_
 unfold PM
 refine bs (wM h) (bF rfl ?_)
 have e0:(V.nth ((gd (minD a) 0).drop 3) 0).toList=(minD a).c8:=rfl
 rw[e0,Da.lE]
 refine bs (PE hs) (bF rfl ?_)
 refine bs (Zl (l:=[]) hm (off:=0) (by omega) (by simp)) ?_
 rw[List.nil_append]
 have hlen:=Ev hm (off:=0) (n:=(minD a).n)
 refine bs (qJ (minD a).n (fun i=>((i:Int),(a.L:Int),((minD a).n:Int),((0:Nat):Int),((0:Nat):Int),(fM (minD a) 0++jt (minD a).L i).map Ed.enc)) (((minD a).n:Int),false,(a.L:Int),((minD a).n:Int),((0:Nat):Int),((0:Nat):Int),(fM (minD a) 0++jt (minD a).L (minD a).n).map Ed.enc) (by rw[show jt (minD a).L 0=[] from rfl,iS];rfl) (fun q hq=> ?_) ?_) ?_
 ·have uI:(jt (minD a).L q).length≤q*6:=Es fun p _=>by rw[eo];exact h6
  simp only[PL,Ey,un]
  refine bT (dA hq) ?_
  refine bs (qJ a.L (fun i=>((i:Int),(a.L:Int),((minD a).n:Int),((0:Nat):Int),((0:Nat):Int),((fM (minD a) 0++jt (minD a).L q)++tab i fun x=>fD q x q).map Ed.enc)) ((a.L:Int),false,(a.L:Int),((minD a).n:Int),((0:Nat):Int),((0:Nat):Int),((fM (minD a) 0++jt (minD a).L q)++tab (minD a).L fun x=>fD q x q).map Ed.enc) (by rw[NZ,iS];rfl) (fun x hx=> ?_) ?_) ?_
  ·simp only[PK,Ex,un]
   refine bT (dA hx) ?_
   refine bs (PC (by rw[dD,dD,eo];unfold fM;omega)) ?_
   rw[da (by omega),tZ,←cY]
   rfl
  ·simp only[PK,Ex,un]
   refine bF (bJ (aI _)) ?_
   rw[bJ (aI _),hL]
  ·simp only[un]
   rw[da (by omega),show jt (minD a).L (q+1)=jt (minD a).L q++tab (minD a).L fun x=>fD q x q from Jo,←cY]
 ·simp only[PL,Ey,un]
  refine bF (bJ (aI _)) ?_
  rw[bJ (aI _)]
 ·simp only[un]
  refine bs (PD (q:=(minD a).st) (by omega) (by omega)) ?_
  refine bs (PI (n:=(minD a).n) (f:=(minD a).fin) (off:=0) (by omega) (by omega)) ?_
  rw[Nat.zero_or]
  rw[hL] at hr
  rw[hL]
  refine bs hr ?_
  rfl
theorem akO (hs:(minD a).n≤64):CC vO (dt a)=some (gd (gf (sR (minD a)) (minD a).L (minD a).n) (oD (sR (minD a)) (minD a).L (minD a).n)):=
 Zw h hs (Pg (Jq (kW h) hs))
end
theorem Ez {q i:Nat}:(2^q).testBit i=true↔i=q:=by rw[oL,dv];exact eq_comm
theorem akP {f:Nat→Bool} {off n j:Nat}:(fu 0 f off n).testBit j=true↔off≤j∧j<n+off∧f (j-off)=true:=by
 rw[PH,Nat.zero_testBit,Bool.false_or,aS,dv,and_assoc]
section
variable {m k:Da} (hm:m.Ok) (hk:k.Ok) (hL:m.L=k.L)
include hm hk hL
end
inductive sU (K:List Nat→Prop):List Nat→Prop
 | nil:sU K []
 | app {u v:List Nat}:u≠[]→K u→sU K v→sU K (u++v)
section
variable {K:List Nat→Prop}
theorem sU.one {w:List Nat} (h:K w):sU K w:=by
 by_cases hw:w=[]
 ·rw[hw];exact .nil
 ·have:=sU.app hw h .nil
  rwa [iS] at this
theorem sU.ext {K2:List Nat→Prop} {L:Nat} (h: ∀u,WL L u→(K u↔K2 u)) {w:List Nat} (hw:WL L w):sU K w↔sU K2 w:=by
 constructor
 ·intro hr
  induction hr with
  | nil=>exact .nil
  | app g1 g2 _ ih=>exact .app g1 ((h _ (WL.app.1 hw).1).1 g2) (ih (WL.app.1 hw).2)
 ·intro hr
  induction hr with
  | nil=>exact .nil
  | app g1 g2 _ ih=>exact .app g1 ((h _ (WL.app.1 hw).1).2 g2) (ih (WL.app.1 hw).2)
end
section
variable {m:Da} (hm:m.Ok)
include hm
end
section
variable {m:Da} (hm:m.Ok)
include hm
theorem PQ: ∀{w:List Nat} {i t:Nat},i<m.n→WL m.L w→(js (fM m 0) i w t↔t=m.run i w)
 | [],i,t,_,_=>by
  show i=t↔_
  exact eq_comm
 | x::w,i,t,hi,hw=>by
  rw[Da.afh]
  have ih:=PQ (w:=w) (i:=m.nx i x) (t:=t) (hm.dH hi hw.head) hw.tail
  constructor
  ·rintro ⟨q,h1,h2⟩
   obtain ⟨p',x',g1,g2,g3⟩:=Eu.1 h1
   obtain ⟨rfl,rfl,rfl⟩:=Ew.1 g3
   exact ih.1 h2
  ·intro h
   exact ⟨_,Eu.2 ⟨i,x,hi,hw.head,rfl⟩,ih.2 h⟩
omit hm in
theorem zI {f:Nat→Bool} {t:Nat}:(fu 0 f 0 m.n).testBit t=true↔t<m.n∧f t=true:=by
 rw[akP,Nat.sub_zero]
 constructor
 ·rintro ⟨_,h2,h3⟩;exact ⟨by omega,h3⟩
 ·rintro ⟨h2,h3⟩;exact ⟨by omega,by omega,h3⟩
end
def Ed.rev (e:Ed):Ed:=⟨e.t,e.l,e.f⟩
@[simp] theorem Ed.rev_rev (e:Ed):e.rev.rev=e:=rfl
theorem WL.rev {L:Nat} {w:List Nat} (h:WL L w):WL L w.reverse:=fun x hx=>h x (List.mem_reverse.1 hx)
section
variable {m:Da} (hm:m.Ok)
include hm
end
def Jr (m:Da) (f:Nat→Bool):Nf:=cW m.L m.n (2^m.n-1) (fu 0 f 0 m.n) (fM m 0)
section
variable {m:Da} (hm:m.Ok)
include hm
theorem PR (hs:m.n≤64) {f:Nat→Bool}:uo m.L m.n (2^m.n-1) (fu 0 f 0 m.n) (fM m 0) where
 l1:=hm.l1
 l6:=hm.l6
 qw:=hs
 st:=by have:=z8 m.n;omega
 fin:=Et (z8 _) (by omega)
 E:=fun e he=>Zv hm (by omega) he
 len:=by
  have h1:=Ev hm (off:=0) (n:=m.n)
  unfold fM
  omega
omit hm in
theorem Zx {t:Nat}:(2^m.n-1).testBit t=true↔t<m.n:=by rw[uE,dv]
theorem Zy {f:Nat→Bool} {w:List Nat} (hw:WL m.L w):pJ (2^m.n-1) (fu 0 f 0 m.n) (fM m 0) w↔∃q,q<m.n∧f (m.run q w)=true:=by
 unfold pJ
 constructor
 ·rintro ⟨i,k,h1,h2,h3⟩
  have hi:=Zx.1 h1
  obtain rfl:=(PQ hm hi hw).1 h3
  exact ⟨i,hi,(zI.1 h2).2⟩
 ·rintro ⟨q,hq,h⟩
  exact ⟨q,m.run q w,Zx.2 hq,zI.2 ⟨hm.na w hq hw,h⟩,(PQ hm hq hw).2 rfl⟩
theorem PS: ∀{w:List Nat} {i t:Nat},i<m.n→WL m.L w→(js (fM m 0++jt m.L m.n) i w t↔∃v,List.Sublist v w∧t=m.run i v)
 | [],i,t,_,_=>by
  show i=t↔_
  constructor
  ·intro h;exact ⟨[],List.nil_sublist _,h.symm⟩
  ·rintro ⟨v,h1,h2⟩
   rw[List.sublist_nil] at h1
   rw[h1] at h2;exact h2.symm
 | x::w,i,t,hi,hw=>by
  have ih:=fun i hi=>PS (w:=w) (i:=i) (t:=t) hi hw.tail
  constructor
  ·rintro ⟨q,h1,h2⟩
   rcases er.1 h1 with h1|h1
   ·obtain ⟨p',x',g1,g2,g3⟩:=Eu.1 h1
    obtain ⟨rfl,rfl,rfl⟩:=Ew.1 g3
    obtain ⟨v,k1,k2⟩:=(ih _ (hm.dH hi g2)).1 h2
    exact ⟨x::v,k1.cons_cons _,k2⟩
   ·obtain ⟨p',x',g1,g2,g3⟩:=PO.1 h1
    obtain ⟨rfl,rfl,rfl⟩:=Ew.1 g3
    obtain ⟨v,k1,k2⟩:=(ih _ hi).1 h2
    exact ⟨v,k1.cons _,k2⟩
  ·rintro ⟨v,h1,h2⟩
   cases h1 with
   | cons _ h=>exact ⟨i,List.mem_append_right _ (PO.2 ⟨i,x,hi,hw.head,rfl⟩),(ih _ hi).2 ⟨v,h,h2⟩⟩
   | cons_cons _ h=>exact ⟨_,List.mem_append_left _ (Eu.2 ⟨i,x,hi,hw.head,rfl⟩),(ih _ (hm.dH hi hw.head)).2 ⟨_,h,h2⟩⟩
theorem akQ {w:List Nat} (hw:WL m.L w):pJ (2^m.st) (fu 0 m.fin 0 m.n) (fM m 0++jt m.L m.n) w↔∃v,List.Sublist v w∧m.acc m.st v=true:=by
 unfold pJ
 constructor
 ·rintro ⟨i,k,h1,h2,h3⟩
  obtain rfl:=Ez.1 h1
  obtain ⟨v,k1,rfl⟩:=(PS hm hm.s hw).1 h3
  exact ⟨v,k1,(zI.1 h2).2⟩
 ·rintro ⟨v,k1,h⟩
  exact ⟨m.st,m.run m.st v,Ez.2 rfl,zI.2 ⟨hm.na v hm.s (fun x hx=>hw x (k1.subset hx)),h⟩,(PS hm hm.s hw).2 ⟨v,k1,rfl⟩⟩
theorem Zz {E:List Ed} (hE: ∀e,e∈E↔∃p y x,p<m.n∧WL m.L y∧x<m.L∧e=fD p x (m.nx (m.run p y) x)): ∀{w:List Nat} {i:Nat},i<m.n→WL m.L w→((∃t,t<m.n∧m.Live t∧js E i w t)↔∃v,WL m.L v∧List.Sublist w v∧m.acc i v=true)
 | [],i,hi,_=>by
  constructor
  ·rintro ⟨t,_,⟨z,h1,h2⟩,h3⟩
   have:i=t:=h3
   subst this
   exact ⟨z,h1,List.nil_sublist _,h2⟩
  ·rintro ⟨v,h1,_,h2⟩
   exact ⟨i,hi,⟨v,h1,h2⟩,rfl⟩
 | x::w,i,hi,hw=>by
  have ih:=fun i hi=>Zz hE (w:=w) (i:=i) hi hw.tail
  constructor
  ·rintro ⟨t,ht,hl,q,h1,h2⟩
   obtain ⟨p,y,x',g1,g2,g3,g4⟩:=(hE _).1 h1
   obtain ⟨rfl,rfl,rfl⟩:=Ew.1 g4
   obtain ⟨v,k1,k2,k3⟩:=(ih _ (hm.dH (hm.na y hi g2) g3)).1 ⟨t,ht,hl,h2⟩
   refine ⟨y++x::v,WL.app.2 ⟨g2,k1.cons g3⟩,(k2.cons_cons x).trans (List.sublist_append_right _ _),?_⟩
   rw[Da.Cq,Da.yA];exact k3
  ·rintro ⟨v,h1,h2,h3⟩
   have split: ∀(v:List Nat),List.Sublist (x::w) v→∃y z,v=y++x::z∧List.Sublist w z:=by
    intro v
    induction v with
    | nil=>intro h;cases h
    | cons b v ihv=>
     intro h
     cases h with
     | cons _ h=>
      obtain ⟨y,z,rfl,hz⟩:=ihv h
      exact ⟨b::y,z,rfl,hz⟩
     | cons_cons _ h=>exact ⟨[],v,rfl,h⟩
   obtain ⟨y,z,rfl,hz⟩:=split v h2
   obtain ⟨hy,hz2⟩:=WL.app.1 h1
   rw[Da.Cq,Da.yA] at h3
   have hq:=hm.dH (hm.na y hi hy) hw.head
   obtain ⟨t,ht,hl,hp⟩:=(ih _ hq).2 ⟨z,hz2.tail,hz,h3⟩
   exact ⟨t,ht,hl,_,(hE _).2 ⟨i,y,x,hi,hy,hw.head,rfl⟩,hp⟩
theorem akR {E:List Ed} (hE: ∀e,e∈E↔∃p y x,p<m.n∧WL m.L y∧x<m.L∧e=fD p x (m.nx (m.run p y) x)) {w:List Nat} (hw:WL m.L w):pJ (2^m.st) (fu 0 m.eY 0 m.n) E w↔∃v,WL m.L v∧List.Sublist w v∧m.acc m.st v=true:=by
 rw[←Zz hm hE hm.s hw]
 unfold pJ
 constructor
 ·rintro ⟨i,k,h1,h2,h3⟩
  obtain rfl:=Ez.1 h1
  obtain ⟨g1,g2⟩:=zI.1 h2
  exact ⟨k,g1,Da.zH.1 g2,h3⟩
 ·rintro ⟨t,h1,h2,h3⟩
  exact ⟨m.st,t,Ez.2 rfl,zI.2 ⟨h1,Da.zH.2 h2⟩,h3⟩
end
end Go.AM
set_option maxRecDepth 100000
namespace Go.AM
open Go.Proofs
namespace Da
theorem HW.reach {d:Da} (h1:1≤d.L) (h:d.HW): ∀t,t≤d.n*d.L→∀q,q<d.mt t→∃w,WL d.L w∧d.run 0 w=q
 | 0,_,q,hq=>⟨[],WL.nil,by have:q<1:=hq;show 0=q;omega⟩
 | t+1,ht,q,hq=>by
  have ih:=h.reach h1 t (by omega)
  rcases eg q (d.mt t) with c|c
  ·exact ih q c
  ·have e:d.pos t=q:=by
    unfold mt at hq
    split at hq
    ·rename_i h3;omega
    ·omega
   have hx:t %d.L<d.L:=uz _ (by omega)
   have hp:t/d.L<d.n:=by rw[E0 (by omega)];omega
   have h2:=h.row _ hp
   have h3:=d.HX (Nat.div_mul_le_self t d.L)
   obtain ⟨w,hw,hr⟩:=ih (t/d.L) (by omega)
   refine ⟨w++[t %d.L],WL.app.2 ⟨hw,WL.nil.cons hx⟩,?_⟩
   rw[yB,hr]
   exact e
end Da
theorem akS {a:Da} (h:a.Ok) {q:Nat} (hq:q<(minD a).n): ∃w,WL a.L w∧(minD a).run (minD a).st w=q:=by
 have hc:=wi h
 obtain ⟨w,hw,hr⟩:=hc.num.reach (kW h).l1 _ (aI _) q (by rw[hc.num.all];exact hq)
 exact ⟨w,by rw[mC h] at hw;exact hw,by rw[Zo h];exact hr⟩
structure kX (X:Da) (L:Nat) (K:List Nat→Prop):Prop where
 ok:X.Ok
 hL:X.L=L
 min:minD X=X
 lB: ∀w,WL L w→(X.acc X.st w=true↔K w)
theorem kX.eq {X Y:Da} {L:Nat} {K K':List Nat→Prop} (h:kX X L K) (h':kX Y L K') (e: ∀w,WL L w→(K w↔K' w)):X=Y:=by
 rw[←h.min,←h'.min]
 refine Zq h.ok h'.ok (h.hL.trans h'.hL.symm) fun w hw=> ?_
 have AY:WL L w:=h.hL▸hw
 rw[lM,h.lB w AY,h'.lB w AY,e w AY]
theorem kX.ext {X:Da} {L:Nat} {K K':List Nat→Prop} (h:kX X L K) (e: ∀w,WL L w→(K w↔K' w)):kX X L K':=⟨h.ok,h.hL,h.min,fun w hw=>(h.lB w hw).trans (e w hw)⟩
theorem kX.acc {X:Da} {L:Nat} {K:List Nat→Prop} (h:kX X L K) {w:List Nat} (hw:WL L w) {b:Bool} (e:K w↔b=true):X.acc X.st w=b:=by
 rw[lM,h.lB w hw,e]
theorem akT {a:Da} (h:a.Ok):kX (minD a) a.L (fun w=>a.acc a.st w=true):=⟨kW h,mC h,Zr h,fun w hw=>by rw[qK h hw]⟩
section
variable {L S st fin:Nat} {l:List Ed} (h:uo L S st fin l)
include h
theorem akU (hn: ¬iO (cW L S st fin l) L S):kX (gf (cW L S st fin l) L S) L (pJ st fin l) where
 ok:=akG h hn
 hL:=akH h hn
 min:=by
  unfold gf
  rw[ah hn]
  exact Zr (yV (pF h) hn)
 lB:=fun _ hw=>akI h hn hw
theorem akV (hn: ¬iO (cW L S st fin l) L S):(gf (cW L S st fin l) L S).n≤2^S:=by
 have h1:=Zp (yV (pF h) hn)
 have h2:=yU (pF h) (2^S)
 have h3:(jq (cW L S st fin l) L S).n=(iN (cW L S st fin l) L S).length:=nd
 unfold gf
 rw[ah hn]
 unfold iN at h3
 omega
theorem akW:(oD (cW L S st fin l) L S=0∧kX (gf (cW L S st fin l) L S) L (pJ st fin l)∧(gf (cW L S st fin l) L S).n≤2^S)∨(oD (cW L S st fin l) L S=3∧gf (cW L S st fin l) L S=zD∧9<S):=by
 by_cases hn:iO (cW L S st fin l) L S
 ·refine .inr ⟨af hn,af hn,?_⟩
  rcases eg 9 S with c|c
  ·exact c
  ·exact absurd hn (akJ h c)
 ·exact .inl ⟨ah hn,akU h hn,akV h hn⟩
end
def oF (r:Option (List V)) (L S:Nat) (K:List Nat→Prop):Prop:=(∃X,r=some (gd X 0)∧kX X L K∧X.n≤2^S)∨(r=some (gd zD 3)∧9<S)
theorem oF.of {L S st fin:Nat} {l:List Ed} (h:uo L S st fin l) {r:Option (List V)} (e:r=some (gd (gf (cW L S st fin l) L S) (oD (cW L S st fin l) L S))) {K:List Nat→Prop} (hK: ∀w,WL L w→(pJ st fin l w↔K w)):oF r L S K:=by
 rcases akW h with ⟨h1,h2,h3⟩|⟨h1,h2,h3⟩
 ·exact .inl ⟨_,by rw[e,h1],h2.ext hK,h3⟩
 ·exact .inr ⟨by rw[e,h1,h2],h3⟩
theorem oF.small {r:Option (List V)} {L S:Nat} {K:List Nat→Prop} (h:oF r L S K) (hS:S≤9): ∃X,r=some (gd X 0)∧kX X L K∧X.n≤2^S:=by
 rcases h with h|⟨_,h⟩
 ·exact h
 ·omega
end Go.AM
set_option maxRecDepth 100000
namespace Go.AM
open Go.Proofs
theorem WT.PT {P:Program} {t:TypeId} {x:V} (hu:P.underlying t=some (.int .i64)) (h:WT P t x): ∃n:Int,x= .int .i64 n∧ -9223372036854775808≤n∧n≤9223372036854775807:=by
 obtain ⟨n,rfl,h1,h2⟩:=h.eI hu
 have e1:IntKind.min .i64= -9223372036854775808:=by decide
 have e2:IntKind.max .i64=9223372036854775807:=by decide
 rw[e1] at h1
 rw[e2] at h2
 exact ⟨n,rfl,h1,h2⟩
theorem akX {α:Type} {l:List α} (h:l.length=4): ∃a b c d,l=[a,b,c,d]:=by
 match l,h with
 | [a,b,c,d],_=>exact ⟨a,b,c,d,rfl⟩
theorem akY {x:V} (h:gF Tryd.prog ai x): ∃r:List Int,x=lC r∧(r.length≤maxLen∧∀q∈r,-9223372036854775808≤q∧q≤9223372036854775807):=by
 have hu:Tryd.prog.underlying ai=some (.slice bD):=by kernel_rfl
 have hi:Tryd.prog.underlying bD=some (.int .i64):=by kernel_rfl
 obtain ⟨es,rfl,e1,e2⟩:=WT.LA hu (gF.one (by kernel_rfl) h)
 obtain ⟨r,rfl,hr⟩:=LB (f:=iV) (p:=fun q=> -9223372036854775808≤q∧q≤9223372036854775807) fun y hy=>WT.PT hi (gF.one (by kernel_rfl) (e2 y hy))
 exact ⟨r,rfl,by simpa using e1,hr⟩
def Df.enc (d:Df):V:= .agg (sW d [])
theorem aac {t:TypeId} {x:V} (ha:bP Tryd.prog t=true) (he:a9 Tryd.prog t=[bD,bD,LQ,LR]) (h:gF Tryd.prog t x): ∃d:Df,x=d.enc∧d.Ok:=by
 obtain ⟨xs,rfl,hl,hx⟩:=gF.lj ha h
 rw[he] at hl
 obtain ⟨a,b,c,d,rfl⟩:=akX hl
 have hu:Tryd.prog.underlying bD=some (.int .i64):=by kernel_rfl
 have hb:Tryd.prog.underlying ag=some .bool:=by kernel_rfl
 have hv:Tryd.prog.underlying LQ=some (.slice ag):=by kernel_rfl
 have hw:Tryd.prog.underlying LR=some (.slice ai):=by kernel_rfl
 obtain ⟨L,rfl,l1,l2⟩:=WT.PT hu (hx 0 bD a (by rw[he];rfl) rfl)
 obtain ⟨S,rfl,s1,s2⟩:=WT.PT hu (hx 1 bD b (by rw[he];rfl) rfl)
 obtain ⟨fs,rfl,f1,f2⟩:=WT.LA hv (hx 2 LQ c (by rw[he];rfl) rfl)
 obtain ⟨ns,rfl,n1,n2⟩:=WT.LA hw (hx 3 LR d (by rw[he];rfl) rfl)
 obtain ⟨F,rfl⟩:=TB (f:=V.bool) fun y hy=>WT.jX hb (gF.one (by kernel_rfl) (f2 y hy))
 obtain ⟨N,rfl,hN⟩:=LB (f:=lC) fun y hy=>akY (n2 y hy)
 exact ⟨⟨L,S,F,N⟩,rfl,l1,l2,s1,s2,by simpa using f1,by simpa using n1,hN⟩
noncomputable def ZA (C:ae) (aw az:Int) (ar ay:List V):Option (List V):=
 (C rX [.int .i64 aw,.int .i64 az,.list ag ar,.list ai ay]).bind fun r1=>
 bif (((V.nth (r1.drop 2) 0).toInt):Int) != 0 then
  some [.int .i64 0,.int .i64 0,.int .i64 ((V.nth (r1.drop 2) 0).toInt),.list ag ([]:List V),.list ai ([]:List V)]
 else
  (C yi [.int .i64 ((V.nth r1 0).toInt),.int .i64 ((V.nth (r1.drop 1) 0).toInt),.list ag ((V.nth (r1.drop 3) 0).toList),.list ai ((V.nth ((r1.drop 3).drop 1) 0).toList)]).bind fun r2=>
  (C vP [.int .i64 ((V.nth r1 0).toInt),.int .i64 ((V.nth (r1.drop 1) 0).toInt),.list ag ((V.nth r2 0).toList),.list ai ((V.nth ((r1.drop 3).drop 1) 0).toList)]).bind fun r3=>
  some [.int .i64 ((V.nth r3 0).toInt),.int .i64 ((V.nth (r3.drop 1) 0).toInt),.int .i64 0,.list ag ((V.nth (r3.drop 2) 0).toList),.list ai ((V.nth ((r3.drop 2).drop 1) 0).toList)]
theorem akZ {aw az:Int} {ar ay:List V} {r:Option (List V)} (h:ZA CC aw az ar ay=r):CC GZ [.int .i64 aw,.int .i64 az,.list ag ar,.list ai ay]=r:=
 bC (key:=34) (L:=dg) (bs:=[]) (by kernel_rfl) aC (bw (by kernel_rfl) h)
end Go.AM
set_option maxRecDepth 100000
namespace Go.AM
open Go.Proofs
namespace Da
def km (a:Da) (f:Nat→Bool):Da:=⟨a.L,a.st,tab a.n f,a.N⟩
def pre (a:Da) (k:Nat) (g:Nat→List Nat):Da:=⟨k,a.st,a.F,tab a.n fun q=>tab k fun x=>a.run q (g x)⟩
theorem zJ {a:Da} {f:Nat→Bool}:(a.km f).n=a.n:=by simp[km,n]
theorem ZB {a:Da} {f:Nat→Bool} {q:Nat} (h:q<a.n):(a.km f).fin q=f q:=by
 show (tab a.n f).getD q false=f q
 exact sw h
theorem Ok.km {a:Da} (h:a.Ok) {f:Nat→Bool}:(a.km f).Ok:=⟨h.l1,h.l6,by rw[zJ];exact h.nN,fun r hr=>by rw[zJ];exact h.row r hr,by rw[zJ];exact h.s,by rw[zJ];exact h.eE⟩
theorem ak0 {a:Da} {f:Nat→Bool} {q:Nat} {w:List Nat}:(a.km f).run q w=a.run q w:=rfl
theorem ak1 {a:Da} (h:a.Ok) {f:Nat→Bool} {q:Nat} (hq:q<a.n) {w:List Nat} (hw:WL a.L w):(a.km f).acc q w=f (a.run q w):=by
 unfold acc
 rw[ak0,ZB (h.na w hq hw)]
theorem ak2 {a:Da} {f:Nat→Bool}:(a.km f).c8=bV a.n f:=by
 unfold c8 bV
 rw[zJ]
 exact ep fun q hq=>by rw[ZB hq]
theorem ak3 {a:Da} {f:Nat→Bool}:(a.km f).cB=a.cB:=by unfold cB;rw[zJ];rfl
theorem Ok.pre {a:Da} (h:a.Ok) {k:Nat} {g:Nat→List Nat} (h1:1≤k) (h6:k≤6) (hg: ∀x,x<k→WL a.L (g x)):(a.pre k g).Ok:=⟨h1,h6,by simp[Da.pre,n],fun r hr=>by
 obtain ⟨q,hq,rfl⟩:=qy.1 hr
 refine ⟨by simp[Da.pre],fun s hs=> ?_⟩
 obtain ⟨x,hx,rfl⟩:=qy.1 hs
 exact h.na _ hq (hg x hx),h.s,h.eE⟩
end Da
section
variable {a:Da} (h:a.Ok) {w:List UInt8}
include h
theorem ak4:CC GZ (dt a)=some (gd (minD ((minD a).km (minD a).eY)) 0):=by
 have hm:=kW h
 refine akZ ?_
 unfold ZA
 refine bs (wM h) (bF rfl ?_)
 refine bs (Ps hm) ?_
 have hM:=Om (hm.km (f:=(minD a).eY))
 unfold dt jL at hM
 rw[Da.ak2,Da.ak3] at hM
 refine bs hM ?_
 rfl
end
section
variable {d:Df} (h:d.Ok) (hv:d.val≠0)
include h hv
end
def ZC (l:List (List UInt8)) (L:Int):Prop:= ∀i,i<l.length→dj (l.getD i []) L
instance (l:List (List UInt8)) (L:Int):Decidable (ZC l L):=by unfold ZC;infer_instance
section
variable {a:Da} (h:a.Ok) {l:List (List UInt8)}
include h
end
end Go.AM
set_option maxRecDepth 100000
namespace Go.AM
open Go.Proofs
noncomputable abbrev ZD:Code:=cN Tryd.prog (aD.bd 81)
noncomputable def EA (C:ae) (final:List V) (t27 ZE ZF:Int) (dk ZG:List V) (t28 bn bh bp bq:Int) (gb:List V) {β:Type} (kn:(Int × Int × Int × Int × Int × (List V))→Option β) (kr:(Int × Bool × Int × Int × Int × Int × (List V))→Option β):Option β:=
 bif decide ((t28:Int)<t27) then
  (C yg [.int .i64 t28,.int .i64 bn,.int .i64 bh,.int .u64 bp,.int .u64 bq,.list aF gb]).bind fun r3=>
  kn (IntKind.wrap .i64 (t28+1),(V.nth r3 0).toInt,(V.nth (r3.drop 1) 0).toInt,(V.nth ((r3.drop 1).drop 1) 0).toInt,(V.nth (((r3.drop 1).drop 1).drop 1) 0).toInt,(V.nth (r3.drop 4) 0).toList)
 else
  kr (t28,decide ((t28:Int)<t27),bn,bh,bp,bq,gb)
noncomputable def PU (C:ae) (final:List V) (t27 ZE ZF:Int) (dk ZG:List V):(Int × Int × Int × Int × Int × (List V))→Option ((Int × Int × Int × Int × Int × (List V)) ⊕ (Int × Bool × Int × Int × Int × Int × (List V))):=un fun t28=>un fun bn=>un fun bh=>un fun bp=>un fun bq gb=>EA C final t27 ZE ZF dk ZG t28 bn bh bp bq gb (fun y=>some (.inl y)) (fun r=>some (.inr r))
noncomputable def ZH (C:ae):cH:=fun β n ds k=>
 bif Nat.beq n 97 then bE MB [false,false,true,false,false,true,true,true,true,false,false,true] [[1,2,0,0,4,5,0,0,0,0,10,11,0]] (@EA C) ds k else
 none
abbrev ak5 (C:ae) (b:cE):Prop:=cF Tryd.prog aD C (ZH C) 81 (cQ Tryd.prog (aD.bd 81)) (aD.sin 81).bf.length b
theorem ak6 (C:ae):ak5 C (.loop (av [1,1,1,1,0,1,0,0] ZD)):=
 bH MB [false,false,true,false,false,true,true,true,true,false,false,true] [[1,2,0,0,4,5,0,0,0,0,10,11,0]] (@EA C) (by kernel_rfl) (bc (bs:=[]) (by kernel_rfl) aC) (fun ds=>by kernel_rfl) (fun i x=>by kernel_rfl) (fun i x β k=>by kernel_rfl) (fun β ds k=>by kernel_rfl)
noncomputable def PV (C:ae) (EB Js:Int) (zK Jt final:List V):Option (List V):=
 (C vQ [.int .i64 EB,.int .i64 (zK.length:Int)]).bind fun r1=>
 bif (V.nth r1 0).toBool then
  some [.int .i64 0,.int .i64 0,.int .i64 3,.list ag ([]:List V),.list ai ([]:List V)]
 else
  (C BG [.int .i64 EB,.int .i64 Js,.list ag zK,.list ai Jt,.int .i64 0,.int .i64 ((V.nth (r1.drop 1) 0).toInt),.int .i64 ((V.nth ((r1.drop 1).drop 1) 0).toInt),.int .u64 ((V.nth (((r1.drop 1).drop 1).drop 1) 0).toInt),.int .u64 ((V.nth ((((r1.drop 1).drop 1).drop 1).drop 1) 0).toInt),.list aF ((V.nth ((r1.drop 1).drop 4) 0).toList)]).bind fun r2=>
  (Loop (PU C final (zK.length:Int) 0 0 ([]:List V) ([]:List V)) (0,(V.nth r2 0).toInt,(V.nth (r2.drop 1) 0).toInt,(V.nth ((r2.drop 1).drop 1) 0).toInt,(V.nth (((r2.drop 1).drop 1).drop 1) 0).toInt,(V.nth (r2.drop 4) 0).toList)).bind (un fun (ka:Int)=>un fun (m9:Bool)=>un fun (En:Int)=>un fun (wK:Int)=>un fun (wL:Int)=>un fun (Er:Int) (yS:List V)=>
   (C yh [.list ag final,.int .i64 0,.int .i64 En,.int .i64 wK,.int .u64 wL,.int .u64 Er,.list aF yS]).bind fun aO=>
   (C tP [.int .i64 ((V.nth aO 0).toInt),.int .i64 ((V.nth (aO.drop 1) 0).toInt),.int .u64 ((V.nth ((aO.drop 1).drop 1) 0).toInt),.int .u64 ((V.nth (((aO.drop 1).drop 1).drop 1) 0).toInt),.list aF ((V.nth (aO.drop 4) 0).toList)]).bind fun ao=>
   some [.int .i64 ((V.nth ao 0).toInt),.int .i64 ((V.nth (ao.drop 1) 0).toInt),.int .i64 ((V.nth (ao.drop 2) 0).toInt),.list ag ((V.nth ((ao.drop 3).drop 5) 0).toList),.list ai ((V.nth (((ao.drop 3).drop 5).drop 1) 0).toList)])
theorem ZI {EB Js:Int} {zK Jt final:List V} {r:Option (List V)} (h:PV CC EB Js zK Jt final=r):CC tQ [.int .i64 EB,.int .i64 Js,.list ag zK,.list ai Jt,.list ag final]=r:=
 bC (key:=81) (L:=ZH CC) (bs:=[.loop (av [1,1,1,1,0,1,0,0] ZD)]) (by kernel_rfl) (bt (ak6 CC) aC) (bw (by kernel_rfl) h)
noncomputable def ZJ (C:ae) (aw az:Int) (ar ay:List V):Option (List V):=
 (C rX [.int .i64 aw,.int .i64 az,.list ag ar,.list ai ay]).bind fun r1=>
 bif (((V.nth (r1.drop 2) 0).toInt):Int) != 0 then
  some [.int .i64 0,.int .i64 0,.int .i64 ((V.nth (r1.drop 2) 0).toInt),.list ag ([]:List V),.list ai ([]:List V)]
 else
  (C tQ [.int .i64 ((V.nth r1 0).toInt),.int .i64 ((V.nth (r1.drop 1) 0).toInt),.list ag ((V.nth (r1.drop 3) 0).toList),.list ai ((V.nth ((r1.drop 3).drop 1) 0).toList),.list ag ((V.nth (r1.drop 3) 0).toList)]).bind fun r2=>
  some [.int .i64 ((V.nth r2 0).toInt),.int .i64 ((V.nth (r2.drop 1) 0).toInt),.int .i64 ((V.nth (r2.drop 2) 0).toInt),.list ag ((V.nth (r2.drop 3) 0).toList),.list ai ((V.nth ((r2.drop 3).drop 1) 0).toList)]
theorem ak7 {aw az:Int} {ar ay:List V} {r:Option (List V)} (h:ZJ CC aw az ar ay=r):CC BD [.int .i64 aw,.int .i64 az,.list ag ar,.list ai ay]=r:=
 bC (key:=48) (L:=dg) (bs:=[]) (by kernel_rfl) aC (bw (by kernel_rfl) h)
noncomputable def ZK (C:ae) (aw az:Int) (ar ay:List V):Option (List V):=
 (C rX [.int .i64 aw,.int .i64 az,.list ag ar,.list ai ay]).bind fun r1=>
 bif (((V.nth (r1.drop 2) 0).toInt):Int) != 0 then
  some [.int .i64 0,.int .i64 0,.int .i64 ((V.nth (r1.drop 2) 0).toInt),.list ag ([]:List V),.list ai ([]:List V)]
 else
  (C yi [.int .i64 ((V.nth r1 0).toInt),.int .i64 ((V.nth (r1.drop 1) 0).toInt),.list ag ((V.nth (r1.drop 3) 0).toList),.list ai ((V.nth ((r1.drop 3).drop 1) 0).toList)]).bind fun r2=>
  (C tQ [.int .i64 ((V.nth r1 0).toInt),.int .i64 ((V.nth (r1.drop 1) 0).toInt),.list ag ((V.nth (r1.drop 3) 0).toList),.list ai ((V.nth ((r1.drop 3).drop 1) 0).toList),.list ag ((V.nth r2 0).toList)]).bind fun r3=>
  some [.int .i64 ((V.nth r3 0).toInt),.int .i64 ((V.nth (r3.drop 1) 0).toInt),.int .i64 ((V.nth (r3.drop 2) 0).toInt),.list ag ((V.nth (r3.drop 3) 0).toList),.list ai ((V.nth ((r3.drop 3).drop 1) 0).toList)]
theorem ak8 {aw az:Int} {ar ay:List V} {r:Option (List V)} (h:ZK CC aw az ar ay=r):CC BE [.int .i64 aw,.int .i64 az,.list ag ar,.list ai ay]=r:=
 bC (key:=49) (L:=dg) (bs:=[]) (by kernel_rfl) aC (bw (by kernel_rfl) h)
theorem ak9 (i:Nat):(2^i-1)|||2^i=2^(i+1)-1:=by
 refine z5 fun j=> ?_
 rw[pM,uE,oL,uE,lM]
 simp only[oK,dv]
 omega
theorem ZL {m:Da} (hm:m.Ok) (hs:m.n≤64) {f:Nat→Bool}:CC tQ (jL m [.list ag (bV m.n f)])=some (gd (gf (Jr m f) m.L m.n) (oD (Jr m f) m.L m.n)):=by
 have hlen:=Ev hm (off:=0) (n:=m.n)
 refine ZI ?_
 unfold PV
 rw[Da.lE]
 refine bs (PE hs) (bF rfl ?_)
 refine bs (Zl (l:=[]) hm (off:=0) (by omega) (by simp)) ?_
 rw[List.nil_append]
 refine bs (qJ m.n (fun i=>((i:Int),(m.L:Int),(m.n:Int),((2^i-1:Nat):Int),((0:Nat):Int),(fM m 0).map Ed.enc)) ((m.n:Int),false,(m.L:Int),(m.n:Int),((2^m.n-1:Nat):Int),((0:Nat):Int),(fM m 0).map Ed.enc) rfl (fun q hq=> ?_) ?_) ?_
 ·have hp:(2:Nat)^q<2^64:=kZ (by omega) (by omega)
  simp only[PU,EA,un]
  refine bT (dA hq) ?_
  refine bs (PD (q:=q) (by omega) (by omega)) ?_
  rw[da (by omega),ak9]
  rfl
 ·simp only[PU,EA,un]
  refine bF (bJ (aI _)) ?_
  rw[bJ (aI _)]
 ·simp only[un]
  refine bs (PI (n:=m.n) (f:=f) (off:=0) (by omega) (by omega)) ?_
  refine bs (Pg (PR hm hs)) ?_
  rfl
theorem ZM {m:Da} (hs:64<m.n) (l:List V):CC tQ (jL m [.list ag l])=some (gd zD 3):=by
 refine ZI ?_
 unfold PV
 rw[Da.lE]
 refine bs (PF hs) (bT rfl ?_)
 rfl
section
variable {a:Da} (h:a.Ok)
include h
theorem ZN {r:Da} {e:Int} (hr:CC tQ (jL (minD a) [.list ag (bV (minD a).n (minD a).fin)])=some (gd r e)):CC BD (dt a)=some (gd r e):=by
 refine ak7 ?_
 unfold ZJ
 refine bs (wM h) (bF rfl ?_)
 refine bs hr ?_
 rfl
theorem ZO {r:Da} {e:Int} (hr:CC tQ (jL (minD a) [.list ag (bV (minD a).n (minD a).eY)])=some (gd r e)):CC BE (dt a)=some (gd r e):=by
 refine ak8 ?_
 unfold ZK
 refine bs (wM h) (bF rfl ?_)
 refine bs (Ps (kW h)) ?_
 refine bs hr ?_
 rfl
theorem ZP {w:List Nat} (hw:WL a.L w) {f:Nat→Bool}:(∃q,q<(minD a).n∧f ((minD a).run q w)=true)↔∃u,WL a.L u∧f ((minD a).run (minD a).st (u++w))=true:=by
 constructor
 ·rintro ⟨q,hq,hf⟩
  obtain ⟨u,hu,hr⟩:=akS h hq
  exact ⟨u,hu,by rw[Da.yB,hr];exact hf⟩
 ·rintro ⟨u,hu,hf⟩
  exact ⟨_,(kW h).na u (kW h).s (by rw[mC h];exact hu),by rw[←Da.yB];exact hf⟩
theorem ala:oF (CC BD (dt a)) a.L (minD a).n fun w=> ∃u,WL a.L u∧a.acc a.st (u++w)=true:=by
 have hm:=kW h
 have hL:=mC h
 by_cases hs:(minD a).n≤64
 ·have hr:=PR hm hs (f:=(minD a).fin)
  have he:=ZN h (ZL hm hs)
  unfold Jr at he
  rw[hL] at he hr
  refine oF.of hr he fun w hw=> ?_
  rw[Zy hm (by rw[hL];exact hw),ZP h hw]
  constructor
  ·rintro ⟨u,hu,hf⟩
   have:=qK h (WL.app.2 ⟨hu,hw⟩)
   exact ⟨u,hu,this.symm.trans hf⟩
  ·rintro ⟨u,hu,hf⟩
   have:=qK h (WL.app.2 ⟨hu,hw⟩)
   exact ⟨u,hu,this.trans hf⟩
 ·exact .inr ⟨ZN h (ZM (by omega) _),by omega⟩
theorem PW {u:List Nat} (hu:WL a.L u):(minD a).eY ((minD a).run (minD a).st u)=true↔∃z,WL a.L z∧a.acc a.st (u++z)=true:=by
 rw[Da.zH]
 unfold Da.Live
 rw[mC h]
 constructor
 ·rintro ⟨z,hz,hf⟩
  rw[←Da.Cq,qK h (WL.app.2 ⟨hu,hz⟩)] at hf
  exact ⟨z,hz,hf⟩
 ·rintro ⟨z,hz,hf⟩
  rw[←qK h (WL.app.2 ⟨hu,hz⟩),Da.Cq] at hf
  exact ⟨z,hz,hf⟩
theorem alb:oF (CC BE (dt a)) a.L (minD a).n fun w=> ∃u z,WL a.L u∧WL a.L z∧a.acc a.st (u++w++z)=true:=by
 have hm:=kW h
 have hL:=mC h
 by_cases hs:(minD a).n≤64
 ·have hr:=PR hm hs (f:=(minD a).eY)
  have he:=ZO h (ZL hm hs)
  unfold Jr at he
  rw[hL] at he hr
  refine oF.of hr he fun w hw=> ?_
  rw[Zy hm (by rw[hL];exact hw),ZP h hw]
  constructor
  ·rintro ⟨u,hu,hf⟩
   obtain ⟨z,hz,hf⟩:=(PW h (WL.app.2 ⟨hu,hw⟩)).1 hf
   exact ⟨u,z,hu,hz,hf⟩
  ·rintro ⟨u,z,hu,hz,hf⟩
   exact ⟨u,hu,(PW h (WL.app.2 ⟨hu,hw⟩)).2 ⟨z,hz,hf⟩⟩
 ·exact .inr ⟨ZO h (ZM (by omega) _),by omega⟩
theorem alc:kX (minD ((minD a).km (minD a).eY)) a.L fun w=> ∃z,WL a.L z∧a.acc a.st (w++z)=true:=by
 have hm:=kW h
 have hL:=mC h
 have hr:=akT (hm.km (f:=(minD a).eY))
 rw[show ((minD a).km (minD a).eY).L=a.L from hL] at hr
 refine hr.ext fun w hw=> ?_
 have e:((minD a).km (minD a).eY).acc ((minD a).km (minD a).eY).st w=(minD a).eY ((minD a).run (minD a).st w):=Da.ak1 hm hm.s (by rw[hL];exact hw)
 rw[e,PW h hw]
theorem ald:oF (CC vO (dt a)) a.L (minD a).n fun w=> ∃v,List.Sublist v w∧a.acc a.st v=true:=by
 have hm:=kW h
 have hL:=mC h
 by_cases hs:(minD a).n≤64
 ·have hr:=Jq hm hs
  have he:=akO h hs
  unfold sR at he
  rw[←hL]
  refine oF.of hr he fun w hw=> ?_
  rw[akQ hm hw]
  have key: ∀v,List.Sublist v w→(minD a).acc (minD a).st v=a.acc a.st v:=fun v hv=>qK h (hL▸fun x hx=>hw x (hv.subset hx))
  constructor
  ·rintro ⟨v,h1,h2⟩;exact ⟨v,h1,by rw[←key v h1];exact h2⟩
  ·rintro ⟨v,h1,h2⟩;exact ⟨v,h1,by rw[key v h1];exact h2⟩
 ·refine .inr ⟨?_,by omega⟩
  refine Zu ?_
  unfold PM
  refine bs (wM h) (bF rfl ?_)
  have e0:(V.nth ((gd (minD a) 0).drop 3) 0).toList=(minD a).c8:=rfl
  rw[e0,Da.lE]
  refine bs (PF (by omega)) (bT rfl ?_)
  rfl
end
section
variable {d:Df} (h:d.Ok) (hv:d.val≠0)
include h hv
end
noncomputable abbrev zL:Code:=cN Tryd.prog (aD.bd 82)
noncomputable def EC (C:ae) (t14:List V) (t15 t16:Int) (cs:List V) {β:Type} (kn:(Int × (List V))→Option β) (kr:(Int × Bool × (List V))→Option β):Option β:=
 bif decide ((t16:Int)<t15) then
  (idx t14 t16).bind fun x2=>
  bif decide (0≤t16) then
  bif (decide (0≤t16))&&(decide (t16<(cs.length:Int))) then
   (cs[(t16:Int).toNat]?).bind fun x3=>
   kn (IntKind.wrap .i64 (t16+1),cs.set ((t16:Int).toNat) (.int .u64 (IntKind.wrap .u64 ((BitVec.ofInt (IntKind.bits .u64) x2.toInt|||BitVec.ofInt (IntKind.bits .u64) (IntKind.wrap .u64 (1*2^(min t16.toNat (IntKind.bits .u64))))).toNat))))
  else none
  else none
 else
  kr (t16,decide ((t16:Int)<t15),cs)
noncomputable def ED (C:ae) (t14:List V) (t15:Int):(Int × (List V))→Option ((Int × (List V)) ⊕ (Int × Bool × (List V))):=un fun t16 cs=>EC C t14 t15 t16 cs (fun y=>some (.inl y)) (fun r=>some (.inr r))
noncomputable def EE (C:ae) (k' t30 t31 t35 t36:Int) (cs:List V) {β:Type} (kn:(Int × (List V))→Option β) (kr:(Int × Bool × (List V))→Option β):Option β:=
 bif decide ((t36:Int)<t35) then
  bif (decide (0≤t36))&&(decide (t36<(cs.length:Int))) then
  (cs[(t36:Int).toNat]?).bind fun x7=>
  bif decide (0≤k') then
   bif ((IntKind.wrap .u64 ((BitVec.ofInt (IntKind.bits .u64) (Int.fdiv x7.toInt (2^(min k'.toNat (IntKind.bits .u64))))&&&BitVec.ofInt (IntKind.bits .u64) 1).toNat)):Int)==1 then
   bif (decide (0≤t36))&&(decide (t36<(cs.length:Int))) then
    (cs[(t36:Int).toNat]?).bind fun x8=>
    bif (decide (0≤k'))&&(decide (k'<(cs.length:Int))) then
    (cs[(k':Int).toNat]?).bind fun x9=>
    bif (decide (0≤t36))&&(decide (t36<(cs.length:Int))) then
     (cs[(t36:Int).toNat]?).bind fun jn=>
     kn (IntKind.wrap .i64 (t36+1),cs.set ((t36:Int).toNat) (.int .u64 (IntKind.wrap .u64 ((BitVec.ofInt (IntKind.bits .u64) x8.toInt|||BitVec.ofInt (IntKind.bits .u64) x9.toInt).toNat))))
    else none
    else none
   else none
   else
   kn (IntKind.wrap .i64 (t36+1),cs)
  else none
  else none
 else
  kr (t36,decide ((t36:Int)<t35),cs)
noncomputable def EF (C:ae) (k' t30 t31 t35:Int):(Int × (List V))→Option ((Int × (List V)) ⊕ (Int × Bool × (List V))):=un fun t36 cs=>EE C k' t30 t31 t35 t36 cs (fun y=>some (.inl y)) (fun r=>some (.inr r))
noncomputable def EG (C:ae) (t30 t31:Int) (cs:List V) {β:Type} (kn:(Int × (List V))→Option β) (kr:(Int × Bool × (List V))→Option β):Option β:=
 bif decide ((t31:Int)<t30) then
  (Loop (EF C t31 t30 t31 (cs.length:Int)) (0,cs)).bind (un fun (yW:Int)=>un fun (yR:Bool) (ale:List V)=>
   kn (IntKind.wrap .i64 (t31+1),ale))
 else
  kr (t31,decide ((t31:Int)<t30),cs)
noncomputable def EH (C:ae) (t30:Int):(Int × (List V))→Option ((Int × (List V)) ⊕ (Int × Bool × (List V))):=un fun t31 cs=>EG C t30 t31 cs (fun y=>some (.inl y)) (fun r=>some (.inr r))
noncomputable def ZQ (C:ae):cH:=fun β n ds k=>
 bif Nat.beq n 81 then bE MC [false,false,true,true] [[1,2,0,0,0]] (@EC C) ds k else
 bif Nat.beq n 209 then bE MD [false,false,false,false,true,true] [[1,2,3,4,0,0,0]] (@EE C) ds k else
 bif Nat.beq n 161 then bE ME [false,true,true] [[1,0,0,0]] (@EG C) ds k else
 none
abbrev PX (C:ae) (b:cE):Prop:=cF Tryd.prog aD C (ZQ C) 82 (cQ Tryd.prog (aD.bd 82)) (aD.sin 82).bf.length b
theorem alf (C:ae):PX C (.loop (av [1,1,1,0,1,0,0] zL)):=
 bH MC [false,false,true,true] [[1,2,0,0,0]] (@EC C) (by kernel_rfl) (bc (bs:=[]) (by kernel_rfl) aC) (fun ds=>by kernel_rfl) (fun i x=>by kernel_rfl) (fun i x β k=>by kernel_rfl) (fun β ds k=>by kernel_rfl)
theorem alg (C:ae):PX C (.loop (av [1,1,1,1,0,1,0,0,1,1,0,0,1,1,0,0] zL)):=
 bH MD [false,false,false,false,true,true] [[1,2,3,4,0,0,0]] (@EE C) (by kernel_rfl) (bc (bs:=[]) (by kernel_rfl) aC) (fun ds=>by kernel_rfl) (fun i x=>by kernel_rfl) (fun i x β k=>by kernel_rfl) (fun β ds k=>by kernel_rfl)
theorem alh (C:ae):PX C (.loop (av [1,1,1,1,0,1,0,0] zL)):=
 bH ME [false,true,true] [[1,0,0,0]] (@EG C) (by kernel_rfl) (bc (bs:=[.loop (av [1,1,1,1,0,1,0,0,1,1,0,0,1,1,0,0] zL)]) (by kernel_rfl) (bt (alg C) aC)) (fun ds=>by kernel_rfl) (fun i x=>by kernel_rfl) (fun i x β k=>by kernel_rfl) (fun β ds k=>by kernel_rfl)
noncomputable def ZR (C:ae) (r':List V):Option (List V):=
 (C BM [.list b9 r']).bind fun r1=>
 bif !((V.nth r1 0).toBool) then
  some [.list b9 ([]:List V)]
 else
  bif (decide (0≤(r'.length:Int)))&&((decide ((r'.length:Int)≤(r'.length:Int)))&&(Nat.ble ((((r'.length:Int):Int).toNat)*8) ct)) then
  (Loop (ED C r' (r'.length:Int)) (0,List.replicate (((r'.length:Int):Int).toNat) (V.int .u64 0))).bind (un fun (ka:Int)=>un fun (m9:Bool) (ZS:List V)=>
   (Loop (EH C (ZS.length:Int)) (0,ZS)).bind (un fun (v7:Int)=>un fun (ajS:Bool) (ali:List V)=>
    some [.list b9 ali]))
  else none
theorem alj {r':List V} {r:Option (List V)} (h:ZR CC r'=r):CC G8 [.list b9 r']=r:=
 bC (key:=82) (L:=ZQ CC) (bs:=[.loop (av [1,1,1,0,1,0,0] zL),.loop (av [1,1,1,1,0,1,0,0] zL)]) (by kernel_rfl) (bt (alf CC) (bt (alh CC) aC)) (bw (by kernel_rfl) h)
end Go.AM
set_option maxRecDepth 100000
set_option maxHeartbeats 1000000
namespace Go.AM
open Go.Proofs
def Bt (c:List Nat) (i j:Nat):Prop:=(c.getD i 0).testBit j=true
def nw (k:Nat) (c:List Nat) (i:Nat):List Nat:=if (c.getD i 0).testBit k=true then c.set i (c.getD i 0|||c.getD k 0) else c
def qL (c:List Nat) (k:Nat):List Nat:=(List.range c.length).foldl (nw k) c
theorem alk (k:Nat) (c:List Nat) (i:Nat):nw k c i=if (c.getD i 0).testBit k=true then c.set i (c.getD i 0|||c.getD k 0) else c:=rfl
theorem Ju (k:Nat) (c:List Nat) (i:Nat):(nw k c i).length=c.length:=by unfold nw;split<;>simp
theorem ZT {k i:Nat} {c:List Nat} (h:iM c):iM (nw k c i):=by
 refine ⟨by rw[Ju];exact h.len,?_⟩
 rw[Ju]
 unfold nw
 split
 ·intro a ha
  have hx: ∀i,c.getD i 0<2^c.length:=fun i=>by
   rw[nF]
   by_cases hi:i<c.length
   ·rw[bI hi];exact h.lt _ (eU _)
   ·rw[qQ (by omega)];exact qU (by simp)
  rcases List.mem_or_eq_of_mem_set ha with ha|rfl
  ·exact h.lt a ha
  ·exact s9 (hx _) (hx _)
 ·exact h.lt
theorem ZU {k:Nat} {c:List Nat}: ∀m,m≤c.length→((List.range m).foldl (nw k) c).length=c.length∧
  ∀i,((List.range m).foldl (nw k) c).getD i 0=if i<m∧(c.getD i 0).testBit k=true then c.getD i 0|||c.getD k 0 else c.getD i 0:=by
 intro m
 induction m with
 | zero=>intro _;exact ⟨rfl,fun i=>by simp⟩
 | succ m ih=>
  intro hm
  obtain ⟨h1,h2⟩:=ih (by omega)
  rw[ta,tc,List.foldl_cons,List.foldl_nil]
  refine ⟨by rw[Ju,h1],fun i=> ?_⟩
  have hk:((List.range m).foldl (nw k) c).getD k 0=c.getD k 0:=by
   rw[h2];split
   ·exact Nat.or_self _
   ·rfl
  have hmm:((List.range m).foldl (nw k) c).getD m 0=c.getD m 0:=by rw[h2,ah (by omega)]
  rw[alk,hmm,hk]
  by_cases hb:(c.getD m 0).testBit k=true
  ·rw[af hb,afb,h1]
   by_cases hi:m=i
   ·subst hi
    rw[af ⟨rfl,by omega⟩,af ⟨by omega,hb⟩]
   ·rw[ah (fun h=>hi h.1),h2]
    by_cases h3:i<m
    ·simp[h3,show i<m+1 by omega]
    ·simp[h3,show¬i<m+1 by omega]
  ·rw[ah hb,h2]
   by_cases hi:m=i
   ·subst hi
    rw[ah (by omega),ah (fun h=>hb h.2)]
   ·by_cases h3:i<m
    ·simp[h3,show i<m+1 by omega]
    ·simp[h3,show¬i<m+1 by omega]
theorem Jv {c:List Nat} {k i j:Nat} (hi:i<c.length):Bt (qL c k) i j↔Bt c i j∨(Bt c i k∧Bt c k j):=by
 unfold Bt qL
 rw[(ZU (k:=k) c.length (aI _)).2 i]
 by_cases hb:(c.getD i 0).testBit k=true
 ·rw[af ⟨hi,hb⟩,pM,oK]
  exact or_congr Iff.rfl ⟨fun h=>⟨hb,h⟩,fun h=>h.2⟩
 ·rw[ah (fun h=>hb h.2)]
  exact ⟨.inl,fun h=>h.elim id (fun h=>absurd h.1 hb)⟩
structure ur (R c:List Nat) (k:Nat):Prop where
 len:c.length=R.length
 ok:iM c
 refl: ∀i,i<R.length→Bt c i i
 base: ∀i j,i<R.length→Bt R i j→Bt c i j
 trans: ∀i m j,i<R.length→m<k→m<R.length→Bt c i m→Bt c m j→Bt c i j
 sound: ∀T:Nat→Prop,(∀i j,i<R.length→T i→Bt R i j→T j)→∀i j,i<R.length→T i→Bt c i j→T j
theorem alm (c:List Nat) (k:Nat):(qL c k).length=c.length:=(ZU c.length (aI _)).1
theorem ZV {k:Nat}: ∀(l:List Nat) (c:List Nat),iM c→iM (l.foldl (nw k) c)
 | [],_,h=>h
 | _::l,_,h=>ZV l _ (ZT h)
theorem ur.step {R c:List Nat} {k:Nat} (hk:k<R.length) (h:ur R c k):ur R (qL c k) (k+1) where
 len:=by rw[alm,h.len]
 ok:=ZV _ _ h.ok
 refl i hi:=(Jv (by rw[h.len];exact hi)).2 (.inl (h.refl i hi))
 base i j hi hb:=(Jv (by rw[h.len];exact hi)).2 (.inl (h.base i j hi hb))
 trans i m j hi hm tL h1 h2:=by
  have hl:=h.len
  rw[Jv (by omega)] at h1 h2⊢
  by_cases hmk:m=k
  ·subst hmk
   have g1:Bt c i m:=by rcases h1 with h1|h1;exact h1;exact h1.1
   have g2:Bt c m j:=by rcases h2 with h2|h2;exact h2;exact h2.2
   exact .inr ⟨g1,g2⟩
  ·have rn:m<k:=by omega
   rcases h1 with h1|⟨h1,iF⟩<;>rcases h2 with h2|⟨h2,B7⟩
   ·exact .inl (h.trans i m j hi rn tL h1 h2)
   ·exact .inr ⟨h.trans i m k hi rn tL h1 h2,B7⟩
   ·exact .inr ⟨h1,h.trans k m j hk rn tL iF h2⟩
   ·exact .inr ⟨h1,B7⟩
 sound T hT i j hi ht hb:=by
  have hl:=h.len
  rw[Jv (by omega)] at hb
  rcases hb with hb|⟨h1,h2⟩
  ·exact h.sound T hT i j hi ht hb
  ·exact h.sound T hT k j hk (h.sound T hT i k hi ht h1) h2
def diag (R:List Nat):List Nat:=(List.range R.length).map fun i=>R.getD i 0|||2^i
theorem Jw {R:List Nat} {i:Nat} (hi:i<R.length):(diag R).getD i 0=R.getD i 0|||2^i:=by simp[diag,hi]
theorem ur.start {R:List Nat} (h:iM R):ur R (diag R) 0 where
 len:=by simp[diag]
 ok:=by
  have hl:(diag R).length=R.length:=by simp[diag]
  refine ⟨by rw[hl];exact h.len,fun a ha=> ?_⟩
  rw[hl]
  simp only[diag,fg,gG] at ha
  obtain ⟨i,hi,rfl⟩:=ha
  refine s9 ?_ (kZ (by omega) hi)
  have:R.getD i 0=R[i]:=by simp[hi]
  rw[this]
  exact h.lt _ (eU _)
 refl i hi:=by unfold Bt;rw[Jw hi];simp[pM,oL]
 base i j hi hb:=by unfold Bt at*;rw[Jw hi,pM,hb];rfl
 trans i m j _ hm:=by omega
 sound T hT i j hi ht hb:=by
  unfold Bt at hb
  rw[Jw hi,pM,oL,oK,dv] at hb
  rcases hb with hb|rfl
  ·exact hT i j hi ht hb
  ·exact ht
def pK (R:List Nat):List Nat:=(List.range R.length).foldl qL (diag R)
theorem ZW {R:List Nat} (h:iM R): ∀m,m≤R.length→ur R ((List.range m).foldl qL (diag R)) m:=by
 intro m
 induction m with
 | zero=>intro _;exact ur.start h
 | succ m ih=>
  intro hm
  rw[ta,tc,List.foldl_cons,List.foldl_nil]
  exact (ih (by omega)).step (by omega)
theorem PY {R:List Nat} (h:iM R):ur R (pK R) R.length:=ZW h _ (aI _)
theorem aln (n:Nat):List.replicate n (V.int .u64 0)=U1 (List.replicate n 0):=by simp[U1]
theorem alo {R:List Nat} (h:iM R):Loop (ED CC (U1 R) (R.length:Int)) (0,U1 (List.replicate R.length 0))=some ((R.length:Int),false,U1 (diag R)):=by
 have hl:=h.len
 have:=xV (step:=ED CC (U1 R) (R.length:Int)) (fun i=>((i:Int),U1 ((diag R).take i++List.replicate (R.length-i) 0))) R.length (r:=((R.length:Int),false,U1 (diag R))) ?_ ?_
 ·simpa using this
 ·intro i hi
  obtain ⟨d,hd⟩: ∃d,R.length-i=d+1:=⟨R.length-i-1,by omega⟩
  have lS:R.length-(i+1)=d:=by omega
  have Br:(diag R).length=R.length:=by simp[diag]
  have F4:((diag R).take i).length=i:=by rw[iT];omega
  simp only[ED,EC,un,hd,lS]
  rw[aJ,af (by omega),NO hi]
  simp only[Option.bind_some,V.toInt_int]
  rw[aJ,af (by omega),dr,aJ,af (by omega),aJ,af (by rw[jm,dD,uB];omega),Int.toNat_natCast]
  have hg:(U1 ((diag R).take i++List.replicate (d+1) 0))[i]? =some (.int .u64 ((0:Nat):Int)):=v5 (by rw[jR (by omega)];simp[F4])
  rw[hg]
  simp only[Option.bind_some]
  rw[yu (by omega),u64_or (h.get i) (kZ (by omega) (by omega)),NL,dC,wrap64 (by omega) (by omega),List.set_append_right _ _ (by omega),F4,zW,List.replicate_succ,List.set_cons_zero]
  have e1:(diag R).take (i+1)=(diag R).take i++[R.getD i 0|||2^i]:=by
   rw[←List.take_append_getElem (by omega)]
   congr 2
   have:=Jw hi
   simpa[Br,hi] using this
  rw[e1,cY]
  rfl
 ·simp only[ED,EC,un]
  rw[pz (by omega),cond_false,zW,uH (by simp[diag])]
  simp
theorem alp {c:List Nat} (h:iM c) {k:Nat} (hk:k<c.length) {a b:Int}:Loop (EF CC (k:Int) a b (c.length:Int)) (0,U1 c)=some ((c.length:Int),false,U1 (qL c k)):=by
 have hl:=h.len
 have:=U5 (step:=EF CC (k:Int) a b (c.length:Int)) (List.range c.length) (fun i (x:List Nat)=>((i:Int),U1 x)) (nw k) (fun x=>((c.length:Int),false,U1 x)) (fun _ x=>iM x∧x.length=c.length) ?_ ?_ c ⟨h,rfl⟩
 ·exact this.1
 ·intro i x hi hx
  have eh:i<c.length:=by simpa using hi
  rw[List.getElem_range]
  refine ⟨?_,ZT hx.1,by rw[Ju,hx.2]⟩
  have e1:x.getD i 0=x[i]:=by simp[show i<x.length by omega]
  have e2:x.getD k 0=x[k]:=by simp[show k<x.length by omega]
  have g1:(U1 x)[i]? =some (.int .u64 ((x.getD i 0:Nat):Int)):=v5 (by rw[e1];simp)
  have g2:(U1 x)[k]? =some (.int .u64 ((x.getD k 0:Nat):Int)):=v5 (by rw[e2];simp)
  have jZ:=hx.1.get i
  have ia:=hx.1.get k
  simp only[EF,EE,un]
  rw[aJ,af (by omega),dr,aJ,af (by omega),aJ,af (by rw[jm];omega),Int.toNat_natCast,g1]
  simp only[Option.bind_some,V.toInt_int]
  rw[aJ,af (by omega),Int.toNat_natCast,aei jZ (by omega)]
  unfold nw
  cases hb:(x.getD i 0).testBit k with
  | true=>
   rw[cond_true,af rfl,dr,aJ,af (by omega),aJ,af (by rw[jm];omega),dr,aJ,af (by omega),aJ,af (by rw[jm];omega),g2]
   simp only[Option.bind_some,V.toInt_int]
   rw[dr,aJ,af (by omega),aJ,af (by rw[jm];omega),u64_or jZ ia,NL,dC,wrap64 (by omega) (by omega)]
  | false=>
   rw[cond_false,ah (by simp),dC,wrap64 (by omega) (by omega)]
 ·intro x hx
  simp only[EF,EE,un,E2]
  rw[pz (by omega),cond_false]
theorem alq {R:List Nat} (h:iM R):Loop (EH CC (R.length:Int)) (0,U1 (diag R))=some ((R.length:Int),false,U1 (pK R)):=by
 have hl:=h.len
 have:=xV (step:=EH CC (R.length:Int)) (fun i=>((i:Int),U1 ((List.range i).foldl qL (diag R)))) R.length (r:=((R.length:Int),false,U1 (pK R))) ?_ ?_
 ·simpa using this
 ·intro i hi
  have hc:=ZW h i (by omega)
  have fa:=hc.len
  simp only[EH,EG,un]
  rw[aJ,af (by omega)]
  rw[show ((U1 ((List.range i).foldl qL (diag R))).length:Int)=((((List.range i).foldl qL (diag R)).length:Nat):Int) by rw[jm],alp hc.ok (by omega)]
  simp only[Option.bind_some,un]
  rw[dC,wrap64 (by omega) (by omega),ta,tc,List.foldl_cons,List.foldl_nil]
 ·simp only[EH,EG,un]
  rw[pz (by omega),cond_false]
  rfl
theorem alr {R:List Nat} (h:iM R):CC G8 [.list b9 (U1 R)]=some [.list b9 (U1 (pK R))]:=by
 have hl:=h.len
 refine alj ?_
 unfold ZR
 rw[VP h]
 simp only[Option.bind_some,V.cq,V.j8,zP,cond_false,jm]
 rw[dr,aJ,af (by omega),dr,aJ,af (by omega),GR,af (by rw[yw];omega),Int.toNat_natCast,aln,alo h]
 simp only[Option.bind_some,un]
 have e1:((U1 (diag R)).length:Int)=(R.length:Int):=by rw[jm];simp[diag]
 rw[e1,alq h]
 rfl
end Go.AM
