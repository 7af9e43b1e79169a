/-
  Functions of the program, lifted to plain data.
-/
import Derived.Test.YtpfiomngchimkaaGreatDoorP7
set_option linter.unusedVariables false
set_option linter.unusedSimpArgs false
set_option linter.unusedSectionVars false
set_option maxRecDepth 100000
namespace Go.AM
open Go.Proofs
section
set_option maxHeartbeats 4000000
open Go.Sort
variable {α:Type}[au α]
def aJ(a b:α):Bool:=decide (au.cmp a b<0)
theorem BH(a b:α):(aJ a b=true)=(au.cmp a b<0):=by unfold aJ;rw[fp]
theorem zW(a b:α):((!aJ a b)=true)= ¬(au.cmp a b<0):=by unfold aJ;simp
abbrev eA(d:Array α):LV:=yd au.enc d
theorem Ve{β:Type}{d:Array α}{i:Nat}{k:Int}{v:V}{x:Option β}(h:i<d.size:=by omega):aj (az (eA d) k v) (i:Int) (fun _=>x)=x:=by
 unfold aj az;rw[yo,lE,dZ,aF,aU,aF,aU,Int.toNat_natCast,cA (by rw[yo,lE];exact h)];rfl
variable [Inhabited α]
theorem aGb(a j:Nat)(d:Array α):insInner aJ a (j+1) d=if j+1>a then(if au.cmp d[j+1]! d[j]!<0 then insInner aJ a j (swp d (j+1) j)else d)else d:=by
 rw[ao7];by_cases h1:j+1>a
 .rw[ai h1];simp only[h1,uU,uX,BH]
 .rw[af h1,af (by simp[h1])]
theorem aer(hi first root:Nat)(d:Array α):siftDown aJ hi first root d=
  if 2*root+1>=hi then d else
   if 2*root+2<hi then
    (if au.cmp d[first+(2*root+1)]! d[first+(2*root+2)]!<0 then
     (if au.cmp d[first+root]! d[first+(2*root+2)]!<0 then siftDown aJ hi first (2*root+2) (swp d (first+root) (first+(2*root+2)))else d)
    else(if au.cmp d[first+root]! d[first+(2*root+1)]!<0 then siftDown aJ hi first (2*root+1) (swp d (first+root) (first+(2*root+1)))else d))
   else(if au.cmp d[first+root]! d[first+(2*root+1)]!<0 then siftDown aJ hi first (2*root+1) (swp d (first+root) (first+(2*root+1)))else d):=by
 rw[siftDown];by_cases h1:2*root+1>=hi
 .rw[Ab h1,ai h1]
 rw[dif_neg h1,af h1];by_cases h2:2*root+2<hi
 .rw[ai h2];by_cases h3:au.cmp d[first+(2*root+1)]! d[first+(2*root+2)]!<0
  .rw[ai h3,ai (by simp only[aZ,fp,BH];exact⟨h2,h3⟩)];simp only[zW];by_cases h4:au.cmp d[first+root]! d[first+(2*root+2)]!<0
   .rw[af (uY h4),Ab h2,ai h4]
   .rw[ai h4,af h4]
  .rw[af h3,af (by simp only[aZ,fp,BH];exact fun h=>h3 h.2)];simp only[zW];by_cases h4:au.cmp d[first+root]! d[first+(2*root+1)]!<0
   .rw[af (uY h4),ai h4]
   .rw[ai h4,af h4]
 .rw[af h2,af (by simp only[aZ,fp,BH];exact fun h=>h2 h.1)];simp only[zW];by_cases h4:au.cmp d[first+root]! d[first+(2*root+1)]!<0
  .rw[af (uY h4),ai h4]
  .rw[ai h4,af h4]
theorem apu{a b i:Nat}:∀(j:Nat) (d:Array α),j<d.size->d.size<1152921504606846976->
  ∃j' t,Loop (GK (au.E α) CC a b i) ((j:Int),eA d)=some (j',t,eA (insInner aJ a j d))
 |0,d,hj,hs=>⟨(0:Nat),false,dg (by
   simp (disch:=omega) only[GK,GJ,un,aF,af];rfl)⟩
 |j+1,d,hj,hs=>by
  obtain⟨j',t,ih⟩:=apu (a:=a) (b:=b) (i:=i) j (swp d (j+1) j) (by rw[size_swp];omega) (by rw[size_swp];omega);rw[aGb];by_cases h1:j+1>a
  .rw[ai h1];have e:GK (au.E α) CC a b i (((j+1:Nat):Int),eA d)=if au.cmp d[j+1]! d[j]!<0 then some (.inl ((j:Int),eA (swp d (j+1) j)))else some (.inr (((j+1:Nat):Int),decide (au.cmp d[j+1]! d[j]!<0),eA d)):=by
    simp (disch:=omega) only[GK,GJ,un,aF,dZ,kB,ai,af,wrap64,gA,ld,Int.toNat_natCast,Option.bind_some,lE,lF,au.re,lb,m9,mg,au.cs,V.bj,V.toInt_int,cond_true,cond_false,BF,gI,gL];rfl
   by_cases h2:au.cmp d[j+1]! d[j]!<0
   .rw[ai h2]at e⊢;exact⟨j',t,(fg e).trans ih⟩
   .rw[af h2]at e⊢;exact⟨_,_,dg e⟩
  .rw[af h1];exact⟨((j+1:Nat):Int),false,dg (by
    simp (disch:=omega) only[GK,GJ,un,aF,af])⟩
theorem aGc{a b:Nat}:∀(n i:Nat) (d:Array α),b-i=n->b<=d.size->d.size<1152921504606846976->
  ∃j' t,Loop (TX (au.E α) CC a b) ((i:Int),eA d)=some (j',t,eA (insOuter aJ a b i d)):=by
 intro n
 induction n with
 |zero=>
  intro i d hn hb hs;rw[insOuter,cl];exact⟨(i:Int),false,dg (by
   simp (disch:=omega) only[TX,MB,un,zV,cond_false])⟩
 |succ n ih=>
  intro i d hn hb hs;obtain⟨j1,t1,h1⟩:=apu (a:=a) (b:=b) (i:=i) i d zO hs;obtain⟨j',t,h2⟩:=ih (i+1) (insInner aJ a i d) zO (by rw[aek];omega) (by rw[aek];omega);rw[insOuter,aU];refine⟨j',t,(fg ?_).trans h2⟩;simp (disch:=omega) only[TX,MB,un,aF,ai,h1,Option.bind_some,gA,wrap64]
theorem apv{a b:Nat}{d:Array α}(hb:b<=d.size)(hs:d.size<1152921504606846976)(ha:a<1152921504606846976):
  CC ((au.E α).k 0) [vI a,vI b,.list (au.E α).T (eA d)]=some [.list (au.E α).T (eA (insertionSort aJ d a b))]:=by
 refine au.aph ?_;unfold acu;obtain⟨j',t,h⟩:=aGc (a:=a) (b:=b) _ (a+1) d rfl hb hs;simp (disch:=omega) only[gA,wrap64];rw[h];rfl
theorem aGd(hi first:Nat):∀(n root:Nat) (d:Array α),hi-root<=n->root<1152921504606846976->first+hi<=d.size->d.size<1152921504606846976->
  (∃x y z,Loop (vT (au.E α) CC hi first) ((root:Int),eA d)=some (.inl (x,y,z,eA (siftDown aJ hi first root d))))∨
  (∃x y z,Loop (vT (au.E α) CC hi first) ((root:Int),eA d)=some (.inr (x,y,z,eA (siftDown aJ hi first root d)))):=by
 intro n
 induction n with
 |zero=>
  intro root d hn hr hb hs;rw[aer,aU];exact .inl ⟨(root:Int),((root*2+1:Nat):Int),true,dg (by
   simp (disch:=omega) only[vT,Br,un,OD,gA,wrap64];rw[uK zO];rfl)⟩
 |succ n ih=>
  intro root d hn hr hb hs;by_cases h1:2*root+1>=hi
  .rw[aer,ai h1];exact .inl ⟨(root:Int),((root*2+1:Nat):Int),true,dg (by
    simp (disch:=omega) only[vT,Br,un,OD,gA,wrap64];rw[uK zO];rfl)⟩
  .have go:∀c:Nat,c<hi->root<c->(vT (au.E α) CC hi first ((root:Int),eA d)=
      if au.cmp d[first+root]! d[first+c]!<0 then some (.inl ((c:Int),eA (swp d (first+root) (first+c))))else some (.inr (.inr ((root:Int),(c:Int),true,eA d))))->
     siftDown aJ hi first root d=(if au.cmp d[first+root]! d[first+c]!<0 then siftDown aJ hi first c (swp d (first+root) (first+c))else d)->
     ((∃x y z,Loop (vT (au.E α) CC hi first) ((root:Int),eA d)=some (.inl (x,y,z,eA (siftDown aJ hi first root d))))∨
     (∃x y z,Loop (vT (au.E α) CC hi first) ((root:Int),eA d)=some (.inr (x,y,z,eA (siftDown aJ hi first root d))))):=by
    intro c hc hrc e1 e2;rw[e2];by_cases h3:au.cmp d[first+root]! d[first+c]!<0
    .rw[ai h3]at e1;rw[ai h3,fg e1];exact ih c _ zO zO (by rw[size_swp];omega) (by rw[size_swp];omega)
    .rw[af h3]at e1;rw[af h3,dg e1];exact .inr ⟨_,_,_,rfl⟩
   have e0:=aer hi first root d
   rw[af h1]at e0;by_cases h2:2*root+2<hi
   .rw[ai h2]at e0;by_cases h3:au.cmp d[first+(2*root+1)]! d[first+(2*root+2)]!<0
    .rw[ai h3]at e0;refine go (2*root+2) zO zO ?_ e0;rw[oU 2 root]at h3;simp (disch:=omega) only[vT,Br,un,OD,gA,ld,wrap64];rw[aF,cl,aF,aU];simp (disch:=omega) only[DP,aF,dZ,kB,ai,af,wrap64,gA,ld,Int.toNat_natCast,Option.bind_some,lE,lF,au.re,lb,m9,mg,au.cs,V.bj,V.toInt_int,cond_true,cond_false,oU 2 root,uK,gI,gL];by_cases h4:au.cmp d[first+root]! d[first+(root*2+2)]!<0
     .simp only[h4,jZ];rfl
     .simp only[h4,mE];rfl
    .rw[af h3]at e0;refine go (2*root+1) zO zO ?_ e0;rw[oU 2 root]at h3;simp (disch:=omega) only[vT,Br,un,OD,gA,ld,wrap64];rw[aF,cl,aF,aU];simp (disch:=omega) only[DP,aF,dZ,kB,ai,af,wrap64,gA,ld,Int.toNat_natCast,Option.bind_some,lE,lF,au.re,lb,m9,mg,au.cs,V.bj,V.toInt_int,cond_true,cond_false,oU 2 root,zV,gI,gL];by_cases h4:au.cmp d[first+root]! d[first+(root*2+1)]!<0
     .simp only[h4,jZ];rfl
     .simp only[h4,mE];rfl
   .rw[af h2]at e0;refine go (2*root+1) zO zO ?_ e0;simp (disch:=omega) only[vT,Br,un,OD,gA,ld,wrap64];rw[aF,cl,aF,cl];simp (disch:=omega) only[DP,aF,dZ,kB,ai,af,wrap64,gA,ld,Int.toNat_natCast,Option.bind_some,lE,lF,au.re,lb,m9,mg,au.cs,V.bj,V.toInt_int,cond_true,cond_false,oU 2 root,gI,gL];by_cases h4:au.cmp d[first+root]! d[first+(root*2+1)]!<0
    .simp only[h4,jZ];rfl
    .simp only[h4,mE];rfl
theorem apw{lo hi first:Nat}{d:Array α}(hl:lo<1152921504606846976)(hb:first+hi<=d.size)(hs:d.size<1152921504606846976):
  CC ((au.E α).k 1) [vI lo,vI hi,vI first,.list (au.E α).T (eA d)]=some [.list (au.E α).T (eA (siftDown aJ hi first lo d))]:=by
 refine au.api ?_;unfold acw;rcases aGd hi first _ lo d (aC _) hl hb hs with⟨x,y,z,h⟩|⟨x,y,z,h⟩
 .rw[h];rfl
 .rw[h];rfl
theorem apx{hi first:Nat}:∀(k:Nat) (d:Array α),k<1152921504606846976->first+hi<=d.size->d.size<1152921504606846976->
  ∃x y,Loop (TY (au.E α) CC first 0 hi) ((k:Int)-1,eA d)=some (x,y,eA (heapBuild aJ hi first k d))
 |0,d,hk,hb,hs=>⟨-1,false,dg (by
   simp (disch:=omega) only[TY,MC,un,aF,af];rfl)⟩
 |k+1,d,hk,hb,hs=>by
  obtain⟨x,y,ih⟩:=apx (hi:=hi) (first:=first) k (siftDown aJ hi first k d) zO (by rw[OE _ _ _ _ _ (aC _)];omega) (by rw[OE _ _ _ _ _ (aC _)];omega);refine⟨x,y,(fg ?_).trans ih⟩;simp (disch:=omega) only[TY,MC,un,aF,ai,BF,apw,Option.bind_some,V.bj,V.dD,wrap64,gI,gL]
theorem apy{first:Nat}:∀(k:Nat) (d:Array α),k<1152921504606846976->first+k<=d.size->d.size<1152921504606846976->
  ∃x y,Loop (TZ (au.E α) CC first 0) ((k:Int)-1,eA d)=some (x,y,eA (heapPop aJ first k d))
 |0,d,hk,hb,hs=>⟨-1,false,dg (by
   simp (disch:=omega) only[TZ,MD,un,aF,af];rfl)⟩
 |k+1,d,hk,hb,hs=>by
  obtain⟨x,y,ih⟩:=apy (first:=first) k (siftDown aJ k first 0 (swp d first (first+k))) zO (by rw[OE _ _ _ _ _ (aC _),size_swp];omega) (by rw[OE _ _ _ _ _ (aC _),size_swp];omega);refine⟨x,y,(fg ?_).trans ih⟩;have qG:=apw (lo:=0) (hi:=k) (first:=first) (d:=swp d first (first+k)) zO (by rw[size_swp];omega) (by rw[size_swp];omega);unfold swp at qG⊢;rw[show((0:Nat):Int)=0 from rfl]at qG;simp (disch:=omega) only[TZ,MD,un,BF,aF,dZ,kB,ai,af,wrap64,gA,ld,Int.toNat_natCast,Option.bind_some,lE,lF,au.re,lb,m9,mg,au.cs,V.bj,V.toInt_int,cond_true,cond_false,gI,gL];rw[qG];simp (disch:=omega) only[Option.bind_some,V.bj,V.dD,wrap64,gI,gL]
theorem aGe{a b:Nat}{d:Array α}(kS:a<b)(hb:b<=d.size)(hs:d.size<1152921504606846976):
  CC ((au.E α).k 2) [vI a,vI b,.list (au.E α).T (eA d)]=some [.list (au.E α).T (eA (heapSort aJ d a b))]:=by
 refine au.apj ?_;unfold acy;obtain⟨x,y,h1⟩:=apx (hi:=b-a) (first:=a) ((b-a-1)/2+1) d zO zO hs;obtain⟨x2,y2,h2⟩:=apy (first:=a) (b-a) (heapBuild aJ (b-a) a ((b-a-1)/2+1) d) zO (by rw[ael];omega) (by rw[ael];omega);have e1:((((b-a-1)/2+1:Nat):Int)-1)=Int.tdiv (((b-a:Nat):Int)-1) 2:=by
  rw[Int.tdiv_eq_ediv_of_nonneg zO];omega
 rw[e1]at h1;simp (disch:=omega) only[tx,wrap64];rw[h1];simp only[Option.bind_some,un];rw[h2];rfl
theorem aGf:∀(n i j:Nat) (d:Array α),j-i<=n->j<d.size->d.size<1152921504606846976->
  ∃x y z,Loop (ME (au.E α) CC) ((i:Int),(j:Int),eA d)=some (x,y,z,eA (reverseLoop i j d)):=by
 intro n
 induction n with
 |zero=>
  intro i j d hn hj hs;rw[reverseLoop,cl];exact⟨(i:Int),(j:Int),false,dg (by
   simp (disch:=omega) only[ME,GL,un,zV,cond_false])⟩
 |succ n ih=>
  intro i j d hn hj hs;rw[reverseLoop];by_cases h:i<j
  .rw[ai h];obtain⟨x,y,z,h2⟩:=ih (i+1) (j-1) (swp d i j) zO (by rw[size_swp];omega) (by rw[size_swp];omega);refine⟨x,y,z,(fg ?_).trans h2⟩;simp (disch:=omega) only[ME,GL,un,aF,dZ,kB,ai,af,wrap64,gA,ld,Int.toNat_natCast,Option.bind_some,lE,lF,au.re,lb,m9,mg,au.cs,V.bj,V.toInt_int,cond_true,cond_false,pI,gI,gL];rfl
  .rw[af h];exact⟨(i:Int),(j:Int),false,dg (by
    simp (disch:=omega) only[ME,GL,un,zV,cond_false])⟩
theorem aGg{a b:Nat}{d:Array α}(kS:a<b)(hb:b<=d.size)(hs:d.size<1152921504606846976):
  CC ((au.E α).k 3) [vI a,vI b,.list (au.E α).T (eA d)]=some [.list (au.E α).T (eA (reverseRange d a b))]:=by
 refine au.apk ?_;unfold acA;obtain⟨x,y,z,h⟩:=aGf _ a (b-1) d (aC _) zO hs;simp (disch:=omega) only[pI,wrap64];rw[h];rfl
end
section
set_option maxHeartbeats 4000000
open Go.Sort
variable {α:Type}[Inhabited α][au α]
theorem Vf(d:Array α)(b i:Nat):scanSorted aJ d b i=if i<b then(if au.cmp d[i]! d[i-1]!<0 then i else scanSorted aJ d b (i+1))else i:=by
 conv=>lhs;rw[scanSorted]
 by_cases h:i<b
 .rw[ai h];simp only[h,uU,uX,zW];by_cases h2:au.cmp d[i]! d[i-1]!<0
  .rw[af (uY h2),ai h2]
  .rw[ai h2,af h2]
 .rw[af h,af (by simp[h])]
theorem apz(j:Nat)(d:Array α):shiftDown aJ (j+1) d=if au.cmp d[j+1]! d[j]!<0 then shiftDown aJ j (swp d (j+1) j)else d:=by
 conv=>lhs;rw[shiftDown]
 simp only[zW];by_cases h2:au.cmp d[j+1]! d[j]!<0
 .rw[af (uY h2),ai h2]
 .rw[ai h2,af h2]
theorem Vg(b j:Nat)(d:Array α):shiftUp aJ b j d=if j<b then(if au.cmp d[j]! d[j-1]!<0 then shiftUp aJ b (j+1) (swp d j (j-1))else d)else d:=by
 conv=>lhs;rw[shiftUp]
 simp only[zW];by_cases h:j<b
 .rw[ai h,ai h];by_cases h2:au.cmp d[j]! d[j-1]!<0
  .rw[af (uY h2),ai h2]
  .rw[ai h2,af h2]
 .rw[af h,af h]
theorem aGh{a:Nat}:∀(n i j:Nat) (d:Array α),j+1-i<=n->(partLoop aJ a i j d).2.size=d.size∧(partLoop aJ a i j d).1<=j:=by
 intro n
 induction n with
 |zero=>
  intro i j d hn;have h1:=scanUp_ge (fun x=>aJ x d[a]!) d j i;have h2:=scanDown_le (fun x=>!aJ x d[a]!) d (scanUp (fun x=>aJ x d[a]!) d j i) j;rw[partLoop_eq,aU];exact⟨rfl,h2⟩
 |succ n ih=>
  intro i j d hn;rw[partLoop_eq];have h1:=scanUp_ge (fun x=>aJ x d[a]!) d j i;have h2:=scanDown_le (fun x=>!aJ x d[a]!) d (scanUp (fun x=>aJ x d[a]!) d j i) j;split
  .exact⟨rfl,h2⟩
  .obtain⟨h3,h4⟩:=ih (scanUp (fun x=>aJ x d[a]!) d j i+1) (scanDown (fun x=>!aJ x d[a]!) d (scanUp (fun x=>aJ x d[a]!) d j i) j-1) (swp d (scanUp (fun x=>aJ x d[a]!) d j i) (scanDown (fun x=>!aJ x d[a]!) d (scanUp (fun x=>aJ x d[a]!) d j i) j)) zO;exact⟨by rw[h3,size_swp],zO⟩
theorem qp{β:Type}{d:Array α}{i:Nat}{f:V->Option β}(h:i<d.size:=by omega):aj (eA d) (i:Int) f=f (au.enc (d[i]!)):=by
 unfold aj;rw[lE,dZ,aF,aU,aF,aU,Int.toNat_natCast,lF h];rfl
theorem aGi{a j:Nat}{d:Array α}(ha:a<d.size)(hj:j<d.size)(hs:d.size<1152921504606846976):∀(n i:Nat),j+1-i=n->i<=d.size->
  ∃t,Loop (MG (au.E α) CC a j (eA d)) (i:Int)=some (((scanUp (fun x=>aJ x d[a]!) d j i:Nat):Int),t):=by
 intro n
 induction n with
 |zero=>
  intro i hn hi;rw[Hy,cl];exact⟨false,dg (by simp (disch:=omega) only[MG,MF,aF,af])⟩
 |succ n ih=>
  intro i hn hi;obtain⟨t,h⟩:=ih (i+1) zO zO;rw[Hy,aU];have e:MG (au.E α) CC a j (eA d) (i:Int)=if au.cmp d[i]! d[a]!<0 then some (.inl ((i+1:Nat):Int))else some (.inr ((i:Int),decide (au.cmp d[i]! d[a]!<0))):=by
   simp (disch:=omega) only[MG,MF,aF,dZ,kB,ai,af,wrap64,gA,ld,Int.toNat_natCast,Option.bind_some,lE,lF,au.re,lb,m9,mg,au.cs,V.bj,V.toInt_int,cond_true,cond_false,gI]
  simp only[BH];by_cases h2:au.cmp d[i]! d[a]!<0
  .rw[ai h2]at e;rw[ai h2];exact⟨t,(fg e).trans h⟩
  .rw[af h2]at e;rw[af h2];exact⟨_,dg e⟩
theorem apA{a j:Nat}{d:Array α}(ha:a<d.size)(hj:j<d.size)(hs:d.size<1152921504606846976):∀(n i:Nat),j+1-i=n->i<=d.size->
  ∃t,Loop (MI (au.E α) CC a j (eA d)) (i:Int)=some (((scanUp (fun x=>aJ x d[a]!) d j i:Nat):Int),t):=by
 intro n
 induction n with
 |zero=>
  intro i hn hi;rw[Hy,cl];exact⟨false,dg (by simp (disch:=omega) only[MI,MH,aF,af])⟩
 |succ n ih=>
  intro i hn hi;obtain⟨t,h⟩:=ih (i+1) zO zO;rw[Hy,aU];have e:MI (au.E α) CC a j (eA d) (i:Int)=if au.cmp d[i]! d[a]!<0 then some (.inl ((i+1:Nat):Int))else some (.inr ((i:Int),decide (au.cmp d[i]! d[a]!<0))):=by
   simp (disch:=omega) only[MI,MH,aF,dZ,kB,ai,af,wrap64,gA,ld,Int.toNat_natCast,Option.bind_some,lE,lF,au.re,lb,m9,mg,au.cs,V.bj,V.toInt_int,cond_true,cond_false,gI]
  simp only[BH];by_cases h2:au.cmp d[i]! d[a]!<0
  .rw[ai h2]at e;rw[ai h2];exact⟨t,(fg e).trans h⟩
  .rw[af h2]at e;rw[af h2];exact⟨_,dg e⟩
theorem apB{a i:Nat}{d:Array α}(ha:a<d.size)(hi:1<=i)(hs:d.size<1152921504606846976):∀(j:Nat),j<d.size->
  ∃t,Loop (GN (au.E α) CC a i (eA d)) (j:Int)=some (((scanDown (fun x=>!aJ x d[a]!) d i j:Nat):Int),t)
 |0,hj=>⟨false,dg (by simp (disch:=omega) only[GN,GM,aF,af];rfl)⟩
 |j+1,hj=>by
  obtain⟨t,h⟩:=apB ha hi hs j zO;rw[aej];by_cases h1:i<=j+1
  .rw[ai h1];have e:GN (au.E α) CC a i (eA d) ((j+1:Nat):Int)=if au.cmp d[j+1]! d[a]!<0 then some (.inr (((j+1:Nat):Int),!decide (au.cmp d[j+1]! d[a]!<0)))else some (.inl (j:Int)):=by
    simp (disch:=omega) only[GN,GM,aF,dZ,kB,ai,af,wrap64,gA,ld,Int.toNat_natCast,Option.bind_some,lE,lF,au.re,lb,m9,mg,au.cs,V.bj,V.toInt_int,cond_true,cond_false,BF,gI]
   simp only[zW];by_cases h2:au.cmp d[j+1]! d[a]!<0
   .rw[ai h2]at e;rw[af (uY h2)];exact⟨_,dg e⟩
   .rw[af h2]at e;rw[ai h2];exact⟨t,(fg e).trans h⟩
  .rw[af h1];exact⟨false,dg (by simp (disch:=omega) only[GN,GM,aF,af])⟩
theorem zJ{a i:Nat}{d:Array α}(ha:a<d.size)(hi:1<=i)(hs:d.size<1152921504606846976):∀(j:Nat),j<d.size->
  ∃t,Loop (GP (au.E α) CC a i (eA d)) (j:Int)=some (((scanDown (fun x=>!aJ x d[a]!) d i j:Nat):Int),t)
 |0,hj=>⟨false,dg (by simp (disch:=omega) only[GP,GO,aF,af];rfl)⟩
 |j+1,hj=>by
  obtain⟨t,h⟩:=zJ ha hi hs j zO;rw[aej];by_cases h1:i<=j+1
  .rw[ai h1];have e:GP (au.E α) CC a i (eA d) ((j+1:Nat):Int)=if au.cmp d[j+1]! d[a]!<0 then some (.inr (((j+1:Nat):Int),!decide (au.cmp d[j+1]! d[a]!<0)))else some (.inl (j:Int)):=by
    simp (disch:=omega) only[GP,GO,aF,dZ,kB,ai,af,wrap64,gA,ld,Int.toNat_natCast,Option.bind_some,lE,lF,au.re,lb,m9,mg,au.cs,V.bj,V.toInt_int,cond_true,cond_false,BF,gI]
   simp only[zW];by_cases h2:au.cmp d[j+1]! d[a]!<0
   .rw[ai h2]at e;rw[af (uY h2)];exact⟨_,dg e⟩
   .rw[af h2]at e;rw[ai h2];exact⟨t,(fg e).trans h⟩
  .rw[af h1];exact⟨false,dg (by simp (disch:=omega) only[GP,GO,aF,af])⟩
theorem apC{a j:Nat}{d:Array α}(ha:a<d.size)(hj:j<d.size)(hs:d.size<1152921504606846976):∀(n i:Nat),j+1-i=n->i<=d.size->
  ∃t,Loop (MN (au.E α) CC a j (eA d)) (i:Int)=some (((scanUp (fun x=>!aJ d[a]! x) d j i:Nat):Int),t):=by
 intro n
 induction n with
 |zero=>
  intro i hn hi;rw[Hy,cl];exact⟨false,dg (by simp (disch:=omega) only[MN,MM,aF,af])⟩
 |succ n ih=>
  intro i hn hi;obtain⟨t,h⟩:=ih (i+1) zO zO;rw[Hy,aU];have e:MN (au.E α) CC a j (eA d) (i:Int)=if au.cmp d[a]! d[i]!<0 then some (.inr ((i:Int),!decide (au.cmp d[a]! d[i]!<0)))else some (.inl ((i+1:Nat):Int)):=by
   simp (disch:=omega) only[MN,MM,aF,dZ,kB,ai,af,wrap64,gA,ld,Int.toNat_natCast,Option.bind_some,lE,lF,au.re,lb,m9,mg,au.cs,V.bj,V.toInt_int,cond_true,cond_false,gI]
  simp only[zW];by_cases h2:au.cmp d[a]! d[i]!<0
  .rw[ai h2]at e;rw[af (uY h2)];exact⟨_,dg e⟩
  .rw[af h2]at e;rw[ai h2];exact⟨t,(fg e).trans h⟩
theorem aes{a i:Nat}{d:Array α}(ha:a<d.size)(hi:1<=i)(hs:d.size<1152921504606846976):∀(j:Nat),j<d.size->
  ∃t,Loop (GS (au.E α) CC a i (eA d)) (j:Int)=some (((scanDown (fun x=>aJ d[a]! x) d i j:Nat):Int),t)
 |0,hj=>⟨false,dg (by simp (disch:=omega) only[GS,GR,aF,af];rfl)⟩
 |j+1,hj=>by
  obtain⟨t,h⟩:=aes ha hi hs j zO;rw[aej];by_cases h1:i<=j+1
  .rw[ai h1];have e:GS (au.E α) CC a i (eA d) ((j+1:Nat):Int)=if au.cmp d[a]! d[j+1]!<0 then some (.inl (j:Int))else some (.inr (((j+1:Nat):Int),decide (au.cmp d[a]! d[j+1]!<0))):=by
    simp (disch:=omega) only[GS,GR,aF,dZ,kB,ai,af,wrap64,gA,ld,Int.toNat_natCast,Option.bind_some,lE,lF,au.re,lb,m9,mg,au.cs,V.bj,V.toInt_int,cond_true,cond_false,BF,gI]
   simp only[BH];by_cases h2:au.cmp d[a]! d[j+1]!<0
   .rw[ai h2]at e;rw[ai h2];exact⟨t,(fg e).trans h⟩
   .rw[af h2]at e;rw[af h2];exact⟨_,dg e⟩
  .rw[af h1];exact⟨false,dg (by simp (disch:=omega) only[GS,GR,aF,af])⟩
theorem aGj{a:Nat}:∀(n i j:Nat) (d:Array α),j+1-i<=n->1<=i->i<=d.size->a<d.size->j<d.size->d.size<1152921504606846976->
  ∃x z,Loop (GQ (au.E α) CC a) ((i:Int),(j:Int),eA d)=some (x,(((partLoop aJ a i j d).1:Nat):Int),z,eA (partLoop aJ a i j d).2):=by
 intro n
 induction n with
 |zero=>
  intro i j d hn h1 h2 ha hj hs;obtain⟨t3,e3⟩:=apA (a:=a) ha hj hs _ i rfl h2;have g1:=scanUp_ge (fun x=>aJ x d[a]!) d j i;have g2:=scanDown_le (fun x=>!aJ x d[a]!) d (scanUp (fun x=>aJ x d[a]!) d j i) j;obtain⟨t4,e4⟩:=zJ (a:=a) (i:=scanUp (fun x=>aJ x d[a]!) d j i) ha zO hs j hj;rw[partLoop_eq,aU];refine⟨((scanUp (fun x=>aJ x d[a]!) d j i:Nat):Int),true,dg ?_⟩;simp only[GQ,MJ,un];rw[e3];simp only[Option.bind_some,un];rw[e4];simp (disch:=omega) only[Option.bind_some,un,uK,cond_true]
 |succ n ih=>
  intro i j d hn h1 h2 ha hj hs;obtain⟨t3,e3⟩:=apA (a:=a) ha hj hs _ i rfl h2;have g1:=scanUp_ge (fun x=>aJ x d[a]!) d j i;have g2:=scanDown_le (fun x=>!aJ x d[a]!) d (scanUp (fun x=>aJ x d[a]!) d j i) j;obtain⟨t4,e4⟩:=zJ (a:=a) (i:=scanUp (fun x=>aJ x d[a]!) d j i) ha zO hs j hj;rw[partLoop_eq];have f:GQ (au.E α) CC a ((i:Int),(j:Int),eA d)=GQ (au.E α) CC a ((i:Int),(j:Int),eA d):=rfl
  conv at f=>rhs;simp only[GQ,MJ,un];rw[e3];simp only[Option.bind_some,un];rw[e4];simp only[Option.bind_some,un]
  generalize mP:scanUp (fun x=>aJ x d[a]!) d j i=i2 at*
  generalize gm:scanDown (fun x=>!aJ x d[a]!) d i2 j=j2 at*
  by_cases h:i2>j2
  .rw[ai h];refine⟨(i2:Int),true,dg (f.trans ?_)⟩;simp (disch:=omega) only[Option.bind_some,uK,cond_true]
  .rw[af h];obtain⟨x,z,e⟩:=ih (i2+1) (j2-1) (swp d i2 j2) zO zO (by rw[size_swp];omega) (by rw[size_swp];omega) (by rw[size_swp];omega) (by rw[size_swp];omega);refine⟨x,z,(fg (f.trans ?_)).trans e⟩;simp (disch:=omega) only[aF,dZ,kB,ai,af,wrap64,gA,ld,Int.toNat_natCast,Option.bind_some,lE,lF,au.re,lb,m9,mg,au.cs,V.bj,V.toInt_int,cond_true,cond_false,pI,gI];rfl
theorem aGk(d:Array α)(a b pivot:Nat):partition aJ d a b pivot=
  if scanUp (fun x=>aJ x (swp d a pivot)[a]!) (swp d a pivot) (b-1) (a+1)>scanDown (fun x=>!aJ x (swp d a pivot)[a]!) (swp d a pivot) (scanUp (fun x=>aJ x (swp d a pivot)[a]!) (swp d a pivot) (b-1) (a+1)) (b-1)then
   (scanDown (fun x=>!aJ x (swp d a pivot)[a]!) (swp d a pivot) (scanUp (fun x=>aJ x (swp d a pivot)[a]!) (swp d a pivot) (b-1) (a+1)) (b-1),true,swp (swp d a pivot) (scanDown (fun x=>!aJ x (swp d a pivot)[a]!) (swp d a pivot) (scanUp (fun x=>aJ x (swp d a pivot)[a]!) (swp d a pivot) (b-1) (a+1)) (b-1)) a)
  else
   ((partLoop aJ a (scanUp (fun x=>aJ x (swp d a pivot)[a]!) (swp d a pivot) (b-1) (a+1)+1) (scanDown (fun x=>!aJ x (swp d a pivot)[a]!) (swp d a pivot) (scanUp (fun x=>aJ x (swp d a pivot)[a]!) (swp d a pivot) (b-1) (a+1)) (b-1)-1) (swp (swp d a pivot) (scanUp (fun x=>aJ x (swp d a pivot)[a]!) (swp d a pivot) (b-1) (a+1)) (scanDown (fun x=>!aJ x (swp d a pivot)[a]!) (swp d a pivot) (scanUp (fun x=>aJ x (swp d a pivot)[a]!) (swp d a pivot) (b-1) (a+1)) (b-1)))).1,false,
    swp (partLoop aJ a (scanUp (fun x=>aJ x (swp d a pivot)[a]!) (swp d a pivot) (b-1) (a+1)+1) (scanDown (fun x=>!aJ x (swp d a pivot)[a]!) (swp d a pivot) (scanUp (fun x=>aJ x (swp d a pivot)[a]!) (swp d a pivot) (b-1) (a+1)) (b-1)-1) (swp (swp d a pivot) (scanUp (fun x=>aJ x (swp d a pivot)[a]!) (swp d a pivot) (b-1) (a+1)) (scanDown (fun x=>!aJ x (swp d a pivot)[a]!) (swp d a pivot) (scanUp (fun x=>aJ x (swp d a pivot)[a]!) (swp d a pivot) (b-1) (a+1)) (b-1)))).2
    (partLoop aJ a (scanUp (fun x=>aJ x (swp d a pivot)[a]!) (swp d a pivot) (b-1) (a+1)+1) (scanDown (fun x=>!aJ x (swp d a pivot)[a]!) (swp d a pivot) (scanUp (fun x=>aJ x (swp d a pivot)[a]!) (swp d a pivot) (b-1) (a+1)) (b-1)-1) (swp (swp d a pivot) (scanUp (fun x=>aJ x (swp d a pivot)[a]!) (swp d a pivot) (b-1) (a+1)) (scanDown (fun x=>!aJ x (swp d a pivot)[a]!) (swp d a pivot) (scanUp (fun x=>aJ x (swp d a pivot)[a]!) (swp d a pivot) (b-1) (a+1)) (b-1)))).1 a):=rfl
theorem HA(d:Array α)(i j:Nat):eA ((d.setIfInBounds i d[j]!).setIfInBounds j d[i]!)=eA (swp d i j):=rfl
theorem aGl{a b pivot:Nat}{d:Array α}(hp:pivot<b)(kS:a<b)(hb:b<=d.size)(hs:d.size<1152921504606846976):
  CC ((au.E α).k 4) [vI a,vI b,vI pivot,.list (au.E α).T (eA d)]=
   some [vI ((partition aJ d a b pivot).1:Int),.bool (partition aJ d a b pivot).2.1,.list (au.E α).T (eA (partition aJ d a b pivot).2.2)]:=by
 refine au.apl ?_;unfold acB;have z1:(swp d a pivot).size=d.size:=size_swp ..;obtain⟨t1,e1⟩:=aGi (a:=a) (j:=b-1) (d:=swp d a pivot) zO zO zO _ (a+1) rfl zO;have g1:=scanUp_ge (fun x=>aJ x (swp d a pivot)[a]!) (swp d a pivot) (b-1) (a+1);have g2:=scanDown_le (fun x=>!aJ x (swp d a pivot)[a]!) (swp d a pivot) (scanUp (fun x=>aJ x (swp d a pivot)[a]!) (swp d a pivot) (b-1) (a+1)) (b-1);obtain⟨t2,e2⟩:=apB (a:=a) (i:=scanUp (fun x=>aJ x (swp d a pivot)[a]!) (swp d a pivot) (b-1) (a+1)) (d:=swp d a pivot) zO zO zO (b-1) zO;have e0:=aGk d a b pivot;rw[qp (i:=pivot),qp (i:=a),qp (i:=a),Ve (i:=pivot)];simp only[au.re,Int.toNat_natCast,lb,HA];simp (disch:=omega) only[pI,gA,wrap64];rw[e1];simp only[Option.bind_some,un];rw[e2];simp only[Option.bind_some,un];generalize mP:scanUp (fun x=>aJ x (swp d a pivot)[a]!) (swp d a pivot) (b-1) (a+1)=i2 at*
 generalize gm:scanDown (fun x=>!aJ x (swp d a pivot)[a]!) (swp d a pivot) i2 (b-1)=j2 at*
 generalize swp d a pivot=d1 at*
 by_cases h:i2>j2
 .rw[ai h]at e0;rw[e0,aF,aU];rw[qp (i:=a),qp (i:=j2)];rw[qp (i:=j2),Ve (i:=a)];simp only[au.re,Int.toNat_natCast,lb,HA]
 .rw[af h]at e0;rw[e0,aF,cl];have z2:(swp d1 i2 j2).size=d1.size:=size_swp ..;obtain⟨x,z,e5⟩:=aGj (a:=a) _ (i2+1) (j2-1) (swp d1 i2 j2) (aC _) zO zO zO zO zO;obtain⟨q1,q2⟩:=aGh (a:=a) _ (i2+1) (j2-1) (swp d1 i2 j2) (aC _);rw[qp (i:=j2),qp (i:=i2)];rw[qp (i:=i2),Ve (i:=j2)];simp only[au.re,Int.toNat_natCast,lb,HA];simp (disch:=omega) only[pI,gA,wrap64];rw[e5];generalize partLoop aJ a (i2+1) (j2-1) (swp d1 i2 j2)=r at*
  simp only[Option.bind_some,un];rw[qp (i:=a),qp (i:=r.1)];rw[qp (i:=r.1),Ve (i:=a)];simp only[au.re,Int.toNat_natCast,lb,HA]
theorem aGm{a:Nat}:∀(n i j:Nat) (d:Array α),j+1-i<=n->1<=i->i<=d.size->a<d.size->j<d.size->d.size<1152921504606846976->
  ∃x z,Loop (GU (au.E α) CC a) ((i:Int),(j:Int),eA d)=some ((((partEqLoop aJ a i j d).1:Nat):Int),x,z,eA (partEqLoop aJ a i j d).2):=by
 intro n
 induction n with
 |zero=>
  intro i j d hn h1 h2 ha hj hs;obtain⟨t3,e3⟩:=apC (a:=a) ha hj hs _ i rfl h2;have g1:=scanUp_ge (fun x=>!aJ d[a]! x) d j i;have g2:=scanDown_le (fun x=>aJ d[a]! x) d (scanUp (fun x=>!aJ d[a]! x) d j i) j;obtain⟨t4,e4⟩:=aes (a:=a) (i:=scanUp (fun x=>!aJ d[a]! x) d j i) ha zO hs j hj;rw[partEqLoop_eq,aU];refine⟨((scanDown (fun x=>aJ d[a]! x) d (scanUp (fun x=>!aJ d[a]! x) d j i) j:Nat):Int),true,dg ?_⟩;simp only[GU,MO,un];rw[e3];simp only[Option.bind_some,un];rw[e4];simp (disch:=omega) only[Option.bind_some,un,uK,cond_true]
 |succ n ih=>
  intro i j d hn h1 h2 ha hj hs;obtain⟨t3,e3⟩:=apC (a:=a) ha hj hs _ i rfl h2;have g1:=scanUp_ge (fun x=>!aJ d[a]! x) d j i;have g2:=scanDown_le (fun x=>aJ d[a]! x) d (scanUp (fun x=>!aJ d[a]! x) d j i) j;obtain⟨t4,e4⟩:=aes (a:=a) (i:=scanUp (fun x=>!aJ d[a]! x) d j i) ha zO hs j hj;rw[partEqLoop_eq];have f:GU (au.E α) CC a ((i:Int),(j:Int),eA d)=GU (au.E α) CC a ((i:Int),(j:Int),eA d):=rfl
  conv at f=>rhs;simp only[GU,MO,un];rw[e3];simp only[Option.bind_some,un];rw[e4];simp only[Option.bind_some,un]
  generalize mP:scanUp (fun x=>!aJ d[a]! x) d j i=i2 at*
  generalize gm:scanDown (fun x=>aJ d[a]! x) d i2 j=j2 at*
  by_cases h:i2>j2
  .rw[ai h];refine⟨(j2:Int),true,dg (f.trans ?_)⟩;simp (disch:=omega) only[Option.bind_some,uK,cond_true]
  .rw[af h];obtain⟨x,z,e⟩:=ih (i2+1) (j2-1) (swp d i2 j2) zO zO (by rw[size_swp];omega) (by rw[size_swp];omega) (by rw[size_swp];omega) (by rw[size_swp];omega);refine⟨x,z,(fg (f.trans ?_)).trans e⟩;simp (disch:=omega) only[aF,dZ,kB,ai,af,wrap64,gA,ld,Int.toNat_natCast,Option.bind_some,lE,lF,au.re,lb,m9,mg,au.cs,V.bj,V.toInt_int,cond_true,cond_false,pI,gI];rfl
theorem aGn{a b pivot:Nat}{d:Array α}(hp:pivot<b)(kS:a<b)(hb:b<=d.size)(hs:d.size<1152921504606846976):
  CC ((au.E α).k 5) [vI a,vI b,vI pivot,.list (au.E α).T (eA d)]=
   some [vI ((partitionEqual aJ d a b pivot).1:Int),.list (au.E α).T (eA (partitionEqual aJ d a b pivot).2)]:=by
 refine au.apm ?_;unfold acC;have z1:(swp d a pivot).size=d.size:=size_swp ..;obtain⟨x,z,e⟩:=aGm (a:=a) _ (a+1) (b-1) (swp d a pivot) (aC _) zO zO zO zO zO;simp (disch:=omega) only[aF,dZ,ai,lE,lF,Int.toNat_natCast,Option.bind_some,au.re,lb,m9,mg,pI,gA,wrap64,HA];rw[e];rfl
theorem aGo{a b j:Nat}{d:Array α}(hb:b<=d.size)(hs:d.size<1152921504606846976):∀(n i:Nat),b-i=n->1<=i->i<=b->
  ∃t,Loop (MQ (au.E α) CC a b j (eA d)) (i:Int)=some (((scanSorted aJ d b i:Nat):Int),t):=by
 intro n
 induction n with
 |zero=>
  intro i hn h1 hi;rw[Vf,cl];exact⟨false,dg (by simp (disch:=omega) only[MQ,MP,aF,af])⟩
 |succ n ih=>
  intro i hn h1 hi;obtain⟨t,h⟩:=ih (i+1) zO zO zO;rw[Vf,aU];have e:MQ (au.E α) CC a b j (eA d) (i:Int)=if au.cmp d[i]! d[i-1]!<0 then some (.inr ((i:Int),!decide (au.cmp d[i]! d[i-1]!<0)))else some (.inl ((i+1:Nat):Int)):=by
   simp (disch:=omega) only[MQ,MP,pI,aF,dZ,kB,ai,af,wrap64,gA,ld,Int.toNat_natCast,Option.bind_some,lE,lF,au.re,lb,m9,mg,au.cs,V.bj,V.toInt_int,cond_true,cond_false,gI]
  by_cases h2:au.cmp d[i]! d[i-1]!<0
  .rw[ai h2]at e⊢;exact⟨_,dg e⟩
  .rw[af h2]at e⊢;exact⟨t,(fg e).trans h⟩
theorem apD:∀(j:Nat) (d:Array α),(shiftDown aJ j d).size=d.size
 |0,_=>rfl
 |j+1,d=>by
  rw[apz];split
  .rw[apD j,size_swp]
  .rfl
theorem aGp{b:Nat}:∀(n j:Nat) (d:Array α),b-j=n->(shiftUp aJ b j d).size=d.size:=by
 intro n
 induction n with
 |zero=>intro j d h;rw[Vg,cl]
 |succ n ih=>
  intro j d h;rw[Vg,aU];split
  .rw[ih _ _ zO,size_swp]
  .rfl
theorem apE{a b i k:Nat}:∀(j:Nat) (d:Array α),j<d.size->d.size<1152921504606846976->
  ∃t,Loop (MS (au.E α) CC a b i k) ((j:Int),eA d)=some (t,eA (shiftDown aJ j d))
 |0,d,hj,hs=>⟨(0:Nat),dg (by
   simp (disch:=omega) only[MS,MR,un,aF,af];rfl)⟩
 |j+1,d,hj,hs=>by
  obtain⟨t,ih⟩:=apE (a:=a) (b:=b) (i:=i) (k:=k) j (swp d (j+1) j) (by rw[size_swp];omega) (by rw[size_swp];omega);rw[apz];have e:MS (au.E α) CC a b i k (((j+1:Nat):Int),eA d)=if au.cmp d[j+1]! d[j]!<0 then some (.inl ((j:Int),eA (swp d (j+1) j)))else some (.inr (((j+1:Nat):Int),eA d)):=by
   simp (disch:=omega) only[MS,MR,un,aF,dZ,kB,ai,af,wrap64,gA,ld,Int.toNat_natCast,Option.bind_some,lE,lF,au.re,lb,m9,mg,au.cs,V.bj,V.toInt_int,cond_true,cond_false,BF,gI];rfl
  by_cases h2:au.cmp d[j+1]! d[j]!<0
  .rw[ai h2]at e⊢;exact⟨t,(fg e).trans ih⟩
  .rw[af h2]at e⊢;exact⟨_,dg e⟩
theorem aGq{a b i k:Nat}:∀(n j:Nat) (d:Array α),b-j=n->1<=j->j<=b->b<=d.size->d.size<1152921504606846976->
  ∃t,Loop (MU (au.E α) CC a b i k) ((j:Int),eA d)=some (t,eA (shiftUp aJ b j d)):=by
 intro n
 induction n with
 |zero=>
  intro j d hn h1 hj hb hs;rw[Vg,cl];exact⟨(j:Int),dg (by
   simp (disch:=omega) only[MU,MT,un,aF,af])⟩
 |succ n ih=>
  intro j d hn h1 hj hb hs;obtain⟨t,h⟩:=ih (j+1) (swp d j (j-1)) zO zO zO (by rw[size_swp];omega) (by rw[size_swp];omega);rw[Vg,aU];have e:MU (au.E α) CC a b i k ((j:Int),eA d)=if au.cmp d[j]! d[j-1]!<0 then some (.inl (((j+1:Nat):Int),eA (swp d j (j-1))))else some (.inr ((j:Int),eA d)):=by
   simp (disch:=omega) only[MU,MT,un,pI,aF,dZ,kB,ai,af,wrap64,gA,ld,Int.toNat_natCast,Option.bind_some,lE,lF,au.re,lb,m9,mg,au.cs,V.bj,V.toInt_int,cond_true,cond_false,gI];rfl
  by_cases h2:au.cmp d[j]! d[j-1]!<0
  .rw[ai h2]at e⊢;exact⟨t,(fg e).trans h⟩
  .rw[af h2]at e⊢;exact⟨_,dg e⟩
theorem aGr{d:Array α}{b:Nat}:∀(n i:Nat),b-i=n->i<=b->i<=scanSorted aJ d b i∧scanSorted aJ d b i<=b:=by
 intro n
 induction n with
 |zero=>intro i hn hi;rw[Vf,cl];omega
 |succ n ih=>
  intro i hn hi;rw[Vf,aU];obtain⟨h1,h2⟩:=ih (i+1) zO zO;split<;>omega
theorem aGs{a b:Nat}:∀(s i:Nat) (d:Array α),s<=5->a<i->i<=b->b<=d.size->d.size<1152921504606846976->
  (Loop (Bs (au.E α) CC a b) ((i:Int),((5-s:Nat):Int),eA d)=some (.inl ((partialIns aJ a b s i d).2,eA (partialIns aJ a b s i d).1)))∨
  (∃x y z,(partialIns aJ a b s i d).2=false∧Loop (Bs (au.E α) CC a b) ((i:Int),((5-s:Nat):Int),eA d)=some (.inr (x,y,z,eA (partialIns aJ a b s i d).1))):=by
 intro s
 induction s with
 |zero=>
  intro i d hs5 hi hib hb hs;refine .inr ⟨(i:Int),((5:Nat):Int),false,rfl,dg ?_⟩;simp (disch:=omega) only[Bs,MV,un,zV,cond_false];rfl
 |succ s ih=>
  intro i d hs5 hi hib hb hs;obtain⟨t1,e1⟩:=aGo (a:=a) (j:=5-(s+1)) hb hs _ i rfl zO hib;obtain⟨q1,q2⟩:=aGr (d:=d) _ i rfl hib;rw[partialIns_succ];have f:Bs (au.E α) CC a b ((i:Int),((5-(s+1):Nat):Int),eA d)=Bs (au.E α) CC a b ((i:Int),((5-(s+1):Nat):Int),eA d):=rfl
  conv at f=>rhs;simp only[Bs,MV,un];rw[aF,aU,e1];simp only[Option.bind_some,un]
  generalize scanSorted aJ d b i=k at*
  by_cases h1:k=b
  .rw[ai h1];left;refine dg (f.trans ?_);rw[kb,aU]
  .rw[af h1];by_cases h2:b-a<50
   .rw[ai h2];left;refine dg (f.trans ?_);rw[kb,cl,dk,aF,aU]
   .rw[af h2];have z1:(swp d k (k-1)).size=d.size:=size_swp ..;have z2:(fixDown aJ a k (swp d k (k-1))).size=d.size:=by
     unfold fixDown;split
     .rw[apD,z1]
     .exact z1
    have z3:(fixUp aJ b k (fixDown aJ a k (swp d k (k-1)))).size=d.size:=by
     unfold fixUp;split
     .rw[aGp _ _ _ rfl,z2]
     .exact z2
    obtain⟨t2,e2⟩:=apE (a:=a) (b:=b) (i:=k) (k:=5-(s+1)) (k-1) (swp d k (k-1)) zO zO;obtain⟨t4,e4⟩:=aGq (a:=a) (b:=b) (i:=k) (k:=5-(s+1)) _ (k+1) (fixDown aJ a k (swp d k (k-1))) rfl zO zO zO zO;have e5:Bs (au.E α) CC a b ((i:Int),((5-(s+1):Nat):Int),eA d)=some (.inl ((k:Int),((5-s:Nat):Int),eA (fixUp aJ b k (fixDown aJ a k (swp d k (k-1)))))):=by
     refine f.trans ?_;rw[kb,cl,dk,aF,cl];simp (disch:=omega) only[aF,dZ,ai,lE,lF,Int.toNat_natCast,Option.bind_some,au.re,lb,m9,mg,pI,gA,tx,wrap64,HA,T7];rw[show 5-(s+1)+1=5-s by omega];unfold fixDown at e4⊢;unfold fixUp;have c1:(((k-a:Nat):Int)>=2)=(k-a>=2):=propext zO;have c2:(((b-k:Nat):Int)>=2)=(b-k>=2):=propext zO;simp only[c1,c2];by_cases g1:k-a>=2
     .by_cases g2:b-k>=2
      .simp only[g1,g2,jZ,e2,Option.bind_some,un]at e4⊢;rw[e4];rfl
      .simp only[g1,g2,jZ,mE,e2,Option.bind_some,un]
     .by_cases g2:b-k>=2
      .simp only[g1,g2,jZ,mE]at e4⊢;rw[e4];rfl
      .exact absurd (show b-k>=2 by omega) g2
    rw[fg e5];exact ih k _ zO zO zO zO zO
theorem apF{a b:Nat}{d:Array α}(kS:a<b)(hb:b<=d.size)(hs:d.size<1152921504606846976):
  CC ((au.E α).k 6) [vI a,vI b,.list (au.E α).T (eA d)]=
   some [.bool (partialInsertionSort aJ d a b).2,.list (au.E α).T (eA (partialInsertionSort aJ d a b).1)]:=by
 refine au.apn ?_;unfold acD;simp (disch:=omega) only[gA,wrap64];rcases aGs (a:=a) (b:=b) 5 (a+1) d (aC _) zO zO hb hs with h|⟨x,y,z,h0,h⟩
 .rw[show((5-5:Nat):Int)=0 from rfl]at h;rw[h];rfl
 .rw[show((5-5:Nat):Int)=0 from rfl]at h;rw[h];unfold partialInsertionSort;rw[h0];rfl
end
section
set_option maxHeartbeats 4000000
open Go.Sort
variable {α:Type}[au α]
theorem apG(a b:α):(aJ a b=false)= ¬(au.cmp a b<0):=by rw[<-BH];simp
theorem HB:SWO (aJ (α:=α)):=au.swo
variable [Inhabited α]
def Vh:List UInt8:=FV
theorem aGt:(List.range 256).all (fun y=>match Vh[y]?with|some b=>decide (b.toNat<=8)&&(Nat.beq y 0||(decide (1<=b.toNat)&&decide (2^(b.toNat-1)<=y)))|none=>false)=true:=by decide+kernel
theorem apH{y:Nat}(h:y<256):∃b,Vh[y]?=some b∧b.toNat<=8∧(0<y->1<=b.toNat∧2^(b.toNat-1)<=y):=by
 have:=il.1 aGt y (lj.2 h);cases hb:Vh[y]?with
 |none=>rw[hb]at this;cases this
 |some b=>
  rw[hb]at this;simp only[aZ,ri,fp]at this;refine⟨b,rfl,this.1,fun hy=>?_⟩;rcases this.2 with h2|h2
  .have:=HW h2;omega
  .exact h2
theorem aet{y t k:Nat}(h:2^(t-1)<=y/2^k)(ht:1<=t):2^(t+k-1)<=y:=by
 have e:t+k-1=(t-1)+k:=zO;rw[e,Nat.pow_add];exact mD (fE _ h) (Nat.div_mul_le_self _ _)
noncomputable def HC(y n:Int):Option (LV):=
(bif decide ((y:Int)>=256)then
    (bif decide (0<=(IntKind.wrap .u8 (Int.fdiv y (2^(min (8:Int).toNat kU)))))then(FV[(IntKind.wrap .u8 (Int.fdiv y (2^(min (8:Int).toNat kU))):Int).toNat]?).map fun b=>V.int .u8 b.toNat else none).bind fun x5=>
    some [vI (wI ((wI (n+8))+(wI x5.toInt)))]
   else
    (bif decide (0<=(IntKind.wrap .u8 y))then(FV[(IntKind.wrap .u8 y:Int).toNat]?).map fun b=>V.int .u8 b.toNat else none).bind fun x6=>
    some [vI (wI (n+(wI x6.toInt)))])
theorem aGu{x:Nat}(h:x<2^64):∃L:Nat,CC 150 [.int .u64 x]=some [vI L]∧L<=64∧(0<x->1<=L∧2^(L-1)<=x):=by
 have last:∀y n:Nat,y<65536->n<=48->∃t:Nat,
   HC (y:Int) (n:Int)=some [vI (n+t:Nat)]∧t<=16∧(0<y->1<=t∧2^(t-1)<=y):=by
  intro y n hy hn;unfold HC;rw[show FV=Vh from rfl];by_cases h1:y>=256
  .have e:Int.fdiv (y:Int) (2^(min (8:Int).toNat kU))=((y/2^8:Nat):Int):=FU (m:=8) zO;obtain⟨b,hb,b1,b2⟩:=apH (y:=y/2^8) zO;refine⟨b.toNat+8,?_,zO,fun _=>?_⟩
   .rw[e,aF,aU,X4 zO zO,aF,aU,Int.toNat_natCast,hb];simp only[Option.map_some,Option.bind_some,V.toInt_int];simp (disch:=omega) only[wrap64];congr 3;omega
   .obtain⟨b3,b4⟩:=b2 zO;exact⟨zO,aet b4 b3⟩
  .obtain⟨b,hb,b1,b2⟩:=apH (y:=y) zO;refine⟨b.toNat,?_,zO,b2⟩;rw[aF,cl,X4 zO zO,aF,aU,Int.toNat_natCast,hb];simp (disch:=omega) only[Option.map_some,Option.bind_some,V.toInt_int,wrap64];congr 3
 have mid:∀y n:Nat,y<4294967296->n<=32->∃t:Nat,∀F:Int->Int->Option (LV),
   (∀y n:Nat,y<65536->n<=48->∃t:Nat,F (y:Int) (n:Int)=some [vI (n+t:Nat)]∧t<=16∧(0<y->1<=t∧2^(t-1)<=y))->
   ∃t:Nat,DU CC (y:Int) (n:Int) (decide (((y:Int):Int)>=65536)) (un F)=some [vI (n+t:Nat)]∧t<=32∧(0<y->1<=t∧2^(t-1)<=y):=by
  intro y n hy hn;refine⟨0,fun F hF=>?_⟩;unfold DU;by_cases h1:y>=65536
  .have e:Int.fdiv (y:Int) (2^(min (16:Int).toNat kU))=((y/2^16:Nat):Int):=FU (m:=16) zO;rw[aF,aU,e,dk];obtain⟨t,h2,h3,h4⟩:=hF (y/2^16) (n+16) zO zO;refine⟨t+16,?_,zO,fun _=>?_⟩
   .rw[show((n:Int)+16)=((n+16:Nat):Int) by omega];simp only[un];rw[h2];congr 3;omega
   .obtain⟨b3,b4⟩:=h4 zO;exact⟨zO,aet b4 b3⟩
  .rw[aF,cl];obtain⟨t,h2,h3,h4⟩:=hF y n zO zO;exact⟨t,h2,zO,h4⟩
 by_cases h1:x>=4294967296
 .have e:Int.fdiv (x:Int) (2^(min (32:Int).toNat kU))=((x/2^32:Nat):Int):=FU (m:=32) zO;obtain⟨_,hm⟩:=mid (x/2^32) 32 zO zO;obtain⟨t,h2,h3,h4⟩:=hm HC last;refine⟨32+t,amn ?_,zO,fun _=>?_⟩
  .show DT CC (x:Int) 0 (decide (((x:Int):Int)>=4294967296)) (un fun(jJ:Int) (cL:Int)=>DU CC jJ cL (decide ((jJ:Int)>=65536)) (un HC))=_;unfold DT;rw[aF,aU,e];exact h2
  .obtain⟨b3,b4⟩:=h4 zO;rw[B9 32 t];exact⟨zO,aet b4 b3⟩
 .obtain⟨_,hm⟩:=mid x 0 zO zO;obtain⟨t,h2,h3,h4⟩:=hm HC last;refine⟨t,amn ?_,zO,h4⟩;show DT CC (x:Int) 0 (decide (((x:Int):Int)>=4294967296)) (un fun(jJ:Int) (cL:Int)=>DU CC jJ cL (decide ((jJ:Int)>=65536)) (un HC))=_;unfold DT;rw[aF,cl];rw[dT]at h2;exact h2
theorem apI{x:Nat}(h:x<2^64):∃L:Nat,CC 131 [.int .u64 x]=some [vI L]∧L<=64∧(0<x->1<=L∧2^(L-1)<=x):=by
 obtain⟨L,h1,h2⟩:=aGu h;refine⟨L,azi ?_,h2⟩;unfold aml;rw[h1];rfl
theorem aGv{x:Nat}(h0:0<x)(h:x<1152921504606846976):∃M:Nat,CC 161 [vI x]=some [.int .u64 M]∧1<=M∧M<=2*x:=by
 obtain⟨L,h1,h2,h3⟩:=apI (x:=x) zO;obtain⟨h4,h5⟩:=h3 h0;have e:2^L=2*2^(L-1):=by
  obtain⟨k,rfl⟩:∃k,L=k+1:=⟨L-1,zO⟩
  rw[Nat.pow_succ];simp only[Af];omega
 have hL:L<64:=by
  by_cases hx:L<64
  .exact hx
  .have:2^63<=2^(L-1):=pK zO zO;omega
 refine⟨2^L,azh ?_,uT zS,zO⟩;unfold amk;rw[sY (A:=x) zO,h1];simp only[Option.bind_some,V.bj,V.toInt_int,gI,gL,gB];rw[aF,aU,Int.toNat_natCast,A0 hL]
theorem aGw(r:Int):∃R:Nat,CC 162 [.int .u64 r]=some [.int .u64 R,.int .u64 R]∧R<2^64:=by
 have h:∀n:Int,∃R:Nat,wU n=(R:Int)∧R<2^64:=fun n=>⟨(wU n).toNat,by unfold wU;rw[wrap_u64];omega,by unfold wU;rw[wrap_u64];omega⟩
 obtain⟨R,h1,h2⟩:=h _;exact⟨R,azg (by unfold amj;rw[h1]),h2⟩
theorem Vi{d:Array α}{i:Nat}(h:i<d.size):idx (eA d) (i:Int)=some (au.enc (d[i]!)):=by rw[C7,lF h]
theorem aeu{d:Array α}{a b:Nat}{s:Int}(ha:a<d.size)(hb:b<d.size):∃(x y:Nat) (s':Int),CC ((au.E α).k 10) [.list (au.E α).T (eA d),vI a,vI b,vI s]=some [vI x,vI y,vI s']∧(x=a∧y=b∨x=b∧y=a):=by
 by_cases h:au.cmp d[b]! d[a]!<0
 .refine⟨b,a,_,au.aep (by unfold Ua;rw[Vi hb,Vi ha];simp only[Option.bind_some,au.re,au.cs,V.bj,V.toInt_int,gI,gL,gB];rw[aF,ai h]),.inr ⟨rfl,rfl⟩⟩
 .refine⟨a,b,_,au.aep (by unfold Ua;rw[Vi hb,Vi ha];simp only[Option.bind_some,au.re,au.cs,V.bj,V.toInt_int,gI,gL,gB];rw[aF,af h]),.inl ⟨rfl,rfl⟩⟩
theorem aev{d:Array α}{a b c:Nat}{s:Int}(ha:a<d.size)(hb:b<d.size)(hc:c<d.size):∃(m:Nat) (s':Int),CC ((au.E α).k 8) [.list (au.E α).T (eA d),vI a,vI b,vI c,vI s]=some [vI m,vI s']∧(m=a∨m=b∨m=c):=by
 obtain⟨x1,y1,s1,e1,o1⟩:=aeu (s:=s) ha hb;obtain⟨x2,y2,s2,e2,o2⟩:=aeu (d:=d) (a:=y1) (b:=c) (s:=s1) zO hc;obtain⟨x3,y3,s3,e3,o3⟩:=aeu (d:=d) (a:=x1) (b:=x2) (s:=s2) zO zO;refine⟨y3,s3,au.apq ?_,zO⟩;unfold acG;rw[e1];simp only[Option.bind_some,V.bj,V.y9,V.toInt_int,iR,gK,gI,gL,gB,uh,bM,hD,eu,fV];rw[e2];simp only[Option.bind_some,V.bj,V.y9,V.toInt_int,iR,gK,gI,gL,gB,uh,bM,hD,eu,fV];rw[e3];rfl
theorem aew{d:Array α}{a:Nat}{s:Int}(h1:1<=a)(ha:a+1<d.size)(hs:d.size<1152921504606846976):∃(m:Nat) (s':Int),CC ((au.E α).k 9) [.list (au.E α).T (eA d),vI a,vI s]=some [vI m,vI s']∧a<=m+1∧m<=a+1:=by
 obtain⟨m,s',e,o⟩:=aev (d:=d) (a:=a-1) (b:=a) (c:=a+1) (s:=s) zO zO zO;refine⟨m,s',au.apr ?_,zO,zO⟩;unfold acH;simp (disch:=omega) only[pI,gA,wrap64];rw[e];rfl
theorem aex(n:Nat):Int.tdiv (n:Int) 4=((n/4:Nat):Int):=by
 have:=divC n 4;exact this
theorem mulC(k n:Nat):((k:Nat):Int)*(n:Int)=((k*n:Nat):Int):=(Int.natCast_mul k n).symm
theorem aGx{d:Array α}{a b:Nat}(kS:a+12<b)(hb:b<=d.size)(hs:d.size<1152921504606846976):∃(p:Nat) (h:Int),CC ((au.E α).k 11) [.list (au.E α).T (eA d),vI a,vI b]=some [vI p,vI h]∧a<=p∧p<b:=by
 have fin:∀(p:Nat) (s:Int),∃h:Int,(bif(s:Int)==0 then some [vI p,vI 1]else bif(s:Int)==12 then some [vI p,vI 2]else some [vI p,vI 0])=some [vI p,vI h]:=by
  intro p s;rw[kb];split
  .exact⟨1,rfl⟩
  .rw[kb];split
   .exact⟨2,rfl⟩
   .exact⟨0,rfl⟩
 have e1:wI ((b:Int)-(a:Int))=((b-a:Nat):Int):=by rw[tx zO,dk]
 have e2:wI (Int.tdiv ((b-a:Nat):Int) 4)=(((b-a)/4:Nat):Int):=by rw[aex,dk]
 have e3:∀k:Nat,k<=3->wI ((a:Int)+wI ((k:Int)*(((b-a)/4:Nat):Int)))=((a+k*((b-a)/4):Nat):Int):=by
  intro k hk;have xg:k*((b-a)/4)<=3*((b-a)/4):=fE _ hk;simp (disch:=omega) only[mulC,wrap64,ld]
 have e31:=e3 1 zO;have BI:=e3 2 zO;have e33:=e3 3 zO;rw[show((1:Nat):Int)=1 from rfl]at e31;rw[show((2:Nat):Int)=2 from rfl]at BI;rw[show((3:Nat):Int)=3 from rfl]at e33;by_cases h50:b-a>=50
 .obtain⟨m1,s1,q1,r1⟩:=aew (d:=d) (a:=a+1*((b-a)/4)) (s:=0) zO zO hs;obtain⟨m2,s2,q2,r2⟩:=aew (d:=d) (a:=a+2*((b-a)/4)) (s:=s1) zO zO hs;obtain⟨m3,s3,q3,r3⟩:=aew (d:=d) (a:=a+3*((b-a)/4)) (s:=s2) zO zO hs;obtain⟨m,s,q,r⟩:=aev (d:=d) (a:=m1) (b:=m2) (c:=m3) (s:=s3) zO zO zO;obtain⟨h,hf⟩:=fin m s;refine⟨m,h,au.aeq ?_,zO,zO⟩;unfold Ub MZ MY;rw[e1,e2,e31,BI,e33,uK zO,cond_true,uK zO,cond_true,q1];simp only[Option.bind_some,V.bj,V.y9,V.toInt_int,iR,gK,gI,gL,gB,uh,bM,hD,eu,fV];rw[q2];simp only[Option.bind_some,V.bj,V.y9,V.toInt_int,iR,gK,gI,gL,gB,uh,bM,hD,eu,fV];rw[q3];simp only[Option.bind_some,V.bj,V.y9,V.toInt_int,iR,gK,un,gI,gL,gB,uh,bM,hD,eu,fV];rw[q];exact hf
 .obtain⟨m,s,q,r⟩:=aev (d:=d) (a:=a+1*((b-a)/4)) (b:=a+2*((b-a)/4)) (c:=a+3*((b-a)/4)) (s:=0) zO zO zO;obtain⟨h,hf⟩:=fin m s;refine⟨m,h,au.aeq ?_,zO,zO⟩;unfold Ub MZ MY;rw[e1,e2,e31,BI,e33,uK zO,cond_true,zV zO,cond_false];simp only[un];rw[q];exact hf
theorem aGy{a b M:Nat}(hM1:1<=M)(hM:M<=2*(b-a))(h8:8<=b-a)(hB:b<1152921504606846976):∀(n i:Nat) (d:Array α) (r:Int),a+2*((b-a)/4)+2-i=n->a<=i->b<=d.size->d.size<1152921504606846976->
  ∃x y z R,Loop (T9 (au.E α) CC a (b-a:Nat) M) ((i:Int),eA d,r)=some (x,y,eA R,z)∧PermIn a b d R:=by
 have e2:wI (Int.tdiv ((b-a:Nat):Int) 4)=(((b-a)/4:Nat):Int):=by rw[aex,dk]
 have BI:wI ((a:Int)+wI (2*(((b-a)/4:Nat):Int)))=((a+2*((b-a)/4):Nat):Int):=by
  have:=mulC 2 ((b-a)/4);rw[show((2:Nat):Int)=2 from rfl]at this;rw[this];simp (disch:=omega) only[wrap64,ld]
 intro n
 induction n with
 |zero=>
  intro i d r hn hi hb hs;refine⟨(i:Int),false,r,d,dg ?_,permIn_refl _ _ _⟩;simp only[T9,MX,un];rw[e2,BI,gA,dk,zV zO,cond_false]
 |succ n ih=>
  intro i d r hn hi hb hs;obtain⟨R1,q1,q2⟩:=aGw r;obtain⟨o,ho,sL⟩:∃o:Nat,(o=if R1&&&(M-1)>=b-a then(R1&&&(M-1))-(b-a)else R1&&&(M-1))∧o<b-a:=by
   refine⟨_,rfl,?_⟩;have:R1&&&(M-1)<=M-1:=Nat.and_le_right;split<;>omega
  have hand:R1&&&(M-1)<=M-1:=Nat.and_le_right;have hP:=swp_permIn (α:=α) d a b i (a+o) hi zO zO zO hb;obtain⟨x,y,z,R,e,hR⟩:=ih (i+1) (swp d i (a+o)) (R1:Int) zO zO (by rw[size_swp];exact hb) (by rw[size_swp];exact hs);refine⟨x,y,z,R,(fg ?_).trans e,permIn_trans _ _ _ a b hP hR⟩;simp only[T9,MX,un];rw[e2,BI,gA,wrap64 (x:=((a+2*((b-a)/4)+1:Nat):Int)) zO zO,uK zO,cond_true,q1];simp only[Option.bind_some,V.bj,V.y9,V.toInt_int,iR,gK,gI,gL,gB,uh,bM,hD,eu,fV];have e5:wU ((M:Int)-1)=((M-1:Nat):Int):=by rw[pI hM1,sY zO]
  rw[e5,u64_and q2 zO,wrap64 (x:=((R1&&&(M-1):Nat):Int)) zO zO];have fin:∀k:Int,k=(o:Int)->(bif(decide (0<=(wI ((a:Int)+k))))&&(decide ((wI ((a:Int)+k))<((eA d).length:Int)))then
   ((eA d)[(wI ((a:Int)+k):Int).toNat]?).bind fun x4=>
   bif(decide (0<=(i:Int)))&&(decide ((i:Int)<((eA d).length:Int)))then
    ((eA d)[((i:Int):Int).toNat]?).bind fun x5=>
    bif(decide (0<=(i:Int)))&&(decide ((i:Int)<((eA d).length:Int)))then
    ((eA d)[((i:Int):Int).toNat]?).bind fun x6=>
    bif(decide (0<=(wI ((a:Int)+k))))&&(decide ((wI ((a:Int)+k))<(((eA d).set (((i:Int):Int).toNat) (.agg ((au.E α).ex x4))).length:Int)))then
     (((eA d).set (((i:Int):Int).toNat) (.agg ((au.E α).ex x4)))[(wI ((a:Int)+k):Int).toNat]?).bind fun x7=>
     some (.inl (wI ((i:Int)+1),((eA d).set (((i:Int):Int).toNat) (.agg ((au.E α).ex x4))).set ((wI ((a:Int)+k):Int).toNat) (.agg ((au.E α).ex x5)),(R1:Int)))
    else none
    else none
   else none
   else none:Option ((Int×LV×Int)⊕(Int×Bool×LV×Int)))=some (.inl (((i+1:Nat):Int),eA (swp d i (a+o)),(R1:Int))):=by
   intro k hk;subst hk;simp (disch:=omega) only[aF,dZ,kB,ai,af,wrap64,gA,ld,Int.toNat_natCast,Option.bind_some,lE,lF,au.re,lb,m9,mg,au.cs,V.bj,V.toInt_int,cond_true,cond_false,gI,gL,gB];rfl
  unfold T8;by_cases h:R1&&&(M-1)>=b-a
  .rw[ai h]at ho;rw[uK zO,cond_true];exact fin _ (by rw[tx zO,dk];omega)
  .rw[af h]at ho;rw[zV zO,cond_false];exact fin _ zO
theorem aGz{a b:Nat}{d:Array α}(kS:a+12<b)(hb:b<=d.size)(hs:d.size<1152921504606846976):∃R,CC ((au.E α).k 7) [vI a,vI b,.list (au.E α).T (eA d)]=some [.list (au.E α).T (eA R)]∧PermIn a b d R:=by
 obtain⟨M,q1,q2,q3⟩:=aGv (x:=b-a) zO zO;have e1:wI ((b:Int)-(a:Int))=((b-a:Nat):Int):=by rw[tx zO,dk]
 have e2:wI (Int.tdiv ((b-a:Nat):Int) 4)=(((b-a)/4:Nat):Int):=by rw[aex,dk]
 have BI:wI ((a:Int)+wI (2*(((b-a)/4:Nat):Int)))=((a+2*((b-a)/4):Nat):Int):=by
  have:=mulC 2 ((b-a)/4);rw[show((2:Nat):Int)=2 from rfl]at this;rw[this];simp (disch:=omega) only[wrap64,ld]
 obtain⟨x,y,z,R,e,hR⟩:=aGy (a:=a) (b:=b) (M:=M) q2 q3 zO zO _ (a+2*((b-a)/4)-1) d (wU ((b-a:Nat):Int)) rfl zO hb hs;refine⟨R,au.apo ?_,hR⟩;unfold acF;rw[e1,aF,aU,q1];simp only[Option.bind_some,V.bj,V.toInt_int,gI,gL,gB];rw[e2,BI,pI zO,wrap64 (x:=((a+2*((b-a)/4)-1:Nat):Int)) zO zO,e];rfl
section
variable {a b:Nat}{lim:Int}{wb wp:Bool}
theorem aGA{d:Array α}(kS:a+12<b)(hb:b<=d.size)(hs:d.size<1152921504606846976)(len:Int)(t:Bool):∃(l1:Int) (d1:Array α),PermIn a b d d1∧∀(β:Type) (kr:(Int×LV)->Option β),M0 (au.E α) CC a b lim wb wp len t (eA d) kr=kr (l1,eA d1):=by
 cases t with
 |true=>
  obtain⟨R,e,hR⟩:=aGz kS hb hs;refine⟨wI (lim-1),R,hR,fun β kr=>?_⟩;unfold M0;rw[cond_true,e];rfl
 |false=>exact⟨lim,d,permIn_refl _ _ _,fun β kr=>rfl⟩
theorem aGB{d:Array α}(kS:a+12<b)(hb:b<=d.size)(hs:d.size<1152921504606846976)(len h:Int)(t:Bool){p:Nat}(h1:a<=p)(h2:p<b):∃(p2:Nat) (h2:Int) (d1:Array α),a<=p2∧p2<b∧PermIn a b d d1∧∀(β:Type) (kr:(Int×Int×LV)->Option β),M1 (au.E α) CC a b lim wb wp len p h t (eA d) kr=kr ((p2:Int),h2,eA d1):=by
 cases t with
 |true=>
  refine⟨b-1-(p-a),1,reverseRange d a b,zO,zO,reverseRange_holds d a b zO hb,fun β kr=>?_⟩;unfold M1;rw[cond_true,aGg zO hb hs];simp (disch:=omega) only[Option.bind_some,V.bj,V.dD,pI,tx,wrap64,gI,gL,gB]
 |false=>exact⟨p,h,d,h1,h2,permIn_refl _ _ _,fun β kr=>rfl⟩
theorem aGC{d:Array α}(kS:a+12<b)(hb:b<=d.size)(hs:d.size<1152921504606846976)(hB:Below aJ a b d)(len p:Int)(t:Bool):∃d1:Array α,PermIn a b d d1∧
  ((∀(β:Type) (kr:((Bool×LV)⊕LV)->Option β),xR (au.E α) CC a b lim wb wp len p t (eA d) kr=kr (.inr (eA d1)))∨
  (SortedIn aJ a b d1∧∀(β:Type) (kr:((Bool×LV)⊕LV)->Option β),xR (au.E α) CC a b lim wb wp len p t (eA d) kr=kr (.inl (true,eA d1)))):=by
 cases t with
 |true=>
  have hp:=partialInsertionSort_holds (lt:=aJ) HB d a b zO hb hB;refine⟨_,hp.1,?_⟩;cases h:(partialInsertionSort aJ d a b).2 with
  |true=>
   refine .inr ⟨hp.2 h,fun β kr=>?_⟩;unfold xR;rw[cond_true,apF zO hb hs,h];rfl
  |false=>
   refine .inl fun β kr=>?_;unfold xR;rw[cond_true,apF zO hb hs,h];rfl
 |false=>exact⟨d,permIn_refl _ _ _,.inl fun β kr=>rfl⟩
end
def Vj(a b:Nat)(d:Array α):Prop:=∀(lim:Int) (wb wp:Bool),∃R,Loop (ami (au.E α) CC) ((a:Int),(b:Int),lim,wb,wp,eA d)=some (eA R)∧PermIn a b d R∧SortedIn aJ a b R
theorem Vj.aey{a b:Nat}{d:Array α}(h:Vj a b d)(lim:Int):∃R,CC ((au.E α).k 12) [vI a,vI b,vI lim,.list (au.E α).T (eA d)]=some [.list (au.E α).T (eA R)]∧PermIn a b d R∧SortedIn aJ a b R:=by
 obtain⟨R,e,h1,h2⟩:=h lim true true;refine⟨R,au.aps ?_,h1,h2⟩;unfold acI;rw[e];rfl
theorem aGD{a b p:Nat}{d:Array α}(kS:a+12<b)(hb:b<=d.size)(hs:d.size<1152921504606846976)(hB:Below aJ a b d)(h1:a<=p)(h2:p<b)
  (ih:∀(a2 b2:Nat) (d2:Array α),b2-a2<b-a->a2<=b2->b2<=d2.size->d2.size<1152921504606846976->Below aJ a2 b2 d2->Vj a2 b2 d2) (wb wp:Bool) (lim:Int):
  ∃(a2 b2:Nat) (Et Eu:Bool) (d2:Array α),b2-a2<b-a∧a2<=b2∧b2<=d2.size∧d2.size<1152921504606846976∧Below aJ a2 b2 d2∧
   (∀R,PermIn a2 b2 d2 R->SortedIn aJ a2 b2 R->PermIn a b d R∧SortedIn aJ a b R)∧
   ∀(β:Type) (kn:(Int×Int×Int×Bool×Bool×(LV))->Option β),Bt a (eA d) p CC (au.E α) b lim wb wp kn=kn ((a2:Int),(b2:Int),lim,Et,Eu,eA d2):=by
 have part:∃(a2 b2:Nat) (Et Eu:Bool) (d2:Array α),b2-a2<b-a∧a2<=b2∧b2<=d2.size∧d2.size<1152921504606846976∧Below aJ a2 b2 d2∧
   (∀R,PermIn a2 b2 d2 R->SortedIn aJ a2 b2 R->PermIn a b d R∧SortedIn aJ a b R)∧
   ∀(β:Type) (kn:(Int×Int×Int×Bool×Bool×(LV))->Option β),
    M3 CC (au.E α) (a:Int) (b:Int) (p:Int) (eA d) lim kn=kn ((a2:Int),(b2:Int),lim,Et,Eu,eA d2):=by
  obtain⟨mid,ap,d4,hx⟩:∃mid ap d4,partition aJ d a b p=(mid,ap,d4):=⟨_,_,_,rfl⟩
  obtain⟨g1,g2,v8,hBa,hBr,aGE,aGF⟩:=round_part HB (partition_holds aJ) h1 h2 hb hB hx;have hc:=aGl (a:=a) (b:=b) (pivot:=p) (d:=d) h2 zO hb hs;rw[hx]at hc;by_cases hl:mid-a<b-mid
  .obtain⟨L,e,l1,l2⟩:=(ih a mid d4 zO g1 (by rw[v8];omega) (by rw[v8];exact hs) hBa).aey lim;obtain⟨hBL,uG⟩:=aGE _ l1 l2;refine⟨mid+1,b,decide (((wI ((mid:Int)-(a:Int))):Int)>=(wI (Int.tdiv (wI ((b:Int)-(a:Int))) 8))),ap,L,zO,zO,by rw[l1.1,v8];exact hb,by rw[l1.1,v8];exact hs,hBL,uG,fun β kn=>?_⟩
   .rw[M3,hc];simp only[Option.bind_some,V.bj,V.y9,V.toInt_int,V.iM,V.dD,iR,gK,gI,gL,gB,uh,bM,hD,eu,fV];rw[aF,ai (by rw[tx g1,tx zO,wrap64 zO zO,wrap64 zO zO];omega),e];simp only[Option.bind_some,V.bj,V.dD,gI,gL,gB];rw[gA,wrap64 (x:=((mid+1:Nat):Int)) zO zO]
  .obtain⟨L,e,l1,l2⟩:=(ih (mid+1) b d4 zO zO (by rw[v8];exact hb) (by rw[v8];exact hs) hBr).aey lim;obtain⟨hBL,uG⟩:=aGF _ l1 l2;refine⟨a,mid,decide (((wI ((b:Int)-(mid:Int))):Int)>=(wI (Int.tdiv (wI ((b:Int)-(a:Int))) 8))),ap,L,zO,zO,by rw[l1.1,v8];omega,by rw[l1.1,v8];exact hs,hBL,uG,fun β kn=>?_⟩
   .rw[M3,hc];simp only[Option.bind_some,V.bj,V.y9,V.toInt_int,V.iM,V.dD,iR,gK,gI,gL,gB,uh,bM,hD,eu,fV];rw[aF,af (by rw[tx g1,tx zO,wrap64 zO zO,wrap64 zO zO];omega),gA,wrap64 (x:=((mid+1:Nat):Int)) zO zO,e];simp only[Option.bind_some,V.bj,V.dD,gI,gL,gB]
 by_cases ha:0<a
 .by_cases hc:au.cmp d[a-1]! d[p]!<0
  .obtain⟨a2,b2,Et,Eu,d2,q1,q2,q3,q4,q5,q6,q7⟩:=part;refine⟨a2,b2,Et,Eu,d2,q1,q2,q3,q4,q5,q6,fun β kn=>?_⟩;rw[<-q7 β kn];unfold Bt;rw[aF,aU,pI ha,dk,qp (i:=a-1),qp (i:=p)];simp only[au.re,au.cs,Option.bind_some,V.bj,V.toInt_int,gI,gL,gB];rw[kB,aF,ai hc]
  .obtain⟨mid,d4,hx⟩:∃mid d4,partitionEqual aJ d a b p=(mid,d4):=⟨_,_,rfl⟩
   obtain⟨g1,mL,v8,hB4,uG⟩:=round_eq HB (partitionEqual_holds aJ) ha h1 h2 hb hB (by rw[apG];exact hc) hx;have he:=aGn (a:=a) (b:=b) (pivot:=p) (d:=d) h2 zO hb hs;rw[hx]at he;refine⟨mid,b,wb,wp,d4,zO,mL,by rw[v8];exact hb,by rw[v8];exact hs,hB4,uG,fun β kn=>?_⟩;unfold Bt;rw[aF,aU,pI ha,dk,qp (i:=a-1),qp (i:=p)];simp only[au.re,au.cs,Option.bind_some,V.bj,V.toInt_int,gI,gL,gB];rw[kB,aF,af hc,he];rfl
 .obtain⟨a2,b2,Et,Eu,d2,q1,q2,q3,q4,q5,q6,q7⟩:=part;refine⟨a2,b2,Et,Eu,d2,q1,q2,q3,q4,q5,q6,fun β kn=>?_⟩;rw[<-q7 β kn];unfold Bt;rw[aF,cl]
theorem aGG:∀(n a b:Nat) (d:Array α),b-a<=n->a<=b->b<=d.size->d.size<1152921504606846976->Below aJ a b d->Vj a b d:=by
 intro n
 induction n with
 |zero=>
  intro a b d hn kS hb hs hB lim wb wp;have hi:=insertionSort_holds (lt:=aJ) HB d a b kS hb;refine⟨_,dg ?_,hi⟩;show tp (au.E α) CC a b lim wb wp (eA d) (fun y=>some (Sum.inl y)) (fun r=>some (Sum.inr r))=_;rw[tp,aF,ai (by rw[tx kS,wrap64 zO zO];omega),apv hb hs zO];rfl
 |succ n ih=>
  intro a b d hn kS hb hs hB lim wb wp;by_cases h12:b-a<=12
  .have hi:=insertionSort_holds (lt:=aJ) HB d a b kS hb;refine⟨_,dg ?_,hi⟩;show tp (au.E α) CC a b lim wb wp (eA d) (fun y=>some (Sum.inl y)) (fun r=>some (Sum.inr r))=_;rw[tp,aF,ai (by rw[tx kS,wrap64 zO zO];omega),apv hb hs zO];rfl
  .have OI:a+12<b:=zO;have CT:¬(((wI ((b:Int)-(a:Int))):Int)<=12):=by rw[tx kS,dk];omega
   by_cases h0:lim=0
   .have hi:=heapSort_holds (lt:=aJ) HB d a b kS hb;refine⟨_,dg ?_,hi⟩;show tp (au.E α) CC a b lim wb wp (eA d) (fun y=>some (Sum.inl y)) (fun r=>some (Sum.inr r))=_;rw[tp,aF,af CT,kb,ai h0,aGe zO hb hs];rfl
   .obtain⟨l1,d1,s1,k1⟩:=aGA (lim:=lim) (wb:=wb) (wp:=wp) OI hb hs (wI ((b:Int)-(a:Int))) (!wb);have b1:b<=d1.size:=by rw[s1.1];exact hb
    have z1:d1.size<1152921504606846976:=by rw[s1.1];exact hs
    obtain⟨p,h,c1,p1,p2⟩:=aGx OI b1 z1;obtain⟨q,h2,d2,q1,q2,s2,k2⟩:=aGB (lim:=l1) (wb:=wb) (wp:=wp) OI b1 z1 (wI ((b:Int)-(a:Int))) h (h==2) p1 p2;have b2:b<=d2.size:=by rw[s2.1];exact b1
    have z2:d2.size<1152921504606846976:=by rw[s2.1];exact z1
    have B2:Below aJ a b d2:=(hB.perm hb s1).perm b1 s2;obtain⟨t,ht⟩:∃t:Bool,t=(bif wb then(bif wp then(h2==1)else false)else false):=⟨_,rfl⟩
    obtain⟨d3,s3,k3⟩:=aGC (lim:=l1) (wb:=wb) (wp:=wp) OI b2 z2 B2 (wI ((b:Int)-(a:Int))) (q:Int) t;have b3:b<=d3.size:=by rw[s3.1];exact b2
    have z3:d3.size<1152921504606846976:=by rw[s3.1];exact z2
    have B3:Below aJ a b d3:=B2.perm b2 s3;have P3:PermIn a b d d3:=permIn_trans _ _ _ a b (permIn_trans _ _ _ a b s1 s2) s3;have step:∀(β:Type) (kn:(Int×Int×Int×Bool×Bool×(LV))->Option β) (kr:(LV)->Option β),tp (au.E α) CC a b lim wb wp (eA d) kn kr=
      xR (au.E α) CC a b l1 wb wp (wI ((b:Int)-(a:Int))) (q:Int) t (eA d2) (db (un fun(ak3:Bool) (aGH:LV)=>kr aGH) (fun(acz:LV)=>Bt a acz q CC (au.E α) b l1 wb wp kn)):=by
     intro β kn kr;rw[tp,aF,af CT,kb,af h0,k1];simp only[un];rw[c1];simp only[Option.bind_some,V.bj,V.y9,V.toInt_int,iR,gK,gI,gL,gB,uh,bM,hD,eu,fV];rw[k2];simp only[un];rw[ht];cases wb
     .rfl
     .cases wp
      .rfl
      .rfl
    rcases k3 with k3|⟨k3s,k3⟩
    .obtain⟨a4,b4,wb4,wp4,d4,r1,r2,r3,r4,r5,r6,r7⟩:=aGD OI b3 z3 B3 q1 q2 (fun a2 b2 d2 bt h1 h2 h3 h4=>ih a2 b2 d2 zO h1 h2 h3 h4) wb wp l1;obtain⟨R,e,e1,e2⟩:=ih a4 b4 d4 zO r2 r3 r4 r5 l1 wb4 wp4;obtain⟨f1,f2⟩:=r6 R e1 e2;refine⟨R,(fg ?_).trans e,permIn_trans _ _ _ a b P3 f1,f2⟩;show tp (au.E α) CC a b lim wb wp (eA d) (fun y=>some (Sum.inl y)) (fun r=>some (Sum.inr r))=_;rw[step,k3];exact r7 _ (fun y=>some (Sum.inl y))
    .refine⟨d3,dg ?_,P3,k3s⟩;show tp (au.E α) CC a b lim wb wp (eA d) (fun y=>some (Sum.inl y)) (fun r=>some (Sum.inr r))=_;rw[step,k3];rfl
theorem aGI(l:List α)(hs:l.length<1152921504606846976):∃R:List α,CC ((au.E α).k 13) [.list (au.E α).T (l.map au.enc)]=some [.list (au.E α).T (R.map au.enc)]∧R.Perm l∧R.Pairwise (fun x y=> ¬au.cmp y x<0):=by
 obtain⟨L,e1,_⟩:=apI (x:=l.length) zO;obtain⟨R,e2,h1,h2⟩:=(aGG _ 0 l.toArray.size l.toArray (aC _) (od _) (aC _) (by simpa using hs) (.inl rfl)).aey (L:Int);have bR:R.size=l.length:=by rw[h1.1];simp
 refine⟨R.toList,au.apt ?_,?_,?_⟩
 .unfold acJ;rw[cu,sY (A:=l.length) zO,e1];simp only[Option.bind_some,V.bj,V.toInt_int,gI,gL,gB];have e3:eA l.toArray=l.map au.enc:=by simp[yd]
  rw[e3,show((l.toArray.size:Nat):Int)=(l.length:Int) by simp,show((0:Nat):Int)=0 from rfl]at e2;rw[e2];rfl
 .have h3:=h1.2.2;rw[show l.toArray.size=R.size from h1.1.symm,Array.extract_size,h1.1,Array.extract_size]at h3;exact h3
 .rw[EP];intro i j hi hj Xi;have h3:=h2 i j (od _) Xi (by simpa[<-bR]using hj);rw[apG]at h3;have gP:i<R.size:=by simpa using hi
  have kz:j<R.size:=by simpa using hj
  rw[getElem!_pos R i gP,getElem!_pos R j kz]at h3;simpa using h3
end
theorem aGJ(a b:Ed):CC dA [vI a.f,vI a.l,vI a.t,vI b.f,vI b.l,vI b.t]=some [vI (uI a b)]:=by
 refine azm ?_;unfold amo;refine bs (Ht _ _) ?_;refine bs (Ht _ _) ?_;refine bs (Ht _ _) ?_;refine bs (aoW _ _ _) ?_;rfl
end Go.AM
namespace Go.AM.SL
open Go.Proofs Go.Sort
noncomputable abbrev aGK:au Ed where
 E:=di
 enc:=Ed.enc
 cmp:=uI
 re x:=by simp only[di,Ed.iT,Ed.iU,Ed.iW];exact Ed.re x
 cs a b:=by simp only[di,Ed.iT,Ed.iU,Ed.iW];exact aGJ a b
 swo:=⟨fun x=>by simp only[decide_eq_false_iff_not,Hs];unfold Ed.lt;omega,fun x y z=>by simp only[fp,Hs];unfold Ed.lt;omega,fun x y z=>by simp only[decide_eq_false_iff_not,Hs];unfold Ed.lt;omega⟩
 aph:=azp
 api:=azs
 apj:=azv
 apk:=azy
 apl:=azE
 apm:=azI
 apn:=azO
 apo:=azR
 apq:=azS
 apr:=azT
 aep:=azU
 aeq:=azX
 aps:=az2
 apt:=az3
theorem aGL(l:List Ed)(hs:l.length<1152921504606846976):∃R:List Ed,CC 120 [cg (l.map Ed.enc)]=some [cg (R.map Ed.enc)]∧R.Perm l∧R.Pairwise (fun x y=> ¬y.lt x):=by
 obtain⟨R,h1,h2,h3⟩:=@aGI Ed aGK _ l hs;exact⟨R,h1,h2,h3.imp fun h g=>h ((Hs _ _).2 g)⟩
end Go.AM.SL
namespace Go.AM
open Go.Proofs
section
variable {n:Nf}{L S:Nat}(h:Nat6 n L S)
include h
theorem apJ{T U:LN}{s:Nat}{i:Nat}(hi:i<T.length)(hs:T[i]=s)(mR:s<2^S){x:Nat}(hx:x<L)(Hr:aT (sn n.E) T s (x+1)<+:U)(hU:(aT (sn n.E) T s (x+1)).length<=512){c1 c2 c3 c4:Int}{l1 l2 l3 l4:LV}:
  DV CC (i:Int) (L:Int) n.S (n.st:Int) (n.fin:Int) (n.E.map Ed.enc) c1 c2 c3 c4 l1 l2 l3 l4 ((x:Int),U1 (aT (sn n.E) T s x),uM (aT (sn n.E) T s x),(tab x fun j=>nV (U.idxOf (sn n.E s j))))=
   some (.inl (((x+1:Nat):Int),U1 (aT (sn n.E) T s (x+1)),uM (aT (sn n.E) T s (x+1)),(tab (x+1) fun j=>nV (U.idxOf (sn n.E s j))))):=by
 have h6:=h.l6;have Hw:=h.pow;have kV:=Og (next:=sn n.E) T s x;have mP:i<(aT (sn n.E) T s x).length:=gU hi kV.length_le;have Hm:(aT (sn n.E) T s x)[i]=s:=by rw[<-kV.getElem hi,hs]
 have hn:=h.next s x;have gl:=hU;have k1:cS .u64 ((sn n.E s x:Nat):Int)=true:=Hd zO;have st:=ao1 n h.ok h.good (set:=s) zO (x:Int);simp only[DV,GY,un];refine bT (dd hx) ?_;refine(cK (Vb mP)).trans ?_;rw[Hm];have st':CC 98 [vI L,vI n.S,.int .u64 n.st,.int .u64 n.fin,cg (n.E.map Ed.enc),.int .u64 s,vI x]=some [uV (sn n.E s x)]:=(congrArg (fun z=>CC 98 [vI z,vI n.S,.int .u64 n.st,.int .u64 n.fin,cg (n.E.map Ed.enc),.int .u64 s,vI x]) h.hL.symm).trans st;refine bs st' ?_;refine bT (by simp only[uV,V.bj,V.toInt_int,gI,gL,gB];rw[k1];rfl) ?_;simp only[uV,V.bj,V.toInt_int,gI,gL,gB];rw[show(V.int .u64 (sn n.E s x:Nat))=uV (sn n.E s x)from rfl];have e1:=tu Er (sn n.E s x) (aT (sn n.E) T s x) 0;unfold M7;rw[show(V.int .u64 (sn n.E s x:Nat))=uV (sn n.E s x)from rfl,show fi (uV (sn n.E s x)) (uM (aT (sn n.E) T s x))=_ from e1];have ei:U.idxOf (sn n.E s x)=(dI (aT (sn n.E) T s x) (sn n.E s x)).idxOf (sn n.E s x):=xW Hr zL;rw[He]at ei;rw[aT,tq]at gl;by_cases hm:sn n.E s x∈aT (sn n.E) T s x
 .have e2:=xZ Er (sn n.E s x) (vI 0) (aT (sn n.E) T s x) 0 hm;rw[dT]at e2;rw[ai hm]at ei;refine bF (by simpa using hm) ?_;rw[show gV (uV (sn n.E s x)) (uM (aT (sn n.E) T s x)) (vI 0)=_ from e2,V.toInt_int,<-ei];simp only[db,un];refine bT (cap (by rw[dJ];simp;omega) zO) ?_;rw[cN zO,iz,aT];unfold dI;rw[ai hm];rfl
 .rw[af hm]at ei gl;refine bT (by simpa using hm) ?_;refine bF (by rw[qX];simp;omega) ?_;refine bT (by rw[k1];rfl) ?_;refine bT (cap (by rw[qX];simp;omega) zO) ?_;simp only[db,un];refine bT (cap (by rw[dJ];simp;omega) zO) ?_;have e2:=ya Er (sn n.E s x) (aT (sn n.E) T s x) 0 hm;rw[dT]at e2;rw[qX,show fj (uV (sn n.E s x)) _ (uM (aT (sn n.E) T s x))=_ from e2,<-ei,cN zO,iz,aT];unfold dI;rw[af hm];simp[U1,uM,nV,uV]
theorem aGM{T U:LN}{s:Nat}{i:Nat}(hi:i<T.length)(hs:T[i]=s)(mR:s<2^S)(hp:aT (sn n.E) T s L<+:U)(hU:(aT (sn n.E) T s L).length<=512){c1 c2 c3 c4:Int}{l1 l2 l3 l4:LV}:
  Loop (DV CC (i:Int) (L:Int) n.S (n.st:Int) (n.fin:Int) (n.E.map Ed.enc) c1 c2 c3 c4 l1 l2 l3 l4) (0,U1 T,uM T,([]:LV))=
   some (.inr ((L:Int),false,U1 (aT (sn n.E) T s L),uM (aT (sn n.E) T s L),(tab L fun x=>nV (U.idxOf (sn n.E s x))))):=by
 refine(fe L (fun x=>((x:Int),U1 (aT (sn n.E) T s x),uM (aT (sn n.E) T s x),(tab x fun j=>nV (U.idxOf (sn n.E s j))))) _ (fun x hx=>?_) ?_)
 .have:=(uC (next:=sn n.E) T s (show x+1<=L by omega)).length_le;exact apJ h hi hs mR hx ((uC T s (show x+1<=L by omega)).trans hp) zO
 .simp only[DV,GY,un];refine bF (bN (aC _)) ?_;rw[bN (aC _)]
theorem aGN{T:LN}{s:Nat}{i:Nat}(hi:i<T.length)(hs:T[i]=s)(mR:s<2^S)(hT:T.length<=512)(hU:512<(aT (sn n.E) T s L).length){c1 c2 c3 c4:Int}{l1 l2 l3 l4:LV}:
  Loop (DV CC (i:Int) (L:Int) n.S (n.st:Int) (n.fin:Int) (n.E.map Ed.enc) c1 c2 c3 c4 l1 l2 l3 l4) (0,U1 T,uM T,([]:LV))=
   some (.inl (3,0,0,[],[],[])):=by
 obtain⟨y,hy,QQ,hy2,hy3⟩:=aoy hT hU;have h6:=h.l6;have Hw:=h.pow;refine(ah8 (fun x=>((x:Int),U1 (aT (sn n.E) T s x),uM (aT (sn n.E) T s x),(tab x fun j=>nV ((aT (sn n.E) T s y).idxOf (sn n.E s j))))) y (fun x hx=>?_) ?_)
 .exact apJ h hi hs mR zO (uC T s zO) (hy3 (x+1) zO)
 .have kV:=Og (next:=sn n.E) T s y;have mP:i<(aT (sn n.E) T s y).length:=gU hi kV.length_le;have Hm:(aT (sn n.E) T s y)[i]=s:=by rw[<-kV.getElem hi,hs]
  have hn:=h.next s y;have k1:cS .u64 ((sn n.E s y:Nat):Int)=true:=Hd zO;have st:=ao1 n h.ok h.good (set:=s) zO (y:Int);simp only[DV,GY,un];refine bT (dd hy) ?_;refine(cK (Vb mP)).trans ?_;rw[Hm];have st':CC 98 [vI L,vI n.S,.int .u64 n.st,.int .u64 n.fin,cg (n.E.map Ed.enc),.int .u64 s,vI y]=some [uV (sn n.E s y)]:=(congrArg (fun z=>CC 98 [vI z,vI n.S,.int .u64 n.st,.int .u64 n.fin,cg (n.E.map Ed.enc),.int .u64 s,vI y]) h.hL.symm).trans st;refine bs st' ?_;refine bT (by simp only[uV,V.bj,V.toInt_int,gI,gL,gB];rw[k1];rfl) ?_;simp only[uV,V.bj,V.toInt_int,gI,gL,gB];rw[show(V.int .u64 (sn n.E s y:Nat))=uV (sn n.E s y)from rfl];have e1:=tu Er (sn n.E s y) (aT (sn n.E) T s y) 0;unfold M7;rw[show fi (uV (sn n.E s y)) (uM (aT (sn n.E) T s y))=_ from e1];refine bT (by simpa using hy2) ?_;refine bT (by rw[qX];simp;omega) ?_;rfl
theorem aGO{s:Nat}(hs:s<2^S):(((wU ((bU (s:Int)&&&bU (n.fin:Int)).toNat)):Int) !=0)=sf n.fin s:=by
 have hp:=h.pow;have hf:=h.fin;rw[u64_and zO zO];unfold sf;grind
theorem aez{i:Nat}(fH:i<(ao L (sn n.E) n.st i).length)(hlen:(ao L (sn n.E) n.st i).length<=512){U:LN}(hp:ao L (sn n.E) n.st (i+1)<+:U){l1 l2 l3 l4:LV}(Hp:l3.length<=1000)(hl4:l4.length<=1000):
  GZ CC (L:Int) n.S (n.st:Int) (n.fin:Int) (n.E.map Ed.enc) 0 0 (L:Int) 0 l1 l2 ((i:Int),U1 (ao L (sn n.E) n.st i),uM (ao L (sn n.E) n.st i),l3,l4)=
   if 512<(ao L (sn n.E) n.st (i+1)).length then some (.inr (.inl (3,0,0,[],[],[])))
   else some (.inl (((i+1:Nat):Int),U1 (ao L (sn n.E) n.st (i+1)),uM (ao L (sn n.E) n.st (i+1)),l3++[V.bool (sf n.fin (ao L (sn n.E) n.st i)[i])],l4++[aR (tab L fun x=>nV (U.idxOf (sn n.E (ao L (sn n.E) n.st i)[i] x)))])):=by
 have h6:=h.l6;have hq:=sub_lt h i _ (gC fH);have iL:ao L (sn n.E) n.st (i+1)=aT (sn n.E) (ao L (sn n.E) n.st i) (ao L (sn n.E) n.st i)[i] L:=Oh (cA fH);simp only[GZ,M8,un];refine bT (bQ (by rw[qX];omega)) ?_;by_cases rJ:512<(ao L (sn n.E) n.st (i+1)).length
 .rw[ai rJ];refine bs (aGN h fH rfl hq hlen (by rw[<-iL];exact rJ)) ?_;rfl
 .rw[af rJ];refine bs (aGM h fH rfl hq (U:=U) (by rw[<-iL];exact hp) (by rw[<-iL];omega)) ?_;rw[<-iL];simp only[db,un];have kV:=anP (L:=L) (next:=sn n.E) (a0:=n.st) i;have mP:i<(ao L (sn n.E) n.st (i+1)).length:=gU fH kV.length_le;refine bT (cap (by simp;omega) zO) ?_;refine(cK (Vb mP)).trans ?_;rw[<-kV.getElem fH];simp only[uV,V.toInt_int];rw[aGO h hq];refine bT (cap (by simp;omega) zO) ?_;rw[cN zO]
theorem aGP(hn:¬lD n L S):∃X,CC 81 (pG n [])=some (Vc (jD n L S) 0 (bn X)):=by
 have h6:=h.l6;have cv:=h.st;have Hw:=h.pow;have hd:(ao L (sn n.E) n.st (2^S)).length<=2^S:=Hv h _;have hle:∀i,(ao L (sn n.E) n.st i).length<=(gT n L S).length:=UT hd;have U4:(gT n L S).length<=512:=by unfold lD at hn;omega
 refine⟨U1 (gT n L S),amx ?_⟩;unfold acM;have hv:=aoZ n h.ok;rw[h.code]at hv;refine bs hv (bF rfl ?_);refine bT (by rw[Hd (show n.st<2^64 by omega)];rfl) ?_;rw[h.hL];have key:Loop (GZ CC (L:Int) n.S (n.st:Int) (n.fin:Int) (n.E.map Ed.enc) 0 0 (L:Int) 0 ([]:LV) ([]:LV)) (0,U1 [n.st],uM [n.st],([]:LV),([]:LV))=
   some (.inr (((gT n L S).length:Int),false,U1 (gT n L S),uM (gT n L S),(jD n L S).cj,(jD n L S).bL)):=by
  refine(fe (gT n L S).length (fun i=>((i:Int),U1 (ao L (sn n.E) n.st i),uM (ao L (sn n.E) n.st i),(tab i fun j=>V.bool ((jD n L S).fin j)),(tab i fun j=>ff L ((jD n L S).nx j)))) _ (fun i hi=>?_) ?_)
  .have fH:=Bz hd hi;have hiK:i<2^S:=gU hi hd;have vZ:(ao L (sn n.E) n.st i)[i]=(gT n L S)[i]:=(mY (show i<=2^S by omega)).getElem fH;have ad7:=hle (i+1);have aoB:=hle i;have:=aez h fH zO (U:=gT n L S) (mY zO) (l1:=[]) (l2:=[]) (l3:=(tab i fun j=>V.bool ((jD n L S).fin j))) (l4:=(tab i fun j=>ff L ((jD n L S).nx j))) (by rw[dJ];omega) (by rw[dJ];omega);rw[cl,vZ]at this;rw[this,iz,iz];have e1:(jD n L S).fin i=sf n.fin (gT n L S)[i]:=Eb hi;have e2:ff L ((jD n L S).nx i)=aR (tab L fun x=>nV ((gT n L S).idxOf (sn n.E (gT n L S)[i] x))):=by
    unfold ff;refine congrArg _ (eK fun x hx=>?_);rw[show(jD n L S).nx i x=_ from zM hi hx];rfl
   rw[e1,e2]
  .simp only[GZ,M8,un];rw[show ao L (sn n.E) n.st (gT n L S).length=gT n L S from Ec hd,qX];refine bF (bN (aC _)) ?_;rw[bN (aC _)];have e3:(jD n L S).n=(gT n L S).length:=ql;unfold Da.cj Da.bL;rw[e3];rfl
 refine bs key ?_;rfl
theorem aGQ(hn:lD n L S):∃X,CC 81 (pG n [])=some (Vc zD 3 (bn X)):=by
 have h6:=h.l6;have cv:=h.st;have Hw:=h.pow;obtain⟨m,hm1,mL,U5⟩:=UW (UU (show 512<(ao L (sn n.E) n.st (2^S)).length from hn)) zO;refine⟨[],amx ?_⟩;unfold acM;have hv:=aoZ n h.ok;rw[h.code]at hv;refine bs hv (bF rfl ?_);refine bT (by rw[Hd (show n.st<2^64 by omega)];rfl) ?_;rw[h.hL];have key:∃r,Loop (GZ CC (L:Int) n.S (n.st:Int) (n.fin:Int) (n.E.map Ed.enc) 0 0 (L:Int) 0 ([]:LV) ([]:LV)) (0,U1 [n.st],uM [n.st],([]:LV),([]:LV))=some r∧r=(.inl (3,0,0,[],[],[])):=by
  refine qm (fun i st=>∃l3 l4:LV,l3.length=i∧l4.length=i∧st=((i:Int),U1 (ao L (sn n.E) n.st i),uM (ao L (sn n.E) n.st i),l3,l4)) _ m 0 _ (fun i _ hi st cv=>?_) (fun st cv=>?_) ⟨[],[],rfl,rfl,rfl⟩
  .obtain⟨l3,l4,e3,e4,rfl⟩:=cv;obtain⟨h1,h2⟩:=mL i zO;have h3:=(mL (i+1) zO).2;have:=aez h h1 h2 (tM _) (l1:=[]) (l2:=[]) (l3:=l3) (l4:=l4) zO zO;rw[cl]at this;exact⟨_,this,_,_,by simp[e3],by simp[e4],rfl⟩
  .obtain⟨l3,l4,e3,e4,rfl⟩:=cv;rw[dT]at*
   obtain⟨h1,h2⟩:=mL m zO;have:=aez h h1 h2 (tM _) (l1:=[]) (l2:=[]) (l3:=l3) (l4:=l4) zO zO;rw[aU]at this;exact⟨_,this,rfl⟩
 obtain⟨r,h1,rfl⟩:=key;refine bs h1 ?_;rfl
end
instance (n:Nf)(L S:Nat):Decidable (lD n L S):=by unfold lD;infer_instance
noncomputable def jL(n:Nf)(L S:Nat):Da:=if lD n L S then zD else minD (jD n L S)
def oO(n:Nf)(L S:Nat):Int:=if lD n L S then 3 else 0
section
variable {n:Nf}{L S:Nat}(h:Nat6 n L S)
include h
theorem aGR:CC 125 (pG n [])=some (nR (jL n L S) (oO n L S)):=by
 refine aAl ?_;unfold amz jL oO;by_cases ho:lD n L S
 .obtain⟨X,hX⟩:=aFW h ho;rw[ai ho,ai ho];refine bs hX (bT rfl ?_);rfl
 .obtain⟨X,hX⟩:=aFV h ho;rw[af ho,af ho];refine bs hX (bF rfl ?_);refine bs (Ow (Es h ho)) ?_;rfl
end
def eM(L S st fin:Nat)(l:List Ed):Nf:=⟨L,S,st,fin,uO l⟩
structure Ev(L S st fin:Nat)(l:List Ed):Prop where
 l1:1<=L
 l6:L<=6
 yc:S<=64
 st:st<2^S
 fin:fin<2^S
 E:∀e∈l,e.In L S
 len:l.length<=1000000
theorem ye{L S st fin:Nat}{l:List Ed}(h:Ev L S st fin l):Nat6 (eM L S st fin l) L S where
 hL:=rfl
 hS:=rfl
 ok:=by
  have IF:=h.l1;have hl6:=h.l6;have hs:=h.yc;have cv:=h.st;have uG:=h.fin;have hp:2^S<=2^64:=pK zO hs;have gZ:∀e∈uO l,e.In L S:=fun e he=>h.E e (BG.1 he);have hlen:=aF0 (L:=L) (S:=S) zO zO (OF l) gZ;refine⟨by simp only[eM];omega,by simp only[eM];omega,by simp only[eM];omega,by simp only[eM];omega,by simp only[eM];omega,by simp only[eM];omega,by simp only[eM];unfold maxLen;omega,fun e he=>?_⟩;have:=gZ e he;unfold Ed.In at this;unfold Ed.Ok;omega
 code:=by
  have IF:=h.l1;have hl6:=h.l6;have hs:=h.yc;unfold Nf.code;rw[af (by simp only[eM];omega),af (by simp only[eM,Int.toNat_natCast];have:=h.st;have:=h.fin;omega),ai];intro i hi;have gZ:∀e∈uO l,e.In L S:=fun e he=>h.E e (BG.1 he);unfold Nf.qo;simp only[eM]at*
  refine⟨zG,fun h0=>?_⟩;rw[jf hi,jf (show i-1<_ by omega)];exact EP.1 (OF l) (i-1) i zO hi zO
theorem aGS{A B:List Ed}(h:∀x,x∈A↔x∈B):uO A=uO B:=
 aem (OF A) (OF B) fun x=>by rw[BG,BG,h x]
def aGT(m:Da)(e:Int)(n:Nf):LV:=[vI m.L,vI m.st,vI e,vI n.L,vI n.S,.int .u64 n.st,.int .u64 n.fin,cg (n.E.map Ed.enc),aB m.cj,aE m.bL]
section
variable {L S st fin:Nat}{l:List Ed}(h:Ev L S st fin l)
include h
theorem aGU:CC 108 [vI L,vI S,.int .u64 st,.int .u64 fin,cg (l.map Ed.enc)]=some (aGT (jL (eM L S st fin l) L S) (oO (eM L S st fin l) L S) (eM L S st fin l)):=by
 have hl:=h.len;obtain⟨R,e1,p1,s1⟩:=SL.aGL l zO;obtain⟨b,e2⟩:=aGa (l:=R) (by rw[p1.length_eq];exact hl);obtain⟨c1,c2⟩:=aF7 s1;have hc:nX R=uO l:=aem c1 (OF l) fun x=>by rw[c2,BG,p1.mem_iff]
 rw[hc]at e2;have e3:=aGR (ye h);refine aAm ?_;unfold amA;refine bs e1 ?_;refine bs e2 ?_;cases b
 .refine bF rfl ?_;refine bs e3 ?_;rfl
 .refine bT rfl ?_;refine bs e3 ?_;rfl
theorem aGV:CC 59 [vI L,vI S,.int .u64 st,.int .u64 fin,cg (l.map Ed.enc)]=some (nR (jL (eM L S st fin l) L S) (oO (eM L S st fin l) L S)):=by
 have hl:=h.len;have hs:=h.yc;have h6:=ye h;refine aAk ?_;unfold amy jL oO;refine bF (bX zO) ?_;refine bs (aF5 zO) ?_;by_cases ho:lD (eM L S st fin l) L S
 .obtain⟨X,hX⟩:=aGQ h6 ho;rw[ai ho,ai ho];refine bs hX (bT rfl ?_);rfl
 .obtain⟨X,hX⟩:=aGP h6 ho;rw[af ho,af ho];refine bs hX (bF rfl ?_);refine bs (oN (Es h6 ho)) ?_;rfl
end
def gJ(p x q:Nat):Ed:=⟨(p:Int),(x:Int),(q:Int)⟩
def aN(L S:Nat)(st fin:Nat)(l:List Ed):LV:=[vI L,vI S,.int .u64 st,.int .u64 fin,cg (l.map Ed.enc)]
def fm(n:Nat)(g:Nat->List Ed):List Ed:=(List.range n).flatMap g
theorem apK{g:Nat->List Ed}:fm 0 g=[]:=rfl
theorem Vk{n:Nat}{g:Nat->List Ed}:fm (n+1) g=fm n g++g n:=by simp[fm,B7]
theorem apL{n:Nat}{g:Nat->List Ed}{e:Ed}:e∈fm n g↔∃i,i<n∧e∈g i:=by simp[fm]
theorem aeA{n k:Nat}{g:Nat->List Ed}(h:∀i,i<n->(g i).length<=k):(fm n g).length<=n*k:=by
 induction n with
 |zero=>simp[fm]
 |succ n ih=>
  rw[Vk,dQ,Ac];grind
theorem BJ{X R:Type}{step:X->Option (X⊕R)}(n:Nat)(s:Nat->X)(r:R){x:X}(hx:x=s 0)(h:∀i,i<n->step (s i)=some (.inl (s (i+1))))(he:step (s n)=some (.inr r)):Loop step x=some r:=by rw[hx];exact fe n s r h he
theorem tz{a b:Nat}(h:a+b<=1000000000):wI ((a:Int)+(b:Int))=((a+b:Nat):Int):=by rw[dk];omega
theorem OJ{l:List Ed}{p x q:Nat}:l.map Ed.enc++[V.agg [vI p,vI x,vI q]]=(l++[gJ p x q]).map Ed.enc:=by simp[gJ,Ed.enc]
section
variable {L S st fin:Nat}{l:List Ed}
theorem apM{p x q:Nat}(h:l.length<=1000000):CC 117 [vI p,vI x,vI q,vI L,vI S,.int .u64 st,.int .u64 fin,cg (l.map Ed.enc)]=some (aN L S st fin (l++[gJ p x q])):=by
 refine aAn ?_;unfold amC;refine bT (cap (by simp;omega) zO) ?_;rw[OJ];rfl
theorem apO{q:Nat}(hq:q<64)(hs:st<2^64):CC 106 [vI q,vI L,vI S,.int .u64 st,.int .u64 fin,cg (l.map Ed.enc)]=some (aN L S (st|||2^q) fin l):=by
 refine aAo ?_;unfold amD;refine bT (bQ zO) ?_;rw[Int.toNat_natCast,A0 hq,u64_or hs (kK zO hq)];rfl
theorem aGW{q:Nat}(hq:q<64)(hs:fin<2^64):CC 119 [vI q,vI L,vI S,.int .u64 st,.int .u64 fin,cg (l.map Ed.enc)]=some (aN L S st (fin|||2^q) l):=by
 refine aAp ?_;unfold amE;refine bT (bQ zO) ?_;rw[Int.toNat_natCast,A0 hq,u64_or hs (kK zO hq)];rfl
theorem aGX(h:S<=64):CC 103 [vI L,vI S]=some (.bool false::aN L S 0 0 []):=by
 refine amB ?_;unfold acN;exact bF (bX zO) rfl
theorem aGY(h:64<S):CC 103 [vI L,vI S]=some [.bool true]:=by
 refine amB ?_;unfold acN;exact bT (bQ zO) rfl
def jE(fin:Nat)(f:Nat->Bool)(off:Nat):Nat->Nat
 |0=>fin
 |i+1=>if f i=true then jE fin f off i|||2^(i+off)else jE fin f off i
theorem aeB{f:Nat->Bool}{off:Nat}:∀{n j:Nat},(jE fin f off n).testBit j=(fin.testBit j||(decide (off<=j∧j<n+off)&&f (j-off)))
 |0,j=>by
  rw[Ak];simp[jE]
 |n+1,j=>by
  unfold jE;by_cases hf:f n=true
  .rw[ai hf,rh,aeB,wm];grind
  .rw[af hf,aeB];grind
theorem OK{f:Nat->Bool}{off k:Nat}(hf:fin<2^k):∀{n:Nat},n+off<=k->jE fin f off n<2^k
 |0,_=>hf
 |n+1,h=>by
  unfold jE;have ih:=OK (f:=f) (off:=off) hf (n:=n) zO;split
  .exact qt ih (kK zO zO)
  .exact ih
theorem aGZ{n off:Nat}{f:Nat->Bool}(ho:n+off<=64)(hs:fin<2^64):CC 107 [aB (bV n f),vI off,vI L,vI S,.int .u64 st,.int .u64 fin,cg (l.map Ed.enc)]=some (aN L S st (jE fin f off n) l):=by
 refine aAs ?_;unfold amF;rw[show(bV n f).length=n from dJ];refine bs (fe n (fun i=>((i:Int),(L:Int),(S:Int),(st:Int),(jE fin f off i:Int),l.map Ed.enc)) ((n:Int),false,(L:Int),(S:Int),(st:Int),(jE fin f off n:Int),l.map Ed.enc) (fun i hi=>?_) ?_) ?_
 .simp only[acO,M9,un];refine bT (dd hi) ?_;refine bs (nM hi) ?_;have bt:=OK (f:=f) (off:=off) hs (n:=i) zO;cases hf:f i with
  |true=>
   refine bT rfl ?_;rw[tz zO];refine bs (aGW zO bt) ?_;rw[cN zO,show jE fin f off (i+1)=jE fin f off i|||2^(i+off)from ai hf];rfl
  |false=>
   refine bF rfl ?_;rw[cN zO,show jE fin f off (i+1)=jE fin f off i from af (by rw[hf];simp)]
 .simp only[acO,M9,un];refine bF (bN (aC _)) ?_;rw[bN (aC _)]
 .rfl
def su(a:Da)(off p:Nat):List Ed:=tab a.L fun x=>gJ (p+off) x (a.nx p x+off)
def fv(a:Da)(off:Nat):List Ed:=fm a.n (su a off)
theorem tA{a:Da}{off:Nat}{e:Ed}:e∈fv a off↔∃p x,p<a.n∧x<a.L∧e=gJ (p+off) x (a.nx p x+off):=by
 unfold fv su;rw[apL];constructor
 .rintro⟨p,hp,he⟩;obtain⟨x,hx,rfl⟩:=xY.1 he;grind
 .rintro⟨p,x,hp,hx,rfl⟩;exact⟨p,hp,xY.2 ⟨x,hx,rfl⟩⟩
theorem yf{a:Da}(h:a.Ok){off:Nat}{n:Nat}:(fm n (su a off)).length<=n*6:=aeA fun p _=>by unfold su;rw[dJ];exact h.l6
theorem apP{a:Da}(h:a.Ok){off:Nat}(ho:off<=1000)(hl:l.length<=100000):CC 104 (eG a [vI off,vI L,vI S,.int .u64 st,.int .u64 fin,cg (l.map Ed.enc)])=some (aN L S st fin (l++fv a off)):=by
 have hn:=h.dr;have h6:=h.l6;refine aAy ?_;unfold amH;rw[show a.bL.length=a.n from dJ];refine bs (BJ a.n (fun i=>((i:Int),(L:Int),(S:Int),(st:Int),(fin:Int),(l++fm i (su a off)).map Ed.enc)) ((a.n:Int),false,(L:Int),(S:Int),(st:Int),(fin:Int),(l++fv a off).map Ed.enc) (by rw[apK,jO];rfl) (fun p hp=>?_) ?_) ?_
 .have hlen:=yf h (off:=off) (n:=p);simp only[acQ,Ng,un];refine bT (dd hp) ?_;refine bs (nM hp) ?_;rw[show(ff a.L (a.nx p)).toList=tab a.L fun x=>nV (a.nx p x)from rfl,dJ];refine bs (BJ a.L (fun i=>((i:Int),(L:Int),(S:Int),(st:Int),(fin:Int),((l++fm p (su a off))++tab i fun x=>gJ (p+off) x (a.nx p x+off)).map Ed.enc)) ((a.L:Int),false,(L:Int),(S:Int),(st:Int),(fin:Int),((l++fm p (su a off))++su a off p).map Ed.enc) (by rw[Om,jO];rfl) (fun x hx=>?_) ?_) ?_
  .have hq:=h.gn hp hx;simp only[acP,Nc,un];refine bT (dd hx) ?_;refine bs (nM hx) ?_;rw[show(nV (a.nx p x)).toInt=((a.nx p x:Nat):Int)from rfl,tz zO,tz zO];refine bs (apM (by rw[dQ,dQ,dJ];omega)) ?_;rw[cN zO,iz,<-iC];rfl
  .simp only[acP,Nc,un];refine bF (bN (aC _)) ?_;rw[bN (aC _)];rfl
  .simp only[un];rw[cN zO,Vk,<-iC]
 .simp only[acQ,Ng,un];refine bF (bN (aC _)) ?_;rw[bN (aC _)];rfl
 .rfl
def qY(n:Nat)(f:Nat->Bool)(to:Nat)(l:List Ed):List Ed:=l.flatMap fun e=>if e.t.toNat<n∧f e.t.toNat=true then[⟨e.f,e.l,(to:Int)⟩]else[]
theorem aeC{n to:Nat}{f:Nat->Bool}{e:Ed}:e∈qY n f to l↔∃e'∈l,e'.t.toNat<n∧f e'.t.toNat=true∧e=⟨e'.f,e'.l,(to:Int)⟩:=by
 unfold qY;grind
theorem aeD{n to:Nat}{f:Nat->Bool}:∀{l:List Ed},(qY n f to l).length<=l.length
 |[]=>by simp[qY]
 |e::l=>by
  have ih:=aeD (n:=n) (to:=to) (f:=f) (l:=l);unfold qY at*
  grind
theorem aG0{n to i:Nat}{f:Nat->Bool}(hi:i<l.length):qY n f to (l.take (i+1))=qY n f to (l.take i)++(if l[i].t.toNat<n∧f l[i].t.toNat=true then[⟨l[i].f,l[i].l,(to:Int)⟩]else[]):=by
 unfold qY;rw[H9 hi,List.flatMap_append];simp
theorem aG1{n to:Nat}{f:Nat->Bool}(hE:∀e∈l,0<=e.f∧0<=e.l∧0<=e.t)(hl:l.length<=100000)(hn:n<=1000):CC 105 [aB (bV n f),vI to,vI L,vI S,.int .u64 st,.int .u64 fin,cg (l.map Ed.enc)]=some (aN L S st fin (l++qY n f to l)):=by
 refine aAB ?_;unfold amI;refine bT (by rw[gg,uA,cu];omega) ?_;rw[cu];refine bs (BJ l.length (fun i=>((i:Int),(L:Int),(S:Int),(st:Int),(fin:Int),(l++qY n f to (l.take i)).map Ed.enc)) ((l.length:Int),false,(L:Int),(S:Int),(st:Int),(fin:Int),(l++qY n f to l).map Ed.enc) (by rw[List.take_zero,show qY n f to []=[]from rfl,jO];rfl) (fun i hi=>?_) ?_) ?_
 .simp only[acT,Ni,un];refine bT (dd hi) ?_;refine(cK (i:=i) (v:=l[i].enc) (by simp[hi])).trans ?_;obtain⟨e1,e2,e3⟩:=hE l[i] (gC hi);have hlen:=aeD (n:=n) (to:=to) (f:=f) (l:=l.take i);have ass:=List.length_take_le i l;rw[Ed.iT,Ed.iU,Ed.iW,aG0 hi,show(bV n f).length=n from dJ];obtain⟨t,ht⟩:=Int.eq_ofNat_of_zero_le e3;obtain⟨p,hp⟩:=Int.eq_ofNat_of_zero_le e1;obtain⟨x,hx⟩:=Int.eq_ofNat_of_zero_le e2;rw[ht,hp,hx,Int.toNat_natCast];by_cases c:t<n
  .refine bT (dd c) ?_;refine bs (nM c) ?_;cases hf:f t with
   |true=>
    refine bT rfl ?_;refine bs (apM (by rw[dQ];omega)) ?_;rw[cN zO,ai ⟨c,rfl⟩,<-iC];rfl
   |false=>
    refine bF rfl ?_;rw[cN zO,af zS,jO]
  .refine bF (bN zO) ?_;rw[cN zO,af (fun h=>c h.1),jO]
 .simp only[acT,Ni,un];refine bF (bN (aC _)) ?_;rw[bN (aC _),ym]
 .rfl
end
theorem apQ{a:Da}(h:a.Ok)(hs:a.n<=64):CC 57 (dM a)=some (aN a.L a.n (2^a.st) (jE 0 a.fin 0 a.n) (fv a 0)):=by
 have h6:=h.l6;have cv:=h.s;refine amJ ?_;unfold acV;refine bs (U9 zO) ?_;rw[show a.cj.length=a.n from dJ];refine bs (fe a.n (fun i=>((i:Int),(jE 0 a.fin 0 i:Int),(fm i (su a 0)).map Ed.enc)) ((a.n:Int),false,(jE 0 a.fin 0 a.n:Int),(fv a 0).map Ed.enc) (fun p hp=>?_) ?_) ?_
 .have hlen:=yf h (off:=0) (n:=p);simp only[D0,Bv,un];refine bT (dd hp) ?_;refine bs (nM hp) ?_;have bt:=OK (f:=a.fin) (off:=0) (fin:=0) (k:=64) zO (n:=p) zO;have key:∀(F:Nat),((idx a.bL (p:Int)).bind fun x5=>
   (Loop (DZ CC (p:Int) (a.n:Int) (p:Int) x5.toList (x5.toList.length:Int) (a.L:Int) (a.st:Int) a.cj a.bL 0 0 0 0 (a.L:Int) (a.n:Int) ((2^a.st:Nat):Int) (F:Int) ([]:LV)) (0,(fm p (su a 0)).map Ed.enc)).bind (un fun(lA:Int)=>un fun(mw:Bool) (zI:LV)=>
    some (Sum.inl (wI ((p:Int)+1),(F:Int),zI):(Int×Int×LV)⊕(Int×Bool×Int×LV))))=some (Sum.inl (((p+1:Nat):Int),(F:Int),(fm (p+1) (su a 0)).map Ed.enc)):=by
   intro F;refine bs (nM hp) ?_;rw[show(ff a.L (a.nx p)).toList=tab a.L fun x=>nV (a.nx p x)from rfl,dJ];refine bs (BJ a.L (fun i=>((i:Int),(fm p (su a 0)++tab i fun x=>gJ (p+0) x (a.nx p x+0)).map Ed.enc)) ((a.L:Int),false,(fm p (su a 0)++su a 0 p).map Ed.enc) (by rw[Om,jO];rfl) (fun x hx=>?_) ?_) ?_
   .simp only[DZ,DY,un];refine bT (dd hx) ?_;refine bs (nM hx) ?_;refine bT (cap (by rw[cu,dQ,dJ];simp;omega) zO) ?_;rw[show(nV (a.nx p x)).toInt=((a.nx p x:Nat):Int)from rfl,OJ,cN zO,iz,<-iC];rfl
   .simp only[DZ,DY,un];refine bF (bN (aC _)) ?_;rw[bN (aC _)];rfl
   .simp only[un];rw[cN zO,Vk]
  unfold G0;cases hf:a.fin p with
  |true=>
   refine bT rfl ?_;refine bs (U9 zO) ?_;rw[show(gI [V.int .u64 (2^p:Nat)])=((2^p:Nat):Int)from rfl,u64_or bt (kK zO zO),show jE 0 a.fin 0 (p+1)=jE 0 a.fin 0 p|||2^p from ai hf];exact key _
  |false=>
   refine bF rfl ?_;rw[show jE 0 a.fin 0 (p+1)=jE 0 a.fin 0 p from af (by rw[hf];simp)];exact key _
 .simp only[D0,Bv,un];refine bF (bN (aC _)) ?_;rw[bN (aC _)];rfl
 .rfl
def oP(E:List Ed):Nat->LN->Nat->Prop
 |i,[],k=>i=k
 |i,x::w,k=>∃j,gJ i x j∈E∧oP E j w k
theorem oP.ext{A B:List Ed}(h:∀e,e∈A->e∈B):∀{w:LN}{i k:Nat},oP A i w k->oP B i w k
 |[],_,_,p=>p
 |_::_,_,_,⟨j,h1,h2⟩=>⟨j,h _ h1,oP.ext h h2⟩
theorem oP.app{E:List Ed}:∀{v w:LN}{i k:Nat},oP E i (v++w) k↔∃j,oP E i v j∧oP E j w k
 |[],w,i,k=>by simp[oP]
 |x::v,w,i,k=>by
  simp only[List.cons_append,oP];constructor
  .rintro⟨j,h1,h2⟩;obtain⟨m,h3,h4⟩:=oP.app.1 h2;grind
  .rintro⟨m,⟨j,h1,h3⟩,h4⟩;exact⟨j,h1,oP.app.2 ⟨m,h3,h4⟩⟩
theorem Vl{p x q p' x' q':Nat}:gJ p x q=gJ p' x' q'↔p=p'∧x=x'∧q=q':=by
 unfold gJ;grind
theorem aG2{e:Ed}(h1:0<=e.f)(h2:0<=e.l)(h3:0<=e.t):e=gJ e.f.toNat e.l.toNat e.t.toNat:=by
 unfold gJ;cases e;grind
theorem aeE{E:List Ed}(hE:∀e∈E,0<=e.f∧0<=e.l∧0<=e.t):∀(w:LN) (s k:Nat),(w.foldl (sn E) s).testBit k=true↔∃i,s.testBit i=true∧oP E i w k
 |[],s,k=>by simp[oP]
 |x::w,s,k=>by
  rw[List.foldl_cons,aeE hE w];constructor
  .rintro⟨j,h1,h2⟩;unfold sn at h1;rw[Oz,B5]at h1;obtain⟨e,he,h3⟩:=h1;simp only[aZ,fp]at h3;obtain⟨c1,c2,c3⟩:=hE e he;refine⟨e.f.toNat,h3.2.1,j,?_,h2⟩;have:e=gJ e.f.toNat x j:=by
    rw[aG2 c1 c2 c3];rw[Vl];simp only[gJ,Int.toNat_natCast];grind
   grind
  .rintro⟨i,h1,j,h2,h3⟩;refine⟨j,?_,h3⟩;unfold sn;rw[Oz,B5];refine⟨_,h2,?_⟩;simp only[aZ,fp,gJ,Int.toNat_natCast];grind
theorem aG3{fin s:Nat}:sf fin s=true↔∃k,s.testBit k=true∧fin.testBit k=true:=by
 unfold sf;rw[ng,beq_eq_false_iff_ne];constructor
 .intro h;obtain⟨k,hk⟩:=Nat.exists_testBit_of_ne_zero h;grind
 .rintro⟨k,h1,h2⟩ h0;have:(s&&&fin).testBit k=true:=zG;grind
def Ew(st fin:Nat)(l:List Ed)(w:LN):Prop:= ∃i k,st.testBit i=true∧fin.testBit k=true∧oP l i w k
section
variable {L S st fin:Nat}{l:List Ed}(h:Ev L S st fin l)
include h
theorem aG4(hn:¬lD (eM L S st fin l) L S):(jL (eM L S st fin l) L S).Ok:=by
 unfold jL;rw[af hn];exact eZ (Es (ye h) hn)
theorem aG5(hn:¬lD (eM L S st fin l) L S):(jL (eM L S st fin l) L S).L=L:=by
 unfold jL;rw[af hn];exact ma (Es (ye h) hn)
theorem aG6(hn:¬lD (eM L S st fin l) L S){w:LN}(hw:WL L w):(jL (eM L S st fin l) L S).acc (jL (eM L S st fin l) L S).st w=true↔Ew st fin l w:=by
 have av:=Es (ye h) hn;unfold jL;rw[af hn,BC av hw,show(jD (eM L S st fin l) L S).st=0 from rfl,aFX (ye h) hw];show sf fin (w.foldl (sn (uO l)) st)=true↔_;have hE:∀e∈uO l,0<=e.f∧0<=e.l∧0<=e.t:=fun e he=>by
  have:=h.E e (BG.1 he);unfold Ed.In at this;omega
 rw[aG3];unfold Ew;constructor
 .rintro⟨k,h1,h2⟩;obtain⟨i,h3,h4⟩:=(aeE hE w st k).1 h1;exact⟨i,k,h3,h2,h4.ext fun e he=>BG.1 he⟩
 .rintro⟨i,k,h1,h2,h3⟩;exact⟨k,(aeE hE w st k).2 ⟨i,h1,h3.ext fun e he=>BG.2 he⟩,h2⟩
theorem aG7(hS:S<=9):¬lD (eM L S st fin l) L S:=fun ho=>by
 have h1:=Hv (ye h) (2^S);have h2:2^S<=2^9:=pK zO hS;have h3:(512:Nat)<(ao L (sn (eM L S st fin l).E) (eM L S st fin l).st (2^S)).length:=ho;omega
end
theorem aG8{p x q L S:Nat}(hp:p<S)(hx:x<L)(hq:q<S):(gJ p x q).In (L:Int) (S:Int):=by unfold Ed.In gJ;simp only;omega
theorem apR{a:Da}(h:a.Ok){off S:Nat}(hs:a.n+off<=S){e:Ed}(he:e∈fv a off):e.In (a.L:Int) (S:Int):=by
 obtain⟨p,x,hp,hx,rfl⟩:=tA.1 he;have:=h.gn hp hx;exact aG8 zO hx zO
def sw(m k:Da):List Ed:=(fv m 0++fv k m.n)++qY m.n m.fin (m.n+k.st) (fv m 0++fv k m.n)
def tB(m k:Da):Nat:=if m.fin m.st=true then 2^m.st|||2^(m.n+k.st)else 2^m.st
def zX(m k:Da):Nat:=jE 0 k.fin m.n k.n
def na(m k:Da):Nf:=eM m.L (m.n+k.n) (tB m k) (zX m k) (sw m k)
theorem aG9{L S:Nat}{e:Ed}(h:e.In (L:Int) (S:Int)):0<=e.f∧0<=e.l∧0<=e.t:=by unfold Ed.In at h;omega
section
variable {m k:Da}(hm:m.Ok)(hk:k.Ok)(hL:m.L=k.L)
include hm hk hL
theorem aeF{e:Ed}(he:e∈fv m 0++fv k m.n):e.In (m.L:Int) ((m.n+k.n:Nat):Int):=by
 rcases gh.1 he with he|he
 .exact apR hm zO he
 .rw[hL];exact apR hk zO he
theorem apS{e:Ed}(he:e∈sw m k):e.In (m.L:Int) ((m.n+k.n:Nat):Int):=by
 rcases gh.1 he with he|he
 .exact aeF hm hk hL he
 .obtain⟨e',h1,h2,h3,rfl⟩:=aeC.1 he;have:=aeF hm hk hL h1;have:=hk.s;unfold Ed.In at*
  simp only;omega
theorem OL(hs:m.n+k.n<=64):Ev m.L (m.n+k.n) (tB m k) (zX m k) (sw m k)where
 l1:=hm.l1
 l6:=hm.l6
 yc:=hs
 st:=by
  have h1:=hm.s;have h2:=hk.s;unfold tB;split
  .exact qt (kK zO zO) (kK zO zO)
  .exact kK zO zO
 fin:=OK (Nat.two_pow_pos _) zO
 E:=fun e he=>apS hm hk hL he
 len:=by
  have h1:=yf hm (off:=0) (n:=m.n);have h2:=yf hk (off:=m.n) (n:=k.n);have h3:=aeD (l:=fv m 0++fv k m.n) (n:=m.n) (to:=m.n+k.st) (f:=m.fin);unfold sw;rw[dQ];rw[dQ]at*
  unfold fv at*
  omega
end
theorem aeG{q i:Nat}:(2^q).testBit i=true↔i=q:=by rw[wm,fp];exact eq_comm
theorem aeH{f:Nat->Bool}{off n j:Nat}:(jE 0 f off n).testBit j=true↔off<=j∧j<n+off∧f (j-off)=true:=by
 rw[aeB,Aj,EM,aZ,fp,and_assoc]
theorem HD{m k:Da}(hm:m.Ok)(hL:m.L=k.L){p x q:Nat}:gJ p x q∈sw m k↔(p<m.n∧x<m.L∧(q=m.nx p x∨m.fin (m.nx p x)=true∧q=m.n+k.st))∨∃p',p=p'+m.n∧p'<k.n∧x<m.L∧q=k.nx p' x+m.n:=by
 unfold sw;rw[gh,gh,tA,tA,aeC];constructor
 .rintro((⟨p',x',h1,h2,h3⟩|⟨p',x',h1,h2,h3⟩)|⟨e',h1,h2,h3,h4⟩)
  .obtain⟨rfl,rfl,rfl⟩:=Vl.1 h3;exact .inl ⟨h1,h2,.inl rfl⟩
  .obtain⟨rfl,rfl,rfl⟩:=Vl.1 h3;exact .inr ⟨p',rfl,h1,hL▸h2,rfl⟩
  .rcases gh.1 h1 with h1|h1
   .obtain⟨p',x',g1,g2,rfl⟩:=tA.1 h1;have e:gJ p x q=gJ (p'+0) x' (m.n+k.st):=h4;obtain⟨rfl,rfl,rfl⟩:=Vl.1 e;exact .inl ⟨g1,g2,.inr ⟨h3,rfl⟩⟩
   .obtain⟨p',x',g1,g2,rfl⟩:=tA.1 h1;have:(gJ (p'+m.n) x' (k.nx p' x'+m.n)).t.toNat=k.nx p' x'+m.n:=rfl;omega
 .rintro(⟨h1,h2,rfl|⟨h3,rfl⟩⟩|⟨p',rfl,h1,h2,rfl⟩)
  .exact .inl (.inl ⟨p,x,h1,h2,rfl⟩)
  .exact .inr ⟨gJ p x (m.nx p x),Pe _ (tA.2 ⟨p,x,h1,h2,rfl⟩),hm.gn h1 h2,h3,rfl⟩
  .exact .inl (.inr ⟨p',x,h1,hL▸h2,rfl⟩)
section
variable {m k:Da}(hm:m.Ok)(hk:k.Ok)(hL:m.L=k.L)
include hm hk hL
theorem Vm:∀{w:LN}{j t:Nat},j<k.n->WL m.L w->(oP (sw m k) (j+m.n) w t↔t=k.run j w+m.n)
 |[],j,t,_,_=>by
  show j+m.n=t↔_;exact eq_comm
 |x::w,j,t,hj,hw=>by
  rw[Da.adE];have ih:=fun t=>Vm (w:=w) (j:=k.nx j x) (t:=t) (hk.gn hj (hL▸hw.head)) hw.tail;constructor
  .rintro⟨q,h1,h2⟩;rcases(HD hm hL).1 h1 with⟨h3,_⟩|⟨p',h3,h4,h5,rfl⟩
   .omega
   .obtain rfl:j=p':=zO;exact(ih t).1 h2
  .intro h;exact⟨_,(HD hm hL).2 (.inr ⟨j,rfl,hj,hw.head,rfl⟩),(ih t).2 h⟩
theorem aeI:∀{w:LN}{i t:Nat},i<m.n->WL m.L w->(oP (sw m k) i w t↔t=m.run i w∨∃u v,w=u++v∧u≠[]∧m.fin (m.run i u)=true∧t=k.run k.st v+m.n)
 |[],i,t,_,_=>by
  show i=t↔_;constructor
  .intro h;exact .inl h.symm
  .rintro(h|⟨u,v,h1,h2,_⟩)
   .exact h.symm
   .exact absurd (List.append_eq_nil_iff.1 h1.symm).1 h2
 |x::w,i,t,hi,hw=>by
  rw[Da.adE];have hn:=hm.gn hi hw.head;have ih:=aeI (w:=w) (i:=m.nx i x) (t:=t) hn hw.tail;have h2:=Vm hm hk hL (w:=w) (j:=k.st) (t:=t) hk.s hw.tail;constructor
  .rintro⟨q,h3,h4⟩;rcases(HD hm hL).1 h3 with⟨_,_,rfl|⟨h5,rfl⟩⟩|⟨p',h5,h6,_⟩
   .rcases ih.1 h4 with h5|⟨u,v,rfl,h5,h6,h7⟩
    .exact .inl h5
    .exact .inr ⟨x::u,v,rfl,zS,h6,h7⟩
   .rw[B9]at h4;exact .inr ⟨[x],w,rfl,zS,h5,h2.1 h4⟩
   .omega
  .rintro(h|⟨u,v,h3,h4,h5,h6⟩)
   .exact⟨_,(HD hm hL).2 (.inl ⟨hi,hw.head,.inl rfl⟩),ih.2 (.inl h)⟩
   .cases u with
    |nil=>exact absurd rfl h4
    |cons y u=>
     simp only[List.cons_append,EN]at h3;obtain⟨rfl,rfl⟩:=h3;rw[Da.adE]at h5;by_cases hu:u=[]
     .subst hu;refine⟨m.n+k.st,(HD hm hL).2 (.inl ⟨hi,hw.head,.inr ⟨h5,rfl⟩⟩),?_⟩;rw[B9];exact h2.2 h6
     .exact⟨_,(HD hm hL).2 (.inl ⟨hi,hw.head,.inl rfl⟩),ih.2 (.inr ⟨u,v,rfl,hu,h5,h6⟩)⟩
theorem aHa{w:LN}(hw:WL m.L w):Ew (tB m k) (zX m k) (sw m k) w↔∃u v,w=u++v∧m.acc m.st u=true∧k.acc k.st v=true:=by
 have hs:=hm.s;have jc:=hk.s;have hS:∀i,(tB m k).testBit i=true↔i=m.st∨m.fin m.st=true∧i=m.n+k.st:=by
  intro i;unfold tB;split
  .next h=>rw[rh,ri,aeG,aeG];simp[h]
  .next h=>rw[aeG];simp[h]
 have hF:∀t,(zX m k).testBit t=true↔m.n<=t∧t<k.n+m.n∧k.fin (t-m.n)=true:=fun t=>aeH;unfold Ew;constructor
 .rintro⟨i,t,h1,h2,h3⟩;obtain⟨h4,h5,h6⟩:=(hF t).1 h2;rcases(hS i).1 h1 with rfl|⟨h7,rfl⟩
  .rcases(aeI hm hk hL hs hw).1 h3 with h8|⟨u,v,rfl,h8,h9,rfl⟩
   .have:=hm.By w hs hw;omega
   .refine⟨u,v,rfl,h9,?_⟩;rw[Af]at h6;exact h6
  .rw[B9]at h3;have h8:=(Vm hm hk hL jc hw).1 h3;refine⟨[],w,rfl,h7,?_⟩;rw[h8,Af]at h6;exact h6
 .rintro⟨u,v,rfl,h1,h2⟩;have hv:WL m.L v:=(WL.app.1 hw).2;have hr:=hk.By v jc (hL▸hv);by_cases hu:u=[]
  .subst hu;refine⟨m.n+k.st,k.run k.st v+m.n,(hS _).2 (.inr ⟨h1,rfl⟩),(hF _).2 ⟨zO,zO,?_⟩,?_⟩
   .rw[Af];exact h2
   .rw[B9 m.n];exact(Vm hm hk hL jc hv).2 rfl
  .refine⟨m.st,k.run k.st v+m.n,(hS _).2 (.inl rfl),(hF _).2 ⟨zO,zO,?_⟩,?_⟩
   .rw[Af];exact h2
   .exact(aeI hm hk hL hs hw).2 (.inr ⟨u,v,rfl,hu,h1,rfl⟩)
end
section
variable {a b:Da}(ha:a.Ok)(hb:b.Ok)(hL:a.L=b.L)
include ha hb hL
theorem aHb(hs:(minD a).n+(minD b).n<=64):CC 90 (eG a (dM b))=some (nR (jL (na (minD a) (minD b)) a.L ((minD a).n+(minD b).n)) (oO (na (minD a) (minD b)) a.L ((minD a).n+(minD b).n))):=by
 have hm:=eZ ha;have hk:=eZ hb;have BK:=ma ha;have hLk:=ma hb;have jY:(minD a).L=(minD b).L:=by rw[BK,hLk,hL]
 have cv:=hm.s;have hsk:=hk.s;have hr:=aGU (OL hm hk jY hs);have l1:=yf hm (off:=0) (n:=(minD a).n);have l2:=yf hk (off:=(minD a).n) (n:=(minD b).n);refine amK ?_;unfold acW aj;refine bs (U6 ha hb hL) (bF rfl ?_);have e0:(gL ((El (minD a) (minD b) 0).drop 5))=(minD a).cj:=rfl;have e1:(gL ((((El (minD a) (minD b) 0).drop 5).drop 1).drop 1))=(minD b).cj:=rfl;have e2:(gI (((El (minD a) (minD b) 0).drop 2).drop 1))=((minD b).st:Int):=rfl;have e3:(gI ((El (minD a) (minD b) 0).drop 1))=((minD a).st:Int):=rfl;rw[e0,e1,e2,e3,Da.sk,Da.sk,tz zO,tz zO];refine bs (aGX hs) (bF rfl ?_);refine bs (apP (l:=[]) hm (off:=0) zO zS) ?_;rw[List.nil_append];refine bs (apP hk (off:=(minD a).n) zO (by unfold fv;omega)) ?_;refine bs (aG1 (n:=(minD a).n) (f:=(minD a).fin) (fun e he=>aG9 (aeF hm hk jY he)) (by rw[dQ];unfold fv;omega) zO) ?_;refine bs (apO (q:=(minD a).st) zO zO) ?_;refine bT (anZ cv) ?_;rw[Int.toNat_natCast];refine bs (fP cv) ?_;rw[BK]at hr;have fin:∀(s:Nat),s=tB (minD a) (minD b)->s<2^64->((CC 107 [aB (minD b).cj,vI ((minD a).n:Int),vI a.L,vI ((minD a).n+(minD b).n:Nat),.int .u64 s,.int .u64 (0:Nat),cg ((sw (minD a) (minD b)).map Ed.enc)]).bind fun qj=>
    (CC 108 [vI (gI qj),vI (gI (qj.drop 1)),.int .u64 (gI ((qj.drop 1).drop 1)),.int .u64 (gI (((qj.drop 1).drop 1).drop 1)),cg (gL (qj.drop 4))]).bind fun jw=>
    some [vI (gI jw),vI (gI (jw.drop 1)),vI (gI (jw.drop 2)),aB (gL ((jw.drop 3).drop 5)),aE (gL (((jw.drop 3).drop 5).drop 1))])=some (nR (jL (na (minD a) (minD b)) a.L ((minD a).n+(minD b).n)) (oO (na (minD a) (minD b)) a.L ((minD a).n+(minD b).n))):=by
  rintro s rfl mR;refine bs (aGZ (n:=(minD b).n) (f:=(minD b).fin) (off:=(minD a).n) zO zO) ?_;refine bs hr ?_;show _=some (nR (jL (eM (minD a).L _ _ _ _) a.L _) (oO (eM (minD a).L _ _ _ _) a.L _));rw[BK];rfl
 have p1:(2:Nat)^(minD a).st<2^64:=kK zO zO;have p2:(2:Nat)^((minD a).n+(minD b).st)<2^64:=kK zO zO;unfold Ue;rw[Nat.zero_or];cases hf:(minD a).fin (minD a).st with
 |true=>
  refine bT rfl ?_;rw[tz zO];refine bs (apO (q:=(minD a).n+(minD b).st) zO p1) ?_;exact fin _ (ai hf).symm (qt p1 p2)
 |false=>
  refine bF rfl ?_;exact fin _ (af (by rw[hf];simp)).symm p1
theorem aHc(hs:64<(minD a).n+(minD b).n):CC 90 (eG a (dM b))=some (nR zD 3):=by
 have h1:=(eZ ha).dr;have h2:=(eZ hb).dr;refine amK ?_;unfold acW aj;refine bs (U6 ha hb hL) (bF rfl ?_);have e0:(gL ((El (minD a) (minD b) 0).drop 5))=(minD a).cj:=rfl;have e1:(gL ((((El (minD a) (minD b) 0).drop 5).drop 1).drop 1))=(minD b).cj:=rfl;rw[e0,e1,Da.sk,Da.sk,tz zO];refine bs (aGY hs) (bT rfl ?_);rfl
end
def oQ(m k:Da)(p:Nat)(n:Nat):List Ed:=(List.range n).flatMap fun x=>if m.fin (m.nx p x)=true then[gJ p x (m.n+k.st)]else[]
theorem apU{m k:Da}{p n:Nat}:oQ m k p (n+1)=oQ m k p n++(if m.fin (m.nx p n)=true then[gJ p n (m.n+k.st)]else[]):=by simp[oQ,B7]
theorem Vn{m k:Da}{p:Nat}:∀{n:Nat},(oQ m k p n).length<=n
 |0=>by simp[oQ]
 |n+1=>by
  rw[apU,dQ];have:=Vn (m:=m) (k:=k) (p:=p) (n:=n);split
  .rw[List.length_singleton];omega
  .rw[List.length_nil];omega
def HE(d:Nat)(e:Ed):Ed:=⟨(d:Int)+e.f,e.l,(d:Int)+e.t⟩
def HF(m k:Da):List Ed:=(fv m 0++fm m.n fun p=>oQ m k p m.L)++(fv k 0).map (HE m.n)
theorem aeJ{d p x q:Nat}:HE d (gJ p x q)=gJ (p+d) x (q+d):=by
 show Ed.mk ((d:Int)+(p:Int)) (x:Int) ((d:Int)+(q:Int))=Ed.mk ((p+d:Nat):Int) (x:Int) ((q+d:Nat):Int);rw[Ed.mk.injEq];exact⟨zO,rfl,zO⟩
section
variable {m k:Da}(hm:m.Ok)(hk:k.Ok)(hL:m.L=k.L)
include hm hk hL
omit hk hL in
theorem apV{e:Ed}:e∈HF m k↔e∈sw m k:=by
 unfold HF sw;have h1:(∃i,i<m.n∧e∈oQ m k i m.L)↔e∈qY m.n m.fin (m.n+k.st) (fv m 0++fv k m.n):=by
  rw[aeC];unfold oQ;simp only[List.mem_flatMap,lj];constructor
  .rintro⟨p,hp,x,hx,h⟩;split at h
   .next c=>
    rw[oc]at h;exact⟨gJ p x (m.nx p x),Pe _ (tA.2 ⟨p,x,hp,hx,rfl⟩),hm.gn hp hx,c,h⟩
   .cases h
  .rintro⟨e',h1,h2,h3,rfl⟩;rcases gh.1 h1 with h1|h1
   .obtain⟨p,x,hp,hx,rfl⟩:=tA.1 h1;have vi:m.fin (m.nx p x)=true:=h3;refine⟨p,hp,x,hx,?_⟩;rw[ai vi];exact oc.2 rfl
   .obtain⟨p,x,hp,hx,rfl⟩:=tA.1 h1;have:(gJ (p+m.n) x (k.nx p x+m.n)).t.toNat=k.nx p x+m.n:=rfl;omega
 have h2:e∈(fv k 0).map (HE m.n)↔e∈fv k m.n:=by
  rw[lh,tA];constructor
  .rintro⟨e',g1,g2⟩;obtain⟨p,x,hp,hx,rfl⟩:=tA.1 g1;exact⟨p,x,hp,hx,g2.symm.trans aeJ⟩
  .rintro⟨p,x,hp,hx,rfl⟩;exact⟨_,tA.2 ⟨p,x,hp,hx,rfl⟩,aeJ⟩
 rw[gh,gh,gh,gh,apL,h1,h2,or_assoc,or_assoc,or_comm (a:=e∈qY _ _ _ _)]
theorem aHd(hs:m.n+k.n<=64):Ev m.L (m.n+k.n) (tB m k) (zX m k) (HF m k)where
 l1:=hm.l1
 l6:=hm.l6
 yc:=hs
 st:=(OL hm hk hL hs).st
 fin:=(OL hm hk hL hs).fin
 E:=fun e he=>apS hm hk hL ((apV hm).1 he)
 len:=by
  have h1:=yf hm (off:=0) (n:=m.n);have h2:=yf hk (off:=0) (n:=k.n);have h3:(fm m.n fun p=>oQ m k p m.L).length<=m.n*6:=aeA fun p _=>mD Vn hm.l6;unfold HF;rw[dQ,dQ,cu];unfold fv;omega
end
theorem aHe{f:Nat->Bool}{d n:Nat}:jE 0 f 0 n*2^d=jE 0 f d n:=by
 refine B8 fun j=>?_;rw[Nat.testBit_mul_two_pow,sD,aZ,aeH,aeH,fp];rw[Nat.sub_zero];constructor
 .rintro⟨h1,h2,h3,h4⟩;exact⟨h1,zO,h4⟩
 .rintro⟨h1,h2,h3⟩;exact⟨h1,zO,zO,h3⟩
section
variable {a b:Da}(ha:a.Ok)(hb:b.Ok)(hL:a.L=b.L)
include ha hb hL
theorem aHf(hs:(minD a).n+(minD b).n<=64):CC 33 (eG a (dM b))=some (nR (jL (na (minD a) (minD b)) a.L ((minD a).n+(minD b).n)) (oO (na (minD a) (minD b)) a.L ((minD a).n+(minD b).n))):=by
 have hm:=eZ ha;have hk:=eZ hb;have BK:=ma ha;have hLk:=ma hb;have jY:(minD a).L=(minD b).L:=by rw[BK,hLk,hL]
 have cv:=hm.s;have hsk:=hk.s;have hm6:=hm.l6;have hr:=aGV (aHd hm hk jY hs);have en:eM (minD a).L ((minD a).n+(minD b).n) (tB (minD a) (minD b)) (zX (minD a) (minD b)) (HF (minD a) (minD b))=na (minD a) (minD b):=by
  unfold na eM;rw[aGS fun e=>apV hm (e:=e)]
 rw[en,BK]at hr;have l1:=yf hm (off:=0) (n:=(minD a).n);have l2:=yf hk (off:=0) (n:=(minD b).n);have l3:∀i,(fm i fun p=>oQ (minD a) (minD b) p (minD a).L).length<=i*6:=fun i=>aeA fun p _=>mD Vn hm6;refine amL ?_;unfold ac1 aj;refine bs (oN ha) ?_;refine bs (oN hb) ?_;refine bs (apQ hm zO) ?_;refine bs (apQ hk zO) ?_;simp only[aN,dM,eG,V.bj,iR,gK,V.toInt_int,V.dD,Da.sk,cu,gI,gL,bM,jq,vL,fV,mr,lX,s9,A4];rw[tz zO];refine bF (bX zO) ?_;refine bs (BJ (minD a).n (fun i=>((i:Int),(fv (minD a) 0++fm i fun p=>oQ (minD a) (minD b) p (minD a).L).map Ed.enc)) (((minD a).n:Int),false,(fv (minD a) 0++fm (minD a).n fun p=>oQ (minD a) (minD b) p (minD a).L).map Ed.enc) (by rw[apK,jO];rfl) (fun p hp=>?_) ?_) ?_
 .have l4:=l3 p;simp only[acY,Nk,un,aj];refine bT (dd hp) ?_;refine(gu (i:=p) hp).trans ?_;rw[show(ff (minD a).L ((minD a).nx p)).toList=tab (minD a).L fun x=>nV ((minD a).nx p x)from rfl,dJ];refine bs (BJ (minD a).L (fun i=>((i:Int),((fv (minD a) 0++fm p fun p=>oQ (minD a) (minD b) p (minD a).L)++oQ (minD a) (minD b) p i).map Ed.enc)) (((minD a).L:Int),false,((fv (minD a) 0++fm p fun p=>oQ (minD a) (minD b) p (minD a).L)++oQ (minD a) (minD b) p (minD a).L).map Ed.enc) (by rw[show oQ (minD a) (minD b) p 0=[]from rfl,jO];rfl) (fun x hx=>?_) ?_) ?_
  .have l5:=Vn (m:=minD a) (k:=minD b) (p:=p) (n:=x);simp only[acX,Nj,un];refine bT (dd hx) ?_;refine bs (nM hx) ?_;refine(gu (i:=(minD a).nx p x) (hm.gn hp hx)).trans ?_;rw[apU,tz zO];cases hf:(minD a).fin ((minD a).nx p x)with
   |true=>
    refine bT rfl ?_;refine bT (cap (by rw[cu,dQ,dQ];unfold fv;simp;omega) zO) ?_;rw[OJ,cN zO,ai rfl,<-iC]
   |false=>
    refine bF rfl ?_;rw[cN zO,af zS,jO]
  .simp only[acX,Nj,un];refine bF (bN (aC _)) ?_;rw[bN (aC _)]
  .simp only[un];rw[cN zO,Vk,<-iC]
 .simp only[acY,Nk,un,aj];refine bF (bN (aC _)) ?_;rw[bN (aC _)]
 .simp only[un];have l4:=l3 (minD a).n;refine bs (BJ (fv (minD b) 0).length (fun i=>((i:Int),((fv (minD a) 0++fm (minD a).n fun p=>oQ (minD a) (minD b) p (minD a).L)++((fv (minD b) 0).take i).map (HE (minD a).n)).map Ed.enc)) (((fv (minD b) 0).length:Int),false,(HF (minD a) (minD b)).map Ed.enc) (by rw[List.take_zero,yr,jO];rfl) (fun i hi=>?_) ?_) ?_
  .have hl:((fv (minD b) 0).take i).length<=i:=List.length_take_le _ _;have sE:(fv (minD b) 0).length<=(minD b).n*6:=l2;simp only[ac0,Nl,un,aj];refine bT (dd hi) ?_;refine(cK (i:=i) (v:=(fv (minD b) 0)[i].enc) (by simp[hi])).trans ?_;obtain⟨p,x,hp,hx,he⟩:=tA.1 (gC hi);have hq:=hk.gn hp hx;rw[Ed.iT,Ed.iU,Ed.iW];have t1:(fv (minD b) 0)[i].f=((p+0:Nat):Int):=by rw[he];rfl
   have t2:(fv (minD b) 0)[i].l=(x:Int):=by rw[he];rfl
   have t3:(fv (minD b) 0)[i].t=(((minD b).nx p x+0:Nat):Int):=by rw[he];rfl
   rw[t1,t2,t3,tz zO,tz zO];refine bT (cap (by rw[cu,dQ,dQ,cu];unfold fv at*;simp;omega) zO) ?_;have e6:((fv (minD b) 0).take (i+1)).map (HE (minD a).n)=((fv (minD b) 0).take i).map (HE (minD a).n)++[gJ (p+0+(minD a).n) x ((minD b).nx p x+0+(minD a).n)]:=by rw[H9 hi,sC,List.map_singleton,he,aeJ]
   rw[OJ,cN zO,e6,<-iC,B9 (minD a).n (p+0),B9 (minD a).n ((minD b).nx p x+0)]
  .simp only[ac0,Nl,un,aj];refine bF (bN (aC _)) ?_;rw[bN (aC _),ym];rfl
  .simp only[un];refine bT (anZ cv) ?_;rw[Int.toNat_natCast];refine bs (fP cv) ?_;have p1:(2:Nat)^(minD a).st<2^64:=kK zO zO;have p2:(2:Nat)^((minD a).n+(minD b).st)<2^64:=kK zO zO;have p3:jE 0 (minD b).fin (minD a).n (minD b).n<2^64:=OK (Nat.two_pow_pos _) zO;have es:wU ((jE 0 (minD b).fin 0 (minD b).n:Int)*2^(min (wU ((minD a).n:Int)).toNat kU))=((zX (minD a) (minD b):Nat):Int):=by
    rw[sY zO,Int.toNat_natCast,show min (minD a).n kU=(minD a).n from BZ (show(minD a).n<=64 by omega),show((jE 0 (minD b).fin 0 (minD b).n:Int)*2^(minD a).n)=((jE 0 (minD b).fin 0 (minD b).n*2^(minD a).n:Nat):Int) by rw[Int.natCast_mul,Int.natCast_pow];rfl,aHe,sY p3];rfl
   have eb:decide (0<=wU ((minD a).n:Int))=true:=by rw[sY zO];exact bQ zO
   unfold Uf;cases hf:(minD a).fin (minD a).st with
   |true=>
    refine bT rfl ?_;rw[tz zO];refine bs (U9 zO) ?_;rw[show(gI [V.int .u64 ((2^((minD a).n+(minD b).st):Nat):Int)])=((2^((minD a).n+(minD b).st):Nat):Int)from rfl,u64_or p1 p2,show 2^(minD a).st|||2^((minD a).n+(minD b).st)=tB (minD a) (minD b)from(ai hf).symm];refine bT eb ?_;rw[es,BK];refine bs hr ?_;rfl
   |false=>
    refine bF rfl ?_;rw[show((2^(minD a).st:Nat):Int)=((tB (minD a) (minD b):Nat):Int)from congrArg _ (af (by rw[hf];simp)).symm];refine bT eb ?_;rw[es,BK];refine bs hr ?_;rfl
end
section
variable {a b:Da}(ha:a.Ok)(hb:b.Ok)(hL:a.L=b.L){op:Nat}
include ha hb hL
theorem aHg{S U:List (NP)}{p:NP}(hp0:PI a b p){x:Nat}(hx:x<a.L)(Hr:aT (pn a b) S p (x+1)<+:U)(hU:(aT (pn a b) S p (x+1)).length<=512){o i c1 c2 c3 c4 c5 c6 c7:Int}{l1 l2 l3 l4 l5 l6:LV}:
  Bm CC o i (a.L:Int) c1 l1 a.bL c2 c3 l2 b.bL c4 c5 c6 c7 (p.p:Int) (p.q:Int) l3 l4 l5 l6 ((x:Int),pS (aT (pn a b) S p x),pM (aT (pn a b) S p x),(tab x fun j=>nV (U.idxOf (pn a b p j))))=
   some (.inl (((x+1:Nat):Int),pS (aT (pn a b) S p (x+1)),pM (aT (pn a b) S p (x+1)),(tab (x+1) fun j=>nV (U.idxOf (pn a b p j))))):=by
 have h6:=ha.l6;have BE:=ha.dr;have xf:=hb.dr;have hn:=Ho ha hb hL hp0 hx;unfold PI at hn;have gl:=hU;have k1:cS .i64 ((a.nx p.p x:Nat):Int)=true:=lZ (by have:(pn a b p x).p=a.nx p.p x:=rfl;omega);have k2:cS .i64 ((b.nx p.q x:Nat):Int)=true:=lZ (by have:(pn a b p x).q=b.nx p.q x:=rfl;omega);simp only[Bm,DI,un];refine bT (dd hx) ?_;refine bs (Da.nO hp0.1) ?_;rw[m8];refine bs (pE hx) ?_;refine bs (Da.nO hp0.2) ?_;rw[m8];refine bs (pE (hL▸hx)) ?_;simp only[V.toInt_int];refine bT (by rw[k1,k2];rfl) ?_;rw[show(V.agg [vI (a.nx p.p x:Nat),vI (b.nx p.q x:Nat)])=pV (pn a b p x)from rfl];have e1:=tu yb (pn a b p x) (aT (pn a b) S p x) 0;unfold GF;rw[show fi (pV (pn a b p x)) (pM (aT (pn a b) S p x))=_ from e1,show(V.agg [vI (a.nx p.p x:Nat),vI (b.nx p.q x:Nat)])=pV (pn a b p x)from rfl];have ei:U.idxOf (pn a b p x)=(dI (aT (pn a b) S p x) (pn a b p x)).idxOf (pn a b p x):=xW Hr zL;rw[He]at ei;rw[aT,tq]at gl;by_cases h:pn a b p x∈aT (pn a b) S p x
 .have e2:=xZ yb (pn a b p x) (vI 0) (aT (pn a b) S p x) 0 h;rw[dT]at e2;rw[ai h]at ei;refine bF (by simpa using h) ?_;rw[show gV (pV (pn a b p x)) (pM (aT (pn a b) S p x)) (vI 0)=_ from e2,V.toInt_int,<-ei];simp only[db,un];refine bT (cap (by rw[dJ];simp;omega) zO) ?_;rw[cN zO,iz,aT];unfold dI;rw[ai h];rfl
 .rw[af h]at ei gl;refine bT (by simpa using h) ?_;refine bF (by rw[pF];simp;omega) ?_;refine bT (by rw[k1,k2];rfl) ?_;refine bT (cap (by rw[pF];simp;omega) zO) ?_;simp only[db,un];refine bT (cap (by rw[dJ];simp;omega) zO) ?_;have e2:=ya yb (pn a b p x) (aT (pn a b) S p x) 0 h;rw[dT]at e2;rw[pF,show fj (pV (pn a b p x)) _ (pM (aT (pn a b) S p x))=_ from e2,<-ei,cN zO,iz,aT];unfold dI;rw[af h];simp[pS,pM,nV]
theorem aHh{T:List (NP)}{p:NP}(hp0:PI a b p)(hT:T.length<=512)(hU:512<(aT (pn a b) T p a.L).length){o i c1 c2 c3 c4 c5 c6 c7:Int}{l1 l2 l3 l4 l5 l6:LV}:
  Loop (Bm CC o i (a.L:Int) c1 l1 a.bL c2 c3 l2 b.bL c4 c5 c6 c7 (p.p:Int) (p.q:Int) l3 l4 l5 l6) (0,pS T,pM T,([]:LV))=some (.inl (3,0,0,[],[])):=by
 obtain⟨y,hy,QQ,hy2,hy3⟩:=aoy hT hU;have h6:=ha.l6;have BE:=ha.dr;have xf:=hb.dr;refine(ah8 (fun x=>((x:Int),pS (aT (pn a b) T p x),pM (aT (pn a b) T p x),(tab x fun j=>nV ((aT (pn a b) T p y).idxOf (pn a b p j))))) y (fun x hx=>?_) ?_)
 .exact aHg ha hb hL hp0 zO (uC T p zO) (hy3 (x+1) zO)
 .have hn:=Ho ha hb hL hp0 hy;unfold PI at hn;have k1:cS .i64 ((a.nx p.p y:Nat):Int)=true:=lZ (by have:(pn a b p y).p=a.nx p.p y:=rfl;omega);have k2:cS .i64 ((b.nx p.q y:Nat):Int)=true:=lZ (by have:(pn a b p y).q=b.nx p.q y:=rfl;omega);simp only[Bm,DI,un];refine bT (dd hy) ?_;refine bs (Da.nO hp0.1) ?_;rw[m8];refine bs (pE hy) ?_;refine bs (Da.nO hp0.2) ?_;rw[m8];refine bs (pE (hL▸hy)) ?_;simp only[V.toInt_int];refine bT (by rw[k1,k2];rfl) ?_;rw[show(V.agg [vI (a.nx p.p y:Nat),vI (b.nx p.q y:Nat)])=pV (pn a b p y)from rfl];have e1:=tu yb (pn a b p y) (aT (pn a b) T p y) 0;unfold GF;rw[show fi (pV (pn a b p y)) (pM (aT (pn a b) T p y))=_ from e1];refine bT (by simpa using hy2) ?_;refine bT (by rw[pF];simp;omega) ?_;rfl
theorem apW(ho:op<=15){i:Nat}(fH:i<(ao a.L (pn a b) ⟨a.st,b.st⟩ i).length)(hlen:(ao a.L (pn a b) ⟨a.st,b.st⟩ i).length<=512){k1 k2 k3 k4:Int}{l1 l2 l3 l4:LV}(Hp:l3.length<=1000)(hl4:l4.length<=1000):
  ((ao a.L (pn a b) ⟨a.st,b.st⟩ (i+1)).length<=512->∃x y,zz CC (op:Int) (a.L:Int) k1 a.cj a.bL k2 k3 b.cj b.bL 0 0 (a.L:Int) k4 l1 l2 ((i:Int),pS (ao a.L (pn a b) ⟨a.st,b.st⟩ i),pM (ao a.L (pn a b) ⟨a.st,b.st⟩ i),l3,l4)=
   some (.inl (((i+1:Nat):Int),pS (ao a.L (pn a b) ⟨a.st,b.st⟩ (i+1)),pM (ao a.L (pn a b) ⟨a.st,b.st⟩ (i+1)),l3++[x],l4++[y])))∧
  (512<(ao a.L (pn a b) ⟨a.st,b.st⟩ (i+1)).length->zz CC (op:Int) (a.L:Int) k1 a.cj a.bL k2 k3 b.cj b.bL 0 0 (a.L:Int) k4 l1 l2 ((i:Int),pS (ao a.L (pn a b) ⟨a.st,b.st⟩ i),pM (ao a.L (pn a b) ⟨a.st,b.st⟩ i),l3,l4)=
   some (.inr (.inl (3,0,0,[],[])))):=by
 have h6:=ha.l6;have BE:=ha.dr;have xf:=hb.dr;have hq:PI a b (ao a.L (pn a b) ⟨a.st,b.st⟩ i)[i]:=ad5 ha hb hL _ _ (gC fH);have iL:ao a.L (pn a b) ⟨a.st,b.st⟩ (i+1)=aT (pn a b) (ao a.L (pn a b) ⟨a.st,b.st⟩ i) (ao a.L (pn a b) ⟨a.st,b.st⟩ i)[i] a.L:=Oh (cA fH);refine⟨fun h=>⟨V.bool (pf a b op (ao a.L (pn a b) ⟨a.st,b.st⟩ i)[i]),aR (tab a.L fun x=>nV ((ao a.L (pn a b) ⟨a.st,b.st⟩ (i+1)).idxOf (pn a b (ao a.L (pn a b) ⟨a.st,b.st⟩ i)[i] x))),?_⟩,fun h=>?_⟩
 .simp only[zz,DJ,un];refine bT (bQ (by rw[pF];omega)) ?_;refine(cK (UZ fH)).trans ?_;rw[UX,UY];refine bs (aoE ha hb hL hq (U:=ao a.L (pn a b) ⟨a.st,b.st⟩ (i+1)) (by rw[<-iL];exact tM _) h) ?_;rw[<-iL];simp only[db,un];refine bT (cap (by simp;omega) zO) ?_;refine bs (Da.qn hq.1) ?_;refine bs (Da.qn hq.2) ?_;refine bs (aoD ho _ _) ?_;refine bT (cap (by simp;omega) zO) ?_;rw[cN zO];rfl
 .simp only[zz,DJ,un];refine bT (bQ (by rw[pF];omega)) ?_;refine(cK (UZ fH)).trans ?_;rw[UX,UY];refine bs (aHh ha hb hL hq hlen (by rw[<-iL];exact h)) ?_;rfl
theorem aHi(ho:op<=15)(hn:jh a b)(AW:CC 78 (eG a (dM b))=some [vI 0]):CC 56 (eG a (eG b [vI op]))=some (nR zD 3):=by
 have h6:=ha.l6;have BE:=ha.dr;have xf:=hb.dr;have hsa:=ha.s;have Jc:=hb.s;obtain⟨m,hm1,mL,U5⟩:=UW (UU (show 512<(ao a.L (pn a b) ⟨a.st,b.st⟩ (a.n*b.n)).length from hn)) zO;refine alH ?_;unfold ach;refine bs AW (bF rfl ?_);refine bF (bX zO) ?_;refine bF (bX zO) ?_;refine bT (by rw[lZ (show a.st<=_ by omega),lZ (show b.st<=_ by omega)];rfl) ?_;have key:∃r,Loop (zz CC (op:Int) (a.L:Int) (a.st:Int) a.cj a.bL (b.L:Int) (b.st:Int) b.cj b.bL 0 0 (a.L:Int) 0 ([]:LV) ([]:LV)) (0,pS [⟨a.st,b.st⟩],pM [⟨a.st,b.st⟩],([]:LV),([]:LV))=some r∧r=(.inl (3,0,0,[],[])):=by
  refine qm (fun i st=>∃l3 l4:LV,l3.length=i∧l4.length=i∧st=((i:Int),pS (ao a.L (pn a b) ⟨a.st,b.st⟩ i),pM (ao a.L (pn a b) ⟨a.st,b.st⟩ i),l3,l4)) _ m 0 _ (fun i _ hi st cv=>?_) (fun st cv=>?_) ⟨[],[],rfl,rfl,rfl⟩
  .obtain⟨l3,l4,e3,e4,rfl⟩:=cv;obtain⟨h1,h2⟩:=mL i zO;obtain⟨x,y,h4⟩:=(apW ha hb hL ho h1 h2 (k1:=(a.st:Int)) (k2:=(b.L:Int)) (k3:=(b.st:Int)) (k4:=0) (l1:=[]) (l2:=[]) (l3:=l3) (l4:=l4) zO zO).1 (mL (i+1) zO).2;exact⟨_,h4,_,_,by simp[e3],by simp[e4],rfl⟩
  .obtain⟨l3,l4,e3,e4,rfl⟩:=cv;rw[dT]at*
   obtain⟨h1,h2⟩:=mL m zO;exact⟨_,(apW ha hb hL ho h1 h2 (k1:=(a.st:Int)) (k2:=(b.L:Int)) (k3:=(b.st:Int)) (k4:=0) (l1:=[]) (l2:=[]) (l3:=l3) (l4:=l4) zO zO).2 U5,rfl⟩
 obtain⟨r,h1,rfl⟩:=key;refine bs h1 ?_;rfl
theorem apX(ho:op<=15)(hn:jh (minD a) (minD b)):∃X,CC 32 (eG a (eG b [vI op]))=some (nR X 3):=by
 refine⟨zD,alK ?_⟩;unfold acj;refine bs (oN ha) ?_;refine bs (oN hb) ?_;refine bs (aHi (eZ ha) (eZ hb) (tw ha hb hL) ho hn (aoF (eZ ha) (eZ hb) (tw ha hb hL))) (bT rfl ?_);rfl
end
theorem apY(m:Int)(h0:0<=m)(h:m<1000000):∃v:Int,CC 58 [vI m]=some [.int .u64 v]:=by
 refine⟨wU (1*2^(min m.toNat kU)),alZ ?_⟩;unfold acm;have e:wU m=m:=by unfold wU;rw[wrap_u64];omega
 rw[e];exact bT (bQ h0) rfl
theorem apZ{a:Da}(h:a.Ok):∃(s F:Int) (l:LV),CC 57 (dM a)=some [vI a.L,vI a.n,.int .u64 s,.int .u64 F,cg l]:=by
 have h6:=h.l6;have hm:=h.dr;have cv:=h.s;obtain⟨s,es⟩:=apY (a.st:Int) zO zO;suffices key:∃r:Int×Bool×Int×LV,Loop (D0 CC (a.n:Int) (a.L:Int) (a.st:Int) a.cj a.bL 0 0 0 0 (a.L:Int) (a.n:Int) s ([]:LV)) (0,0,([]:LV))=some r∧True by
  obtain⟨⟨r1,r2,r3,r4⟩,e,_⟩:=key;refine⟨s,r3,r4,amJ ?_⟩;unfold acV;refine bs es ?_;rw[show a.cj.length=a.n from dJ];refine bs e ?_;rfl
 refine qm (fun i x=>∃(F:Int) (l:List Ed),l.length=i*a.L∧x=((i:Int),F,l.map Ed.enc)) _ a.n 0 _ (fun p _ hp x hx=>?_) (fun x hx=>?_) ⟨0,[],zS,rfl⟩
 .obtain⟨F,l,hl,rfl⟩:=hx;rw[dT]at hp;have sE:l.length<=512*6:=by rw[hl];exact Nat.mul_le_mul zO h6
  have key:∀(F:Int),((idx a.bL (p:Int)).bind fun x5=>
   (Loop (DZ CC (p:Int) (a.n:Int) (p:Int) x5.toList (x5.toList.length:Int) (a.L:Int) (a.st:Int) a.cj a.bL 0 0 0 0 (a.L:Int) (a.n:Int) s F ([]:LV)) (0,l.map Ed.enc)).bind (un fun(lA:Int)=>un fun(mw:Bool) (zI:LV)=>
    some (Sum.inl (wI ((p:Int)+1),F,zI):(Int×Int×LV)⊕(Int×Bool×Int×LV))))=some (Sum.inl (((p+1:Nat):Int),F,(l++tab a.L fun x=>gJ p x (a.nx p x)).map Ed.enc)):=by
   intro F;refine bs (nM hp) ?_;rw[show(ff a.L (a.nx p)).toList=tab a.L fun x=>nV (a.nx p x)from rfl,dJ];refine bs (BJ a.L (fun i=>((i:Int),(l++tab i fun x=>gJ p x (a.nx p x)).map Ed.enc)) ((a.L:Int),false,(l++tab a.L fun x=>gJ p x (a.nx p x)).map Ed.enc) (by rw[Om,jO];rfl) (fun x hx=>?_) ?_) ?_
   .simp only[DZ,DY,un];refine bT (dd hx) ?_;refine bs (nM hx) ?_;refine bT (cap (by rw[cu,dQ,dJ];simp;omega) zO) ?_;rw[show(nV (a.nx p x)).toInt=((a.nx p x:Nat):Int)from rfl,OJ,cN zO,iz,<-iC]
   .simp only[DZ,DY,un];refine bF (bN (aC _)) ?_;rw[bN (aC _)]
   .simp only[un];rw[cN zO]
  have Hp:(l++tab a.L fun x=>gJ p x (a.nx p x)).length=(p+1)*a.L:=by rw[dQ,dJ,hl,Ac]
  cases hf:a.fin p with
  |true=>
   obtain⟨v,ev⟩:=apY (p:Int) zO zO;refine⟨(((p+1:Nat):Int),wU ((bU F|||bU v).toNat),(l++tab a.L fun x=>gJ p x (a.nx p x)).map Ed.enc),?_,_,_,Hp,rfl⟩;simp only[D0,Bv,un];refine bT (dd hp) ?_;refine bs (nM hp) ?_;unfold G0;refine bT (by rw[V.iM];exact hf) (bs ev ?_);exact key _
  |false=>
   refine⟨(((p+1:Nat):Int),F,(l++tab a.L fun x=>gJ p x (a.nx p x)).map Ed.enc),?_,_,_,Hp,rfl⟩;simp only[D0,Bv,un];refine bT (dd hp) ?_;refine bs (nM hp) ?_;unfold G0;refine bF (by rw[V.iM];exact hf) ?_;exact key _
 .obtain⟨F,l,hl,rfl⟩:=hx;rw[dT]at*
  refine⟨((a.n:Int),false,F,l.map Ed.enc),?_,trivial⟩;simp only[D0,Bv,un];refine bF (bN (aC _)) ?_;rw[bN (aC _)]
theorem aHj{a b:Da}(ha:a.Ok)(hb:b.Ok)(hs:64<(minD a).n+(minD b).n):CC 33 (eG a (dM b))=some (nR zD 3):=by
 have h1:=(eZ ha).dr;have h2:=(eZ hb).dr;obtain⟨s,F,l,e1⟩:=apZ (eZ ha);obtain⟨s2,F2,l2,e2⟩:=apZ (eZ hb);refine amL ?_;unfold ac1 aj;refine bs (oN ha) ?_;refine bs (oN hb) ?_;refine bs e1 ?_;refine bs e2 ?_;simp only[V.bj,iR,gK,V.toInt_int,gI,gL,gB,bM,jq,vL,hD,fV,mr,lX,s9,A4];rw[tz zO];refine bT (bQ zO) ?_;rfl
theorem aHk{a:Da}(h:a.Ok):CC 34 (dM a)=some (dM (a.tv fun q=>!(a.fin q))):=by
 have hm:=h.dr;have h6:=h.l6;refine aAS ?_;unfold amM;rw[Da.sk];refine bs (fe a.n (fun i=>((i:Int),(tab i fun q=>V.bool (!(a.fin q))),(tab i fun q=>ff a.L (a.nx q)))) ((a.n:Int),false,(bV a.n fun q=>!(a.fin q)),a.bL) (fun q hq=>?_) ?_) ?_
 .simp only[ac2,Nm,un];refine bT (dd hq) ?_;refine bs (Da.qn hq) ?_;refine bT (cap (by rw[dJ];simp;omega) zO) ?_;refine bs (Da.nO hq) ?_;rw[m8,dJ];refine bT (by rw[gg,uA];simp;omega) ?_;refine bT (cap (by rw[dJ];simp;omega) zO) ?_;rw[cN zO,iz,iz];rfl
 .simp only[ac2,Nm,un];refine bF (bN (aC _)) ?_;rw[bN (aC _)];rfl
 .unfold dM eG;rw[Da.aot,Da.aou];rfl
def lG(L:Nat)(b:Bool):Da:=⟨L,0,[b],[List.replicate L 0]⟩
def kH(L:Nat):Da:=⟨L,0,[true,false],[List.replicate L 1,List.replicate L 1]⟩
def iX(L x:Nat):Da:=⟨L,0,[J0,J1,J0],[tab L fun y=>if y=x then 1 else 2,List.replicate L 2,List.replicate L 2]⟩
theorem Ey{L:Nat}{b:Bool}(h1:1<=L)(h2:L<=6):(lG L b).Ok where
 l1:=h1
 l6:=h2
 nN:=rfl
 row:=fun r hr=>by
  obtain rfl:r=List.replicate L 0:=by simpa[lG]using hr
  exact⟨by simp[lG],fun q hq=>by have:=List.eq_of_mem_replicate hq;subst this;exact(show 0<1 by decide)⟩
 s:=by show 0<1;omega
 dr:=by show 1<=512;omega
theorem Vo{L:Nat}(h1:1<=L)(h2:L<=6):(kH L).Ok where
 l1:=h1
 l6:=h2
 nN:=rfl
 row:=fun r hr=>by
  obtain rfl:r=List.replicate L 1:=by simpa[kH]using hr
  exact⟨by simp[kH],fun q hq=>by have:=List.eq_of_mem_replicate hq;subst this;exact(show 1<2 by decide)⟩
 s:=by show 0<2;omega
 dr:=by show 2<=512;omega
theorem Vp{L x:Nat}(h1:1<=L)(h2:L<=6):(iX L x).Ok where
 l1:=h1
 l6:=h2
 nN:=rfl
 row:=fun r hr=>by
  have hn:(iX L x).n=3:=rfl;have hl:(iX L x).L=L:=rfl;rw[hn,hl];have:r=(tab L fun y=>if y=x then 1 else 2)∨r=List.replicate L 2:=by simpa[iX]using hr
  rcases this with rfl|rfl
  .refine⟨dJ,fun q hq=>?_⟩;obtain⟨y,_,rfl⟩:=xY.1 hq;split<;>omega
  .exact⟨zS,fun q hq=>by have:=List.eq_of_mem_replicate hq;omega⟩
 s:=by show 0<3;omega
 dr:=by show 3<=512;omega
theorem HG{L:Nat}{b:Bool}(h:L=1∨L=2):minD (lG L b)=lG L b:=by
 have av:(lG L b).Ok:=Ey zO zO;refine(Hl av ⟨av,rfl,rfl,?_,fun p q hp hq _=>?_,fun _ _=>rfl⟩).symm
 .rcases h with rfl|rfl<;>cases b<;>exact⟨by decide,by decide,by decide⟩
 .have h1:p<1:=hp;have h2:q<1:=hq;omega
theorem aeK{L:Nat}(h:L=1∨L=2):minD (kH L)=kH L:=by
 have av:(kH L).Ok:=Vo zO zO;refine(Hl av ⟨av,rfl,rfl,?_,fun p q hp hq he=>?_,fun _ _=>rfl⟩).symm
 .rcases h with rfl|rfl<;>exact⟨by decide,by decide,by decide⟩
 .have h1:p<2:=hp;have h2:q<2:=hq;have h3:=he [] WL.nil;rcases(by omega:p=0∨p=1)with rfl|rfl<;>rcases(by omega:q=0∨q=1)with rfl|rfl
  .rfl
  .cases h3
  .cases h3
  .rfl
theorem OM{L v:Nat}{f:Nat->Nat}(h:∀x,x<L->f x=v):ff L f=aR (List.replicate L (vI v)):=by
 unfold ff;rw[lB];exact congrArg _ (eK fun x hx=>by rw[h x hx])
theorem yg{L v x:Nat}(h:x<L):(List.replicate L v).getD x 0=v:=by simp[List.getD,h]
theorem ap0{L:Nat}{b:Bool}:(lG L b).bL=[aR (List.replicate L (vI 0))]:=by
 have:(lG L b).bL=[ff L ((lG L b).nx 0)]:=rfl;rw[this,OM (L:=L) (f:=(lG L b).nx 0) (v:=0) fun x hx=>yg hx];rfl
theorem ap1{L:Nat}:(kH L).bL=[aR (List.replicate L (vI 1)),aR (List.replicate L (vI 1))]:=by
 have:(kH L).bL=[ff L ((kH L).nx 0),ff L ((kH L).nx 1)]:=rfl;rw[this,OM (f:=(kH L).nx 0) (v:=1) fun x hx=>yg hx,OM (f:=(kH L).nx 1) (v:=1) fun x hx=>yg hx];rfl
theorem ap2{L x:Nat}:(iX L x).bL=[aR (tab L fun y=>iV ((if y=x then 1 else 2:Nat):Int)),aR (List.replicate L (vI 2)),aR (List.replicate L (vI 2))]:=by
 have:(iX L x).bL=[ff L ((iX L x).nx 0),ff L ((iX L x).nx 1),ff L ((iX L x).nx 2)]:=rfl;rw[this,OM (f:=(iX L x).nx 1) (v:=2) fun x hx=>yg hx,OM (f:=(iX L x).nx 2) (v:=2) fun x hx=>yg hx];congr 1;unfold ff;exact congrArg _ (eK fun y hy=>by rw[show(iX L x).nx 0 y=(tab L fun y=>if y=x then 1 else 2).getD y 0 from rfl,zN hy])
theorem HH{L t:Nat}(h:L<=1000):CC 99 [vI L,vI t]=some [aR (List.replicate L (vI t))]:=by
 refine aAX ?_;unfold amO;refine bT (lC zO zO) ?_;rw[Int.toNat_natCast,BY];have e0:(List.replicate L (vI 0))=tab L fun j=>if j<0 then vI t else vI 0:=by
  rw[lB];exact eK fun j _=>by rw[af zO]
 rw[e0];refine bs (fe L (fun i=>((i:Int),tab L fun j=>if j<i then vI t else vI 0)) ((L:Int),false,List.replicate L (vI t)) (fun i hi=>?_) ?_) rfl
 .simp only[ac3,Nn,un,aj,az];refine bT (dd hi) ?_;refine(gu hi).trans ?_;rw[cN zO,Int.toNat_natCast,m7];refine congrArg (fun z=>some (Sum.inl (((i+1:Nat):Int),z))) (eK fun j _=>?_);by_cases h1:j=i
  .rw[ai h1,ai zO]
  .rw[af h1];by_cases h2:j<i
   .rw[ai h2,ai zO]
   .rw[af h2,af zO]
 .simp only[ac3,Nn,un,aj,az];refine bF (bN (aC _)) ?_;rw[bN (aC _),lB];refine congrArg (fun z=>some (Sum.inr ((L:Int),false,z))) (eK fun j hj=>?_);rw[ai hj]
inductive zY(K:LN->Prop):LN->Prop
 |nil:zY K []
 |app {u v:LN}:u≠[]->K u->zY K v->zY K (u++v)
section
variable {K:LN->Prop}
theorem zY.one{w:LN}(h:K w):zY K w:=by
 by_cases hw:w=[]
 .rw[hw];exact .nil
 .have:=zY.app hw h .nil;rwa [jO]at this
theorem zY.ext{K2:LN->Prop}{L:Nat}(h:∀u,WL L u->(K u↔K2 u)){w:LN}(hw:WL L w):zY K w↔zY K2 w:=by
 constructor
 .intro hr
  induction hr with
  |nil=>exact .nil
  |app g1 g2 _ ih=>exact .app g1 ((h _ (WL.app.1 hw).1).1 g2) (ih (WL.app.1 hw).2)
 .intro hr
  induction hr with
  |nil=>exact .nil
  |app g1 g2 _ ih=>exact .app g1 ((h _ (WL.app.1 hw).1).2 g2) (ih (WL.app.1 hw).2)
end
def Ed.rev(e:Ed):Ed:=⟨e.t,e.l,e.f⟩
@[simp] theorem Ed.rev_rev (e:Ed):e.rev.rev=e:=rfl
theorem WL.rev{L:Nat}{w:LN}(h:WL L w):WL L w.reverse:=fun x hx=>h x (List.mem_reverse.1 hx)
namespace Da
theorem Oe.reach{d:Da}(h1:1<=d.L)(h:d.Oe):∀t,t<=d.n*d.L->∀q,q<d.mt t->∃w,WL d.L w∧d.run 0 w=q
 |0,_,q,hq=>⟨[],WL.nil,by have:q<1:=hq;show 0=q;omega⟩
 |t+1,ht,q,hq=>by
  have ih:=h.reach h1 t zO;rcases iQ q (d.mt t)with c|c
  .grind
  .have e:d.pos t=q:=by
    unfold mt at hq;grind
   have hx:t%d.L<d.L:=yq _ zO;have hp:t/d.L<d.n:=by rw[Ph zO];omega
   have h2:=h.row _ hp;have h3:=d.UK (Nat.div_mul_le_self t d.L);obtain⟨w,hw,hr⟩:=ih (t/d.L) zO;refine⟨w++[t%d.L],WL.app.2 ⟨hw,WL.nil.cons hx⟩,?_⟩;rw[adF,hr];exact e
end Da
theorem aHl{a:Da}(h:a.Ok){q:Nat}(hq:q<(minD a).n):∃w,WL a.L w∧(minD a).run (minD a).st w=q:=by
 have hc:=zT h;obtain⟨w,hw,hr⟩:=hc.num.reach (eZ h).l1 _ (aC _) q (by rw[hc.num.all];exact hq);exact⟨w,by rw[ma h]at hw;exact hw,by rw[aop h];exact hr⟩
theorem aHm{f:Nat->Nat}{n:Nat}(h:∀p q,p<n->q<n->f p=f q->p=q):((List.range n).map f).Nodup:=by
 refine List.pairwise_map.2 (List.nodup_range.imp_of_mem fun {a b}ha hb cw e=>cw ?_);grind
theorem aHn{a:Da}(h:a.Ok):(minD a).n<=a.n:=by
 have hc:=zT h;have hL:=ma h;have hex:∀q:Nat,∃w,q<(minD a).n->WL a.L w∧(minD a).run (minD a).st w=q:=fun q=>by
  by_cases c:q<(minD a).n
  .obtain⟨w,h1,h2⟩:=aHl h c;grind
  .exact⟨[],fun c2=>absurd c2 c⟩
 obtain⟨W,hW⟩:=Classical.axiomOfChoice hex;have key:=Pk (l₁:=(List.range (minD a).n).map fun q=>a.run a.st (W q)) (l₂:=List.range a.n) (aHm fun p q hp hq e=>?_) fun x hx=>?_
 .grind
 .obtain⟨p1,p2⟩:=hW p hp;obtain⟨q1,q2⟩:=hW q hq;refine hc.red p q hp hq fun w hw=>?_;rw[hL]at hw;rw[<-p2,<-q2,<-Da.UJ,<-Da.UJ,BC h (WL.app.2 ⟨p1,hw⟩),BC h (WL.app.2 ⟨q1,hw⟩),Da.UJ,Da.UJ,e]
 .obtain⟨q,hq,rfl⟩:=lh.1 hx;exact lj.2 (h.By _ h.s (hW q (lj.1 hq)).1)
structure v9(X:Da)(L:Nat)(K:LN->Prop):Prop where
 ok:X.Ok
 hL:X.L=L
 min:minD X=X
 dv:∀w,WL L w->(X.acc X.st w=true↔K w)
theorem v9.eq{X Y:Da}{L:Nat}{K K':LN->Prop}(h:v9 X L K)(h':v9 Y L K')(e:∀w,WL L w->(K w↔K' w)):X=Y:=by
 rw[<-h.min,<-h'.min];refine aoq h.ok h'.ok (h.hL.trans h'.hL.symm) fun w hw=>?_;have pe:WL L w:=h.hL▸hw;rw[sD,h.dv w pe,h'.dv w pe,e w pe]
theorem v9.ext{X:Da}{L:Nat}{K K':LN->Prop}(h:v9 X L K)(e:∀w,WL L w->(K w↔K' w)):v9 X L K':=⟨h.ok,h.hL,h.min,fun w hw=>(h.dv w hw).trans (e w hw)⟩
theorem v9.acc{X:Da}{L:Nat}{K:LN->Prop}(h:v9 X L K){w:LN}(hw:WL L w){b:Bool}(e:K w↔b=true):X.acc X.st w=b:=by
 rw[sD,h.dv w hw,e]
section
variable {L S st fin:Nat}{l:List Ed}(h:Ev L S st fin l)
include h
theorem aHo(hn:¬lD (eM L S st fin l) L S):v9 (jL (eM L S st fin l) L S) L (Ew st fin l)where
 ok:=aG4 h hn
 hL:=aG5 h hn
 min:=by
  unfold jL;rw[af hn];exact US (Es (ye h) hn)
 dv:=fun _ hw=>aG6 h hn hw
theorem aHp(hn:¬lD (eM L S st fin l) L S):(jL (eM L S st fin l) L S).n<=2^S:=by
 have h1:=aHn (Es (ye h) hn);have h2:=Hv (ye h) (2^S);have h3:(jD (eM L S st fin l) L S).n=(gT (eM L S st fin l) L S).length:=ql;unfold jL;rw[af hn];unfold gT at h3;omega
theorem aeL:(oO (eM L S st fin l) L S=0∧v9 (jL (eM L S st fin l) L S) L (Ew st fin l)∧(jL (eM L S st fin l) L S).n<=2^S)∨(oO (eM L S st fin l) L S=3∧jL (eM L S st fin l) L S=zD∧9<S):=by
 by_cases hn:lD (eM L S st fin l) L S
 .refine .inr ⟨ai hn,ai hn,?_⟩;rcases iQ 9 S with c|c
  .exact c
  .exact absurd hn (aG7 h c)
 .exact .inl ⟨af hn,aHo h hn,aHp h hn⟩
end
def ap3(r:Option (LV))(L S:Nat)(K:LN->Prop):Prop:=(∃X,r=some (nR X 0)∧v9 X L K∧X.n<=2^S)∨(r=some (nR zD 3)∧9<S)
theorem ap3.of{L S st fin:Nat}{l:List Ed}(h:Ev L S st fin l){r:Option (LV)}(e:r=some (nR (jL (eM L S st fin l) L S) (oO (eM L S st fin l) L S))){K:LN->Prop}(hK:∀w,WL L w->(Ew st fin l w↔K w)):ap3 r L S K:=by
 rcases aeL h with⟨h1,h2,h3⟩|⟨h1,h2,h3⟩
 .exact .inl ⟨_,by rw[e,h1],h2.ext hK,h3⟩
 .exact .inr ⟨zG,h3⟩
open Classical in
noncomputable def iP(L op x:Nat)(p q:Da):Option Da:=
 if op=1 then some (lG L false)else if op=2 then some (kH L)else if op=3 then some (minD (iX L x))else if op=4 then some (lG L true)
 else if op=5 then(if jh (minD p) (minD q)then none else some (uH p q 14))
 else if op=6 then(if jh (minD p) (minD q)then none else some (uH p q 8))
 else if op=7 then(if 64<(minD p).n+(minD q).n then none else if oO (na (minD p) (minD q)) p.L ((minD p).n+(minD q).n)=0 then some (jL (na (minD p) (minD q)) p.L ((minD p).n+(minD q).n))else none)
 else some (nT p)
def fX(A:List Da):LV:=A.map fun X=>.agg (dM X)
def aHq(L:Nat)(m2 m3 A:LV):Option Da->LV
 |some X=>[vI X.L,vI X.st,vI 0,vI L,iy m2,iw m3,aB X.cj,aE X.bL,fy A]
 |none=>[vI 0,vI 0,vI 3,vI L,iy m2,iw m3,aB [],aE [],fy A]
structure Gd(X:Da)(L:Nat):Prop where
 ok:X.Ok
 hL:X.L=L
 min:minD X=X
theorem aeM{p q:Da}(hp:p.Ok)(hq:q.Ok)(hL:p.L=q.L)(hs:(minD p).n+(minD q).n<=64):
  (oO (na (minD p) (minD q)) p.L ((minD p).n+(minD q).n)=0∧Gd (jL (na (minD p) (minD q)) p.L ((minD p).n+(minD q).n)) p.L)∨(oO (na (minD p) (minD q)) p.L ((minD p).n+(minD q).n)=3∧jL (na (minD p) (minD q)) p.L ((minD p).n+(minD q).n)=zD):=by
 have hr:=OL (eZ hp) (eZ hq) (by rw[ma hp,ma hq,hL]) hs;have h1:=aeL hr;have e:eM (minD p).L ((minD p).n+(minD q).n) (tB (minD p) (minD q)) (zX (minD p) (minD q)) (sw (minD p) (minD q))=na (minD p) (minD q):=rfl;rw[e,ma hp]at h1;rcases h1 with⟨h1,h2,_⟩|⟨h1,h2,_⟩
 .exact .inl ⟨h1,h2.ok,h2.hL,h2.min⟩
 .exact .inr ⟨h1,h2⟩
section
variable {L x:Nat}{p q:Da}
theorem Vq:iP L 1 x p q=some (lG L false):=rfl
theorem Vr:iP L 2 x p q=some (kH L):=rfl
theorem Vs:iP L 3 x p q=some (minD (iX L x)):=rfl
theorem Vt:iP L 4 x p q=some (lG L true):=rfl
theorem ap4(h:jh (minD p) (minD q)):iP L 5 x p q=none:=by simp[iP,h]
theorem Vu(h:¬jh (minD p) (minD q)):iP L 5 x p q=some (uH p q 14):=by simp[iP,h]
theorem ap5(h:jh (minD p) (minD q)):iP L 6 x p q=none:=by simp[iP,h]
theorem Vv(h:¬jh (minD p) (minD q)):iP L 6 x p q=some (uH p q 8):=by simp[iP,h]
theorem ap6(h:64<(minD p).n+(minD q).n):iP L 7 x p q=none:=by simp[iP,h]
theorem ap7(h:¬64<(minD p).n+(minD q).n)(h1:oO (na (minD p) (minD q)) p.L ((minD p).n+(minD q).n)=3):iP L 7 x p q=none:=by
 have e:¬oO (na (minD p) (minD q)) p.L ((minD p).n+(minD q).n)=0:=by rw[h1];decide
 simp[iP,h,e]
theorem Vw(h:¬64<(minD p).n+(minD q).n)(h1:oO (na (minD p) (minD q)) p.L ((minD p).n+(minD q).n)=0):iP L 7 x p q=some (jL (na (minD p) (minD q)) p.L ((minD p).n+(minD q).n)):=by
 unfold iP;rw[af zO,af zO,af zO,af zO,af zO,af zO,ai rfl,af h,ai h1]
theorem Vx:iP L 8 x p q=some (nT p):=rfl
end
theorem Vy{L op x:Nat}{p q X:Da}(hL:L=1∨L=2)(hp:5<=op->Gd p L)(hq:5<=op->op≠8->Gd q L)(h1:1<=op)(h8:op<=8)(h:iP L op x p q=some X):Gd X L:=by
 have hc:∀{o:Nat},5<=op->op≠8->(¬jh (minD p) (minD q))->Gd (uH p q o) L:=fun {o}h5 h8 hn=>by
  have hp:=hp h5;have hq:=hq h5 h8;have jY:p.L=q.L:=by rw[hp.hL,hq.hL]
  exact⟨aFg hp.ok hq.ok jY hn,(aFh hp.ok hq.ok jY hn).trans hp.hL,US (Hq (eZ hp.ok) (eZ hq.ok) (tw hp.ok hq.ok jY) hn)⟩
 unfold iP at h;split at h
 .cases h;exact⟨Ey zO zO,rfl,HG hL⟩
 split at h
 .cases h;exact⟨Vo zO zO,rfl,aeK hL⟩
 split at h
 .cases h;have:=Vp (L:=L) (x:=x) zO zO;exact⟨eZ this,ma this,US this⟩
 split at h
 .cases h;exact⟨Ey zO zO,rfl,HG hL⟩
 split at h
 .split at h
  .cases h
  .cases h;exact hc zO zO (by assumption)
 split at h
 .split at h
  .cases h
  .cases h;exact hc zO zO (by assumption)
 split at h
 .split at h
  .cases h
  .have hp:=hp zO;have hq:=hq zO zO;split at h
   .rename_i h1;cases h;rcases aeM hp.ok hq.ok (by rw[hp.hL,hq.hL]) zO with⟨_,h2⟩|⟨h2,_⟩
    .exact⟨h2.ok,h2.hL.trans hp.hL,h2.min⟩
    .rw[h2]at h1;cases h1
   .cases h
 .cases h;have hp:=hp zO;exact⟨Oy hp.ok,hp.hL,ad2 hp.ok hp.min⟩
section
variable {L:Nat}(hL:L=1∨L=2){A m2 m3:LV}
include hL
theorem ap8{b:Bool}:CC 86 [.bool b,vI L,fy A,iy m2,iw m3]=
  some [vI L,vI 0,vI L,iy m2,iw m3,aB (lG L b).cj,aE (lG L b).bL,fy A]:=by
 refine aAY ?_;unfold amP;refine bs (HH (t:=0) zO) ?_;rw[ap0];rfl
theorem aHr:CC 87 [vI L,fy A,iy m2,iw m3]=
  some [vI L,vI 0,vI L,iy m2,iw m3,aB (kH L).cj,aE (kH L).bL,fy A]:=by
 refine aAZ ?_;unfold amQ;refine bs (HH (t:=1) zO) ?_;refine bs (HH (t:=1) zO) ?_;rw[ap1];rfl
theorem aHs{x:Nat}:dM (iX L x)=[vI L,vI 0,aB [.bool false,.bool true,.bool false],aE [aR (az (List.replicate L (vI 2)) (x:Int) (vI 1)),aR (List.replicate L (vI 2)),aR (List.replicate L (vI 2))]]:=by
 unfold dM eG;rw[ap2];have e:(tab L fun y=>iV ((if y=x then 1 else 2:Nat):Int))=az (List.replicate L (vI 2)) (x:Int) (vI 1):=by
  unfold az;rw[lB,Int.toNat_natCast,m7];refine eK fun y _=>?_;by_cases h:y=x
  .rw[ai h,ai h];rfl
  .rw[af h,af h];rfl
 rw[e];rfl
theorem aHt{x:Nat}(hx:x<L):CC 88 [vI x,vI L,fy A,iy m2,iw m3]=
  some [vI ((minD (iX L x)).L:Int),vI ((minD (iX L x)).st:Int),vI L,iy m2,iw m3,aB (minD (iX L x)).cj,aE (minD (iX L x)).bL,fy A]:=by
 have hm:=Ow (Vp (L:=L) (x:=x) zO zO);rw[aHs hL]at hm;refine aA0 ?_;unfold amR aj;refine bs (HH (t:=2) zO) ?_;refine(cK (i:=x) (v:=vI 2) (by simp only[V.bj,V.dD,gI,gL];simp[hx])).trans ?_;refine bs (HH (t:=2) zO) ?_;refine bs (HH (t:=2) zO) ?_;refine bs hm ?_;rfl
end
theorem lf{A:List Da}{a:Nat}(h:a<A.length):(fX A)[a]?=some (.agg (dM (A.getD a zD))):=by
 simp[fX,h]
theorem nY{A:List Da}{a:Nat}(h:a<A.length):A.getD a zD∈A:=by
 rw[jf h];exact gC h
theorem aHu{L op x a b:Nat}{A:List Da}{m2 m3:LV}(hL:L=1∨L=2)(o1:1<=op)(o8:op<=8)(hx:op=3->x<L)(hA:∀X∈A,Gd X L)(ha:5<=op->a<A.length)(hb:5<=op->op≠8->b<A.length):
  CC 62 [vI op,vI x,vI a,vI b,vI L,fy (fX A),iy m2,iw m3]=
   some (aHq L m2 m3 (fX A) (iP L op x (A.getD a zD) (A.getD b zD))):=by
 refine aA1 ?_;unfold amS aj;rcases(by omega:op=1∨op=2∨op=3∨op=4∨op=5∨op=6∨op=7∨op=8)with rfl|rfl|rfl|rfl|rfl|rfl|rfl|rfl
 .refine bT rfl (bs (ap8 hL) ?_);rfl
 .refine bF rfl (bT rfl (bs (aHr hL) ?_));rfl
 .refine bF rfl (bF rfl (bT rfl (bs (aHt hL (hx rfl)) ?_)));rfl
 .refine bF rfl (bF rfl (bF rfl (bT rfl (bs (ap8 hL) ?_))));rfl
 .have ha:=ha zO;have hb:=hb zO zO;have gp:=hA _ (nY ha);have gq:=hA _ (nY hb);have jY:(A.getD a zD).L=(A.getD b zD).L:=by rw[gp.hL,gq.hL]
  refine bF rfl (bF rfl (bF rfl (bF rfl (bT rfl ?_))));refine(cK (lf ha)).trans ((cK (lf hb)).trans ?_)
  by_cases hn:jh (minD (A.getD a zD)) (minD (A.getD b zD))
  .rw[ap4 hn];refine bs (aoH gp.ok gq.ok jY (op:=14) zO hn) ?_;rfl
  .rw[Vu hn];refine bs (aoG gp.ok gq.ok jY (op:=14) zO hn) ?_;rfl
 .have ha:=ha zO;have hb:=hb zO zO;have gp:=hA _ (nY ha);have gq:=hA _ (nY hb);have jY:(A.getD a zD).L=(A.getD b zD).L:=by rw[gp.hL,gq.hL]
  refine bF rfl (bF rfl (bF rfl (bF rfl (bF rfl (bT rfl ?_)))));refine(cK (lf ha)).trans ((cK (lf hb)).trans ?_)
  by_cases hn:jh (minD (A.getD a zD)) (minD (A.getD b zD))
  .rw[ap5 hn];refine bs (aoH gp.ok gq.ok jY (op:=8) zO hn) ?_;rfl
  .rw[Vv hn];refine bs (aoG gp.ok gq.ok jY (op:=8) zO hn) ?_;rfl
 .have ha:=ha zO;have hb:=hb zO zO;have gp:=hA _ (nY ha);have gq:=hA _ (nY hb);have jY:(A.getD a zD).L=(A.getD b zD).L:=by rw[gp.hL,gq.hL]
  refine bF rfl (bF rfl (bF rfl (bF rfl (bF rfl (bF rfl (bT rfl ?_))))));refine(cK (lf ha)).trans ((cK (lf hb)).trans ?_)
  by_cases hs:64<(minD (A.getD a zD)).n+(minD (A.getD b zD)).n
  .rw[ap6 hs];refine bs (aHc gp.ok gq.ok jY hs) ?_;rfl
  .have hk:=aHb gp.ok gq.ok jY (H7 hs);rcases aeM gp.ok gq.ok jY (H7 hs)with⟨h1,_⟩|⟨h1,h2⟩
   .rw[Vw hs h1];rw[h1]at hk;refine bs hk ?_;rfl
   .rw[ap7 hs h1];rw[h1,h2]at hk;refine bs hk ?_;rfl
 .have ha:=ha zO;have gp:=hA _ (nY ha);refine bF rfl (bF rfl (bF rfl (bF rfl (bF rfl (bF rfl (bF rfl ?_))))));refine(cK (lf ha)).trans ?_;refine bs (aEW gp.ok) ?_;rfl
theorem ON{L op x:Nat}{p q p' q':Da}(h1:1<=op)(h8:op<=8)(hp:5<=op->p=p')(hq:5<=op->op≠8->q=q'):iP L op x p q=iP L op x p' q':=by
 rcases(by omega:op=1∨op=2∨op=3∨op=4∨op=5∨op=6∨op=7∨op=8)with rfl|rfl|rfl|rfl|rfl|rfl|rfl|rfl
 .exact Vq.trans Vq.symm
 .exact Vr.trans Vr.symm
 .exact Vs.trans Vs.symm
 .exact Vt.trans Vt.symm
 .rw[hp zO,hq zO zO]
 .rw[hp zO,hq zO zO]
 .rw[hp zO,hq zO zO]
 .rw[Vx,Vx,hp zO]
def fL(l:LN):LV:=l.map fun x:Nat=>V.int .u8 (x:Int)
def HI:LV->LN->Bool
 |[],[]=>true
 |.int .u8 a::l,b::m=>(a==(b:Int))&&HI l m
 |_,_=>false
theorem ap9:∀{l:LV}{m:LN},HI l m=true->l=fL m
 |[],[],_=>rfl
 |[],_::_,h=>by simp[HI]at h
 |x::l,[],h=>by cases x<;>simp[HI]at h
 |x::l,b::m,h=>by
  unfold HI at h;split at h
  .rename_i h1 h2;cases h1
  .rename_i h1 h2;cases h1;cases h2;rw[aZ,EO]at h;rw[h.1,ap9 h.2];rfl
  .cases h
def isR(r:Option (LV))(m:LN):Bool:=
 match r with
 |some [.list t l]=>Nat.beq t 5&&HI l m
 |_=>false
theorem aHv{r:Option (LV)}{m:LN}(h:isR r m=true):r=some [kg (fL m)]:=by
 unfold isR at h;split at h
 .rw[aZ,bK]at h;rw[h.1,ap9 h.2]
 .cases h
def isS(r:Option (LV))(m:List UInt8):Bool:=
 match r with
 |some [.str l]=>l==m
 |_=>false
theorem aHw{r:Option (LV)}{m:List UInt8}(h:isS r m=true):r=some [.str m]:=by
 unfold isS at h;split at h
 .rw[EO]at h;rw[h]
 .cases h
def is3(r:Option (LV)):Bool:=
 match r with
 |some [V.int (.i64) n]=>n==3
 |_=>false
theorem aHx{r:Option (LV)}(h:is3 r=true):r=some [vI 3]:=by
 unfold is3 at h;split at h
 .rw[EO]at h;rw[h]
 .cases h
def ik(i:Nat):LN:=if i<10 then[48+i]else if i<100 then[48+i/10,48+i%10]else[48+i/100,48+i/10%10,48+i%10]
noncomputable def aHy(i:Nat):Bool:=isS (AY PG mC 4 4 134 [vI i]) ((ik i).map UInt8.ofNat)
theorem aHz:(List.range 100).all aHy=true:=by kernel_rfl
def Z24:LV:=fL (List.replicate 24 0)
theorem aqa{n i:Nat}{p:Nat->Bool}(h:(List.range n).all p=true)(hi:i<n):p i=true:=il.1 h i (lj.2 hi)
noncomputable def aqb(i:Nat):Bool:=isR (AY PG mC 12 4 136 [fw 0,fw 3,.int .u64 i,kg Z24]) (ik i++List.replicate 21 0)&&is3 (AY PG mC 4 6 135 [.int .u64 i])
noncomputable def rB(a:Nat):Bool:=(List.range 70).all fun k=>aqb (k+a)
theorem rB0:rB 100=true:=by kernel_rfl
theorem rB1:rB 170=true:=by kernel_rfl
theorem rB2:rB 240=true:=by kernel_rfl
theorem rB3:rB 310=true:=by kernel_rfl
theorem rB4:rB 380=true:=by kernel_rfl
theorem rB5:rB 450=true:=by kernel_rfl
theorem aHA{i:Nat}(h:i<100):CC 134 [vI i]=some [.str ((ik i).map UInt8.ofNat)]:=Q9 (aHw (aqa aHz h))
theorem aqc{i:Nat}(h:100<=i)(h2:i<520):CC 136 [fw 0,fw 3,.int .u64 i,kg Z24]=some [kg (fL (ik i++List.replicate 21 0))]∧CC 135 [.int .u64 i]=some [vI 3]:=by
 obtain⟨a,ha,h3,h4⟩:∃a,rB a=true∧a<=i∧i<a+70:=by
  rcases(by omega:i<170∨170<=i∧i<240∨240<=i∧i<310∨310<=i∧i<380∨380<=i∧i<450∨450<=i)with c|c|c|c|c|c
  .exact⟨_,rB0,zO,zO⟩
  .exact⟨_,rB1,zO,zO⟩
  .exact⟨_,rB2,zO,zO⟩
  .exact⟨_,rB3,zO,zO⟩
  .exact⟨_,rB4,zO,zO⟩
  .exact⟨_,rB5,zO,zO⟩
 have:=aqa ha (i:=i-a) zO;rw[show i-a+a=i by omega,aqb,aZ]at this;exact⟨Q9 (aHv this.1),Q9 (aHx this.2)⟩
theorem Vz{i:Nat}(h:i<1000):1<=(ik i).length∧(ik i).length<=3:=by
 unfold ik;split
 .simp
 .split<;>simp
theorem OO{i x:Nat}(h:i<1000)(hx:x∈ik i):48<=x∧x<58:=by
 unfold ik at hx;split at hx
 .simp at hx;omega
 .split at hx<;>simp at hx<;>omega
theorem aHB{i j:Nat}(h:i<1000)(h':j<1000)(e:ik i=ik j):i=j:=by
 unfold ik at e;split at e<;>split at e<;>(try split at e)<;>(try split at e)<;>simp at e<;>omega
theorem aHC{i:Nat}(h:i<520){l:LV}(hl:l.length<=1000000):CC 126 [.int .u64 i,vI 10,kg l]=some [kg (l++fL (ik i))]:=by
 have hd:=Vz (i:=i) zO;refine aA2 ?_;unfold amT;refine bT rfl ?_;by_cases h1:i<100
 .refine bT (bQ zO) ?_;have hw:wI (i:Int)=(i:Int):=dk;rw[hw];refine bs (aHA h1) ?_;have he:((ik i).map UInt8.ofNat).map yF=fL (ik i):=by
   rw[fL,List.map_map];refine rf fun x hx=>?_;have:=OO zO hx;simp only[Function.comp,yF,UInt8.toNat_ofNat'];congr 1;omega
  simp only[V.bj,gI,gL,gS];rw[V.JH,he];refine bT ?_ rfl;exact cap (by simp[fL];omega) zO
 .refine bF (bX zO) ?_;refine bs (aqc zO h).2 ?_;refine bT rfl (bT rfl ?_);refine bs (aqc zO h).1 ?_;have h3:(ik i).length=3:=by unfold ik;rw[af zO,af h1];rfl
  have sE:(fL (ik i++List.replicate 21 0)).length=24:=by simp[fL,h3]
  simp only[V.bj,V.dD,gI,gL,gS];rw[sE];refine bT rfl (bT rfl ?_);have he:∀k:Nat,k=3->((fL (ik i++List.replicate 21 0)).drop 0).take k=fL (ik i):=by
   rintro k rfl;rw[gK,fL,sC,List.take_append_of_le_length (by simp[h3]),Ia (by simp[h3])];rfl
  rw[he _ (by rfl)];refine bT ?_ rfl;exact cap (by simp[fL];omega) zO
theorem aqd{i:Nat}(h:i<520){l:LV}(hl:l.length<=1000000):CC 110 [vI i,vI 10,kg l]=some [kg (l++fL (ik i))]:=by
 refine aA4 ?_;unfold amV;refine bF (bX zO) ?_;have hw:wU (i:Int)=(i:Int):=by unfold wU;rw[wrap_u64];omega
 rw[hw];exact bs (aHC h hl) rfl
theorem aHD{i:Nat}(h:i<520):CC 92 [vI i,vI 10]=some [kg (fL (ik i))]:=by
 refine aA3 ?_;unfold amU;exact bs (aqd h zS) rfl
theorem aHE{i:Nat}(h:i<520){l:LV}(hl:l.length<=1000000):CC YJ [vI i,vI 10,kg l]=some [kg (l++fL (ik i))]:=by
 refine aA5 ?_;unfold amW;exact bs (aqd h hl) rfl
def ji:LN->LN
 |[]=>[]
 |v::l=>32::(ik v++ji l)
def tC:Bool×LN->LN
 |(b,r)=>(if b=true then[33]else[])++(ji r++[59])
def kJ:List (Bool×LN)->LN
 |[]=>[]
 |r::l=>tC r++kJ l
theorem aqe:∀l m,ji (l++m)=ji l++ji m
 |[],_=>rfl
 |v::l,m=>by simp[ji,aqe l m]
theorem aeN:∀l m,kJ (l++m)=kJ l++kJ m
 |[],_=>rfl
 |v::l,m=>by simp[kJ,aeN l m]
def pJ(a:Da)(q:Nat):Bool×LN:=(a.fin q,tab a.L (a.nx q))
def BL(a:Da):LN:=ik a.st++kJ (tab a.n (pJ a))
theorem VA:∀l:LN,(∀x∈l,x<1000)->(ji l).length<=4*l.length
 |[],_=>by simp[ji]
 |v::l,h=>by
  have h1:=Vz (h v zS);have h2:=VA l fun x hx=>h x (by simp[hx]);simp only[ji,List.length_cons,dQ];omega
theorem aHF{r:Bool×LN}(h:∀x∈r.2,x<1000):(tC r).length<=2+4*r.2.length:=by
 obtain⟨b,r⟩:=r;have:=VA r h;cases b<;>simp only[tC,dQ,List.length_cons,List.length_nil,jZ,H5,mE]<;>simp only at* <;>omega
theorem aeO:∀l:List (Bool×LN),(∀r∈l,(∀x∈r.2,x<1000)∧r.2.length<=6)->(kJ l).length<=26*l.length
 |[],_=>by simp[kJ]
 |r::l,h=>by
  have h1:=aHF (h r zS).1;have h2:=(h r zS).2;have h3:=aeO l fun x hx=>h x (by simp[hx]);simp only[kJ,List.length_cons,dQ];omega
theorem OP{a:Da}(h:a.Ok){n:Nat}(hn:n<=a.n):∀r∈tab n (pJ a),(∀x∈r.2,x<1000)∧r.2.length<=6:=by
 intro r hr;obtain⟨q,hq,rfl⟩:=xY.1 hr;refine⟨fun x hx=>?_,?_⟩
 .obtain⟨y,hy,rfl⟩:=xY.1 hx;have:=h.gn (q:=q) zO hy;have:=h.dr;omega
 .have:=h.l6;simp only[pJ,dJ];omega
theorem VB(a b:LN):fL (a++b)=fL a++fL b:=by simp[fL]
theorem VC(a:LN):(fL a).length=a.length:=by simp[fL]
theorem aHG{a:Da}(h:a.Ok){q:Nat}(hq:q<a.n){pre:LN}(hp:pre.length<=20000){l1 l2 l3:LV}{k1 k2 k3 k4:Int}:
  Loop (Nq CC l1 k1 k2 (tab a.L fun x=>iV (a.nx q x)) (a.L:Int) k3 k4 l2 l3) (0,fL pre)=some ((a.L:Int),false,fL (pre++ji (tab a.L (a.nx q)))):=by
 have hm:=h.dr;have h6:=h.l6;have hl:∀x,x<=a.L->(ji (tab x (a.nx q))).length<=24:=fun x hx=>by
  have:=VA (tab x (a.nx q)) fun y hy=>by
   obtain⟨z,hz,rfl⟩:=xY.1 hy;have:=h.gn hq (show z<a.L by omega);omega
  rw[dJ]at this;omega
 have e0:fL pre=fL (pre++ji (tab 0 (a.nx q))):=by simp[Om,ji]
 rw[e0];refine(fe a.L (fun x=>((x:Int),fL (pre++ji (tab x (a.nx q))))) _ (fun x hx=>?_) ?_)
 .have yR:=h.gn hq hx;have sE:=hl x zO;simp only[Nq,Np,un];refine bT (dd hx) ?_;refine bs (nM hx) ?_;refine bT (cap (by simp only[VC,dQ,List.length_cons,List.length_nil];omega) zO) ?_;have e1:fL (pre++ji (tab x (a.nx q)))++([V.int .u8 32]:LV)=fL (pre++ji (tab x (a.nx q))++[32]):=by rw[VB (_++_)];rfl
  rw[e1];refine bs (aHE (i:=a.nx q x) zO (by simp only[VC,dQ,List.length_cons,List.length_nil];omega)) ?_;simp only[V.bj,V.dD,gL];rw[cN zO,<-VB,iz,aqe];simp[ji]
 .simp only[Nq,Np,un];refine bF (bN (aC _)) ?_;rw[bN (aC _)]
noncomputable def mA(a:Da):List UInt8:=oX (fL (BL a))
theorem aqf{a:Da}(h:a.Ok):CC 63 (dM a)=some [.str (mA a)]:=by
 have hm:=h.dr;have h6:=h.l6;have hs:=h.s;refine aBb ?_;unfold amX;refine bs (aHD (i:=a.st) zO) ?_;simp only[V.bj,V.dD,gL];rw[Da.an4];have hd:=Vz (i:=a.st) zO;have e0:fL (ik a.st)=fL (ik a.st++kJ (tab 0 (pJ a))):=by simp[Om,kJ]
 rw[e0];refine bs (fe a.n (fun q=>((q:Int),fL (ik a.st++kJ (tab q (pJ a))))) ((a.n:Int),false,fL (BL a)) (fun q hq=>?_) ?_) rfl
 .have hl:=aeO _ (OP h (n:=q) zO);rw[dJ]at hl;simp only[ac5,Nr,un];refine bT (dd hq) ?_;refine bs (Da.nO hq) ?_;refine bs (Da.qn hq) ?_;rw[m8,dJ,V.iM];have key:∀{pre:LN},pre.length<=20000->∀{β:Type}(K:Int×LV->Option β),(Loop (Nq CC a.bL (a.n:Int) (q:Int) (tab a.L fun x=>iV (a.nx q x)) (a.L:Int) (a.L:Int) (a.st:Int) a.cj a.bL) (0,fL pre)).bind (un fun(lA:Int)=>un fun(mw:Bool) (DK:LV)=>
    bif Nat.ble ((DK.length+([.int .u8 59]:LV).length)*1) br then
    K (wI ((q:Int)+1),DK++([.int .u8 59]:LV))
    else none)=K (((q+1:Nat):Int),fL (pre++ji (tab a.L (a.nx q))++[59])):=fun {pre}hp {β}K=>by
   refine bs (aHG h hq hp) ?_;have sE:=VA (tab a.L (a.nx q)) fun y hy=>by
    obtain⟨z,hz,rfl⟩:=xY.1 hy;have:=h.gn hq hz;omega
   rw[dJ]at sE;refine bT (cap (by simp only[VC,dQ,List.length_cons,List.length_nil];omega) zO) ?_;rw[cN zO,VB (_++_)];rfl
  cases hf:a.fin q with
  |true=>
   simp only[No];refine bT rfl ?_;refine bT (cap (by simp only[VC,dQ,List.length_cons,List.length_nil];omega) zO) ?_;have e1:fL (ik a.st++kJ (tab q (pJ a)))++([V.int .u8 33]:LV)=fL (ik a.st++kJ (tab q (pJ a))++[33]):=by rw[VB (_++_)];rfl
   rw[e1];refine(key (pre:=ik a.st++kJ (tab q (pJ a))++[33]) (by simp only[dQ,List.length_cons,List.length_nil];omega) (fun y=>some (Sum.inl y))).trans ?_;rw[iz,aeN];simp[kJ,tC,pJ,hf]
  |false=>
   simp only[No];refine bF rfl ?_;refine(key (pre:=ik a.st++kJ (tab q (pJ a))) (by simp only[dQ];omega) (fun y=>some (Sum.inl y))).trans ?_;rw[iz,aeN];simp[kJ,tC,pJ,hf]
 .simp only[ac5,Nr,un];refine bF (bN (aC _)) ?_;rw[bN (aC _)];rfl
def BM:LN->Prop
 |[]=>True
 |x::_=> ¬(48<=x∧x<58)
theorem aqg:∀{a b u v:LN},(∀x∈a,48<=x∧x<58)->(∀x∈b,48<=x∧x<58)->BM u->BM v->a++u=b++v->a=b∧u=v
 |[],[],_,_,_,_,_,_,e=>⟨rfl,e⟩
 |[],y::b,u,v,_,hb,hu,_,e=>by
  cases u with
  |nil=>cases e
  |cons z u=>
   have:z=y:=by simpa using(yn e).1
   have h1:=hb y zS;have h2:¬(48<=z∧z<58):=hu;omega
 |x::a,[],u,v,ha,_,_,hv,e=>by
  cases v with
  |nil=>cases e
  |cons z v=>
   have:x=z:=(yn e).1;have h1:=ha x zS;have h2:¬(48<=z∧z<58):=hv;omega
 |x::a,y::b,u,v,ha,hb,hu,hv,e=>by
  obtain⟨e1,e2⟩:=yn e;obtain⟨e3,e4⟩:=aqg (fun x hx=>ha x (by simp[hx])) (fun x hx=>hb x (by simp[hx])) hu hv e2;exact⟨by rw[e1,e3],e4⟩
theorem aqh{i j:Nat}(hi:i<1000)(hj:j<1000){u v:LN}(hu:BM u)(hv:BM v)(e:ik i++u=ik j++v):i=j∧u=v:=by
 obtain⟨e1,e2⟩:=aqg (fun x hx=>OO hi hx) (fun x hx=>OO hj hx) hu hv e;exact⟨aHB hi hj e1,e2⟩
theorem aeP(l:LN)(u:LN):BM (ji l++59::u):=by
 cases l<;>simp[ji,BM]
theorem aeQ:∀{r s u v:LN},(∀x∈r,x<1000)->(∀x∈s,x<1000)->ji r++59::u=ji s++59::v->r=s∧u=v
 |[],[],_,_,_,_,e=>⟨rfl,(yn e).2⟩
 |[],y::s,_,_,_,_,e=>by simp[ji]at e
 |x::r,[],_,_,_,_,e=>by simp[ji]at e
 |x::r,y::s,u,v,hr,hs,e=>by
  simp only[ji,List.cons_append,iC]at e;obtain⟨e1,e2⟩:=aqh (hr x zS) (hs y zS) (aeP r u) (aeP s v) (yn e).2;obtain⟨e3,e4⟩:=aeQ (fun x hx=>hr x (by simp[hx])) (fun x hx=>hs x (by simp[hx])) e2;exact⟨by rw[e1,e3],e4⟩
theorem aHH{r s:Bool×LN}{u v:LN}(hr:∀x∈r.2,x<1000)(hs:∀x∈s.2,x<1000)(e:tC r++u=tC s++v):r=s∧u=v:=by
 obtain⟨b,r⟩:=r;obtain⟨c,s⟩:=s;have h33:∀{l w z:LN},33::w≠ji l++59::z:=fun {l w z}h=>by
  cases l<;>simp[ji]at h
 cases b<;>cases c<;>simp only[tC,jZ,H5,mE,List.nil_append,iC,List.cons_append]at e
 .obtain⟨e1,e2⟩:=aeQ hr hs e;exact⟨by rw[show r=s from e1],e2⟩
 .exact absurd e.symm h33
 .exact absurd e h33
 .obtain⟨e1,e2⟩:=aeQ hr hs (yn e).2;exact⟨by rw[show r=s from e1],e2⟩
theorem aqi:∀l,BM (kJ l)
 |[]=>trivial
 |(b,r)::l=>by
  cases b
  .simp only[kJ,tC,H5,mE,List.nil_append,iC,List.cons_append];exact aeP _ _
  .simp[kJ,tC,BM]
theorem aqj{r:Bool×LN}{u:LN}:tC r++u≠[]:=by
 obtain⟨b,r⟩:=r;cases b<;>cases r<;>simp[tC,ji]
theorem aqk:∀{l m:List (Bool×LN)},(∀r∈l,∀x∈r.2,x<1000)->(∀r∈m,∀x∈r.2,x<1000)->kJ l=kJ m->l=m
 |[],[],_,_,_=>rfl
 |[],r::m,_,_,e=>absurd e.symm aqj
 |r::l,[],_,_,e=>absurd e aqj
 |r::l,s::m,hl,hm,e=>by
  obtain⟨e1,e2⟩:=aHH (hl r zS) (hm s zS) e;rw[e1,aqk (fun r hr=>hl r (by simp[hr])) (fun r hr=>hm r (by simp[hr])) e2]
theorem Da.Ok.ext{a b:Da}(ha:a.Ok)(hb:b.Ok)(hL:a.L=b.L)(hs:a.st=b.st)(hr:tab a.n (pJ a)=tab b.n (pJ b)):a=b:=by
 have hn:a.n=b.n:=by
  have:=congrArg List.length hr;rwa [dJ,dJ]at this
 have hq:∀q,q<a.n->pJ a q=pJ b q:=fun q hq=>by
  have:=congrArg (fun l=>l[q]?) hr
  try simp only at this
  rw[fP hq,fP zO]at this;exact ee this
 have hF:a.F=b.F:=by
  refine Ag hn fun q h1 h2=>?_;have:=congrArg Prod.fst (hq q h1);unfold pJ Da.fin at this;simp only at this;rwa [jf h1,jf h2]at this
 have hN:a.N=b.N:=by
  refine Ag (by rw[ha.nN,hb.nN,hn]) fun q h1 h2=>?_;have Fu:q<a.n:=by rw[<-ha.nN];exact h1
  have wM:q<b.n:=zO;have e1:=Da.Of ha Fu;have e2:=Da.Of hb wM;rw[jf h1]at e1;rw[jf h2]at e2;refine Da.anM (by rw[e1,e2,hL]) fun x hx=>?_;have h3:=congrArg Prod.snd (hq q Fu);unfold pJ at h3
  try simp only at h3
  have h4:=congrArg (fun l=>l[x]?) h3
  try simp only at h4
  rw[fP zO,fP zO]at h4;have h5:=ee h4;unfold Da.nx at h5;rwa [jf h1,jf h2]at h5
 obtain⟨L,s,F,N⟩:=a;obtain⟨L',s',F',N'⟩:=b;simp only at hL hs hF hN;rw[hL,hs,hF,hN]
theorem aHI{a b:Da}(ha:a.Ok)(hb:b.Ok)(hL:a.L=b.L)(e:BL a=BL b):a=b:=by
 have h1:=ha.dr;have h2:=hb.dr;have h3:=ha.s;have h4:=hb.s;obtain⟨e1,e2⟩:=aqh zO zO (aqi _) (aqi _) e;exact ha.ext hb hL e1 (aqk (fun r hr=>(OP ha (aC _) r hr).1) (fun r hr=>(OP hb (aC _) r hr).1) e2)
theorem aql:∀{l:LN},(∀x∈l,x<1000)->∀y∈ji l,y<256
 |[],_,y,hy=>by cases hy
 |x::l,h,y,hy=>by
  simp only[ji,j4,gh]at hy;rcases hy with rfl|hy|hy
  .omega
  .have:=OO (h x zS) hy;omega
  .exact aql (fun x hx=>h x (by simp[hx])) y hy
theorem aqm:∀{l:List (Bool×LN)},(∀r∈l,∀x∈r.2,x<1000)->∀y∈kJ l,y<256
 |[],_,y,hy=>by cases hy
 |(b,r)::l,h,y,hy=>by
  simp only[kJ,tC,gh]at hy;rcases hy with(hy|hy|hy)|hy
  .split at hy
   .simp at hy;omega
   .cases hy
  .exact aql (h (b,r) zS) y hy
  .simp at hy;omega
  .exact aqm (fun x hx=>h x (by simp[hx])) y hy
theorem aqn{a:Da}(ha:a.Ok):∀y∈BL a,y<256:=by
 intro y hy;have h1:=ha.dr;have h3:=ha.s;rcases gh.1 hy with hy|hy
 .have:=OO (i:=a.st) zO hy;omega
 .exact aqm (fun r hr=>(OP ha (aC _) r hr).1) y hy
theorem aHJ{a b:Da}(ha:a.Ok)(hb:b.Ok)(hL:a.L=b.L)(e:mA a=mA b):a=b:=by
 refine aHI ha hb hL ?_;unfold mA oX fL at e;rw[List.map_map,List.map_map]at e;have hl:(BL a).length=(BL b).length:=by
  have:=congrArg List.length e;simpa using this
 refine Ag hl fun i h1 h2=>?_;have h3:=congrArg (fun l=>l[i]?) e;simp only[j5,cA h1,cA h2,Option.map_some,Function.comp,V.toInt_int,Int.toNat_natCast]at h3;have h4:=congrArg UInt8.toNat (ee h3)
 have h5:=aqn ha _ (gC h1);have h6:=aqn hb _ (gC h2);simp only[UInt8.toNat_ofNat']at h4;omega
theorem aHK{a:Da}(ha:a.Ok):(mA a).length<=20000:=by
 have h1:=ha.dr;have h3:=ha.s;have hl:=aeO _ (OP ha (n:=a.n) zO);rw[dJ]at hl;have hd:=Vz (i:=a.st) zO;unfold mA oX fL BL;simp only[cu,dQ];omega
theorem VD(a b:List UInt8):jF (.str a) (.str b)=decide (a=b):=by
 simp only[jF,V.cells,pP,u6,B1];rw[sD];simp
theorem aHL{α:Type}[DecidableEq α]{ke:α->V}(hk:∀a b,jF (ke a) (ke b)=decide (a=b)){x:α}{S:List α}(z:V)(h:x∈S):∃(i:Nat) (hi:i<S.length),S[i]=x∧gV (ke x) (jg ke 0 S) z=vI i:=by
 refine⟨S.idxOf x,List.idxOf_lt_length_iff.2 h,List.getElem_idxOf _,?_⟩;have:=xZ hk x z S 0 h;rwa [dT]at this
theorem aHM{α:Type}[DecidableEq α]{ke:α->V}(hk:∀a b,jF (ke a) (ke b)=decide (a=b)){x:α}{S:List α}(h:x∈S):fi (ke x) (jg ke 0 S)=true:=(tu hk x S 0).trans (bQ h)
theorem aHN{α:Type}[DecidableEq α]{ke:α->V}(hk:∀a b,jF (ke a) (ke b)=decide (a=b)){x:α}{S:List α}(h:x∉S):fi (ke x) (jg ke 0 S)=false:=(tu hk x S 0).trans (bX h)
theorem Nd.key(a b:Nd):jF a.v b.v=decide (a=b):=by
 obtain⟨o,x,y,z⟩:=a;obtain⟨o',x',y',z'⟩:=b;simp only[Nd.v,jF,V.cells,pP,u6,B1];rw[sD];simp only[aZ,EO,fp,Nd.mk.injEq];omega
def mB(M:List (Nd×Nat)):LV:=M.map fun e=>.ct [e.1.v,vI (e.2:Int)]
theorem aeR(d:Nd):∀M,fi d.v (mB M)=decide (d∈M.map Prod.fst)
 |[]=>by simp[mB,fi]
 |(e,i)::M=>by
  have c:∀(p q:V),(V.ct [p,q]).comp 0=p:=fun p q=>rfl;have ih:=aeR d M;unfold mB at ih⊢;rw[iB,fi,c,Nd.key,ih,sD];simp
theorem aqo(d:Nd)(z:V):∀M,d∈M.map Prod.fst->∃i:Nat,(d,i)∈M∧gV d.v (mB M) z=vI i
 |[],h=>by cases h
 |(e,i)::M,h=>by
  have c:∀(p q:V),(V.ct [p,q]).comp 0=p:=fun p q=>rfl;have c1:∀(p q:V),(V.ct [p,q]).comp 1=q:=fun p q=>rfl;by_cases hd:d=e
  .refine⟨i,by rw[hd];simp,?_⟩;unfold mB;rw[iB,gV,c,c1,Nd.key,bQ hd];rfl
  .obtain⟨j,h1,h2⟩:=aqo d z M (by simpa[hd]using h);refine⟨j,by simp[h1],?_⟩;unfold mB at h2⊢;rw[iB,gV,c,c1,Nd.key,bX hd];exact h2
theorem aeS(d:Nd)(i:Nat):∀M,d∉M.map Prod.fst->fj d.v (vI i) (mB M)=mB (M++[(d,i)])
 |[],_=>rfl
 |(e,j)::M,h=>by
  have c:∀(p q:V),(V.ct [p,q]).comp 0=p:=fun p q=>rfl;have hd:d≠e:=fun he=>h (by simp[he]);have ih:=aeS d i M fun hm=>h (by simp at hm⊢;exact .inr hm);unfold mB at ih⊢;rw[iB,fj,c,Nd.key,bX hd,List.cons_append,iB,<-ih];rfl
structure wa(L k:Nat)(A:List Da)(M:List (Nd×Nat)):Prop where
 gd:∀X∈A,Gd X L
 done:∀e∈M,e.2<A.length∧(5<=e.1.op->e.1.a<A.length)∧(5<=e.1.op->e.1.op≠8->e.1.b<A.length)∧1<=e.1.op∧e.1.op<=8∧iP L e.1.op e.1.x (A.getD e.1.a zD) (A.getD e.1.b zD)=some (A.getD e.2 zD)
 la:A.length<=k
 lm:M.length<=k
noncomputable def nZ(A:List Da):LV:=jg V.str 0 (A.map mA)
theorem HJ{A B:List Da}(h:A<+:B){i:Nat}(hi:i<A.length):B.getD i zD=A.getD i zD:=by
 have h2:i<B.length:=gU hi h.length_le;rw[jf hi,jf h2,h.getElem hi]
theorem wa.grow{L k:Nat}{A B:List Da}{M:List (Nd×Nat)}(h:wa L k A M)(hp:A<+:B)(hl:B.length<=k+1)(hg:∀X∈B,Gd X L){d:Nd}{i:Nat}(hi:i<B.length)(o1:1<=d.op)(o8:d.op<=8)(ha:5<=d.op->d.a<A.length)(hb:5<=d.op->d.op≠8->d.b<A.length)(hv:iP L d.op d.x (A.getD d.a zD) (A.getD d.b zD)=some (B.getD i zD)):wa L (k+1) B (M++[(d,i)])where
 gd:=hg
 la:=hl
 lm:=by have:=h.lm;simp;omega
 done:=fun e he=>by
  have hle:=hp.length_le;rcases gh.1 he with he|he
  .obtain⟨h1,h2,h3,h4,h5,h6⟩:=h.done e he;refine⟨zO,fun h=>by have:=h2 h;omega,fun h h'=>by have:=h3 h h';omega,h4,h5,?_⟩;rw[HJ hp h1,<-h6];exact ON h4 h5 (fun h=>HJ hp (h2 h)) fun h h'=>HJ hp (h3 h h')
  .obtain rfl:e=(d,i):=by simpa using he
   refine⟨hi,fun h=>gU (ha h) hle,fun h h'=>gU (hb h h') hle,o1,o8,?_⟩;rw[<-hv];exact ON o1 o8 (fun h=>HJ hp (ha h)) fun h h'=>HJ hp (hb h h')
theorem wa.up{L k:Nat}{A:List Da}{M:List (Nd×Nat)}(h:wa L k A M):wa L (k+1) A M:=⟨h.gd,h.done,Nat.le_succ_of_le h.la,Nat.le_succ_of_le h.lm⟩
noncomputable def aqp(d:Nd)(L:Nat)(A:List Da)(M:List (Nd×Nat)):LV:=[vI d.op,vI d.x,vI d.a,vI d.b,vI L,fy (fX A),iy (nZ A),iw (mB M)]
noncomputable def aeT(i:Nat)(e:Int)(L:Nat)(A:List Da)(M:List (Nd×Nat)):LV:=[vI i,vI e,vI L,iy (nZ A),iw (mB M),fy (fX A)]
theorem aHO{L k:Nat}{A:List Da}{M:List (Nd×Nat)}{d:Nd}(hL:L=1∨L=2)(hk:k<=1000)(h:wa L k A M)(o1:1<=d.op)(o8:d.op<=8)(hx:d.op=3->d.x<L)(qB:d.x<=1000)(ha:5<=d.op->d.a<A.length)(Qj:d.a<=1000)(hb:5<=d.op->d.op≠8->d.b<A.length)(fN:d.b<=1000):
  (iP L d.op d.x (A.getD d.a zD) (A.getD d.b zD)=none->CC 39 (aqp d L A M)=some (aeT 0 3 L A M))∧
  (∀Y,iP L d.op d.x (A.getD d.a zD) (A.getD d.b zD)=some Y->∃(i:Nat) (B:List Da) (N:List (Nd×Nat)),i<B.length∧B.getD i zD=Y∧A<+:B∧wa L (k+1) B N∧CC 39 (aqp d L A M)=some (aeT i 0 L B N)):=by
 have la:=h.la;have lm:=h.lm;have k1:((cS .i64 (d.op:Int)&&(cS .i64 (d.x:Int)&&(cS .i64 (d.a:Int)&&(cS .i64 (d.b:Int)&&true))))&&true)=true:=by
  rw[lZ (show d.op<=_ by omega),lZ (show d.x<=_ by omega),lZ (show d.a<=_ by omega),lZ (show d.b<=_ by omega)];rfl
 have jT:=aHu (m2:=nZ A) (m3:=mB M) hL o1 o8 hx h.gd ha hb;have CS:V.agg [vI d.op,vI d.x,vI d.a,vI d.b]=d.v:=rfl;by_cases hd:d∈M.map Prod.fst
 .obtain⟨i,hi,eg⟩:=aqo d (vI 0) M hd;obtain⟨h1,_,_,_,_,h6⟩:=h.done _ hi;simp only at h1 h6;refine⟨fun hn=>(by rw[hn]at h6;cases h6),fun Y hY=>⟨i,A,M,h1,?_,tM _,h.up,?_⟩⟩
  .rw[hY]at h6;exact(ee h6).symm
  .refine Ui ?_;unfold Nt;rw[CS];refine bT k1 (bT ?_ ?_)
   .rw[aeR,bQ hd]
   .rw[eg];rfl
 .have mO:fi d.v (mB M)=false:=by rw[aeR,bX hd]
  refine⟨fun hn=>?_,fun Y hY=>?_⟩
  .rw[hn]at jT;refine Ui ?_;unfold Nt;rw[CS];refine bT k1 (bF mO ?_);refine bs jT (bT rfl ?_);rfl
  .have gY:=Vy hL (fun h5=>h.gd _ (nY (ha h5))) (fun h5 h8=>h.gd _ (nY (hb h5 h8))) o1 o8 hY;rw[hY]at jT;have htl:=aHK gY.ok;have hlen:(Nat.ble (mA Y).length maxLen&&true)=true:=by
    rw[B1,gg];unfold maxLen;omega
   by_cases ht:mA Y∈A.map mA
   .obtain⟨i,gP,h2,e2⟩:=aHL VD (vI 0) ht;have hi:i<A.length:=by rwa [cu]at gP
    have hAi:A.getD i zD=Y:=by
     rw[List.getElem_map]at h2;have gX:=h.gd _ (nY hi);refine aHJ gX.ok gY.ok (by rw[gX.hL,gY.hL]) ?_;rw[jf hi];exact h2
    refine⟨i,A,M++[(d,i)],hi,hAi,tM _,?_,?_⟩
    .exact h.grow (tM _) zO h.gd hi o1 o8 ha hb (by rw[hAi,hY])
    .refine Ui ?_;unfold Nt;rw[CS];refine bT k1 (bF mO ?_);refine bs jT (bF rfl ?_);refine bs (aqf gY.ok) ?_;refine bT hlen ?_;unfold Ns;refine bF ?_ ?_
     .show(!(fi (.str (mA Y)) (nZ A)))=false;rw[show fi (.str (mA Y)) (nZ A)=true from aHM VD ht];rfl
     .simp only[un];refine bT k1 ?_;have e3:=aeS d i M hd;show some [vI (gV (.str (mA Y)) (nZ A) (vI 0)).toInt,vI 0,vI L,iy (nZ A),iw (fj d.v (vI (gV (.str (mA Y)) (nZ A) (vI 0)).toInt) (mB M)),fy (fX A)]=_;rw[show gV (.str (mA Y)) (nZ A) (vI 0)=vI i from e2,V.toInt_int];rw[show fj d.v (vI i) (mB M)=_ from e3];rfl
   .have e2:=ya VD (mA Y) (A.map mA) 0 ht;rw[dT,cu]at e2;have hB:(A++[Y]).getD A.length zD=Y:=zS;have kV:A<+:A++[Y]:=List.prefix_append _ _;refine⟨A.length,A++[Y],M++[(d,A.length)],zS,hB,kV,?_,?_⟩
    .refine h.grow kV (by simp;omega) (fun X hX=>?_) zS o1 o8 ha hb (by rw[hB,hY]);rcases gh.1 hX with hX|hX
     .exact h.gd X hX
     .obtain rfl:X=Y:=by simpa using hX
      exact gY
    .refine Ui ?_;unfold Nt;rw[CS];refine bT k1 (bF mO ?_);refine bs jT (bF rfl ?_);refine bs (aqf gY.ok) ?_;refine bT hlen ?_;unfold Ns;refine bT ?_ ?_
     .show(!(fi (.str (mA Y)) (nZ A)))=true;rw[show fi (.str (mA Y)) (nZ A)=false from aHN VD ht];rfl
     .refine bT hlen (bT ?_ ?_)
      .show Nat.ble (((fX A).length+1)*64) br=true;exact cap (by simp[fX];omega) zO
      .simp only[un];refine bT k1 ?_;have e3:=aeS d A.length M hd;show some [vI ((fX A).length:Int),vI 0,vI L,iy (fj (.str (mA Y)) (vI ((fX A).length:Int)) (nZ A)),iw (fj d.v (vI ((fX A).length:Int)) (mB M)),fy (fX A++[.agg (dM Y)])]=_;rw[show(fX A).length=A.length by simp[fX],e3,show fj (.str (mA Y)) (vI A.length) (nZ A)=_ from e2];simp[aeT,nZ,fX]
theorem aqq{l:LV}{x y:V}{q:Nat}(h:l.length=q):(l++[x]).set q y=l++[y]:=by
 subst h;simp
theorem VE{l:LV}{x:V}{q:Nat}(h:l.length=q):(l++[x])[q]?=some x:=by
 subst h;simp
section
variable {L:Nat}(hL:L=1∨L=2)
include hL
theorem aHP{q:Nat}{pre:LV}(hp:pre.length=q)(hq:q<=10){l1 l2 l3:LV}{k1 k2 k3 k4 k5:Int}:
  Loop (Uj CC (L:Int) k1 (q:Int) l1 k2 k3 l2 k4 k5 l3) (0,pre++[aR []])=some ((L:Int),false,pre++[aR (List.replicate L (vI 1))]):=by
 refine(fe L (fun a=>((a:Int),pre++[aR (List.replicate a (vI 1))])) _ (fun a ha=>?_) ?_)
 .simp only[Uj,Nu,un,aj,FR,az];refine bT (dd ha) ?_;refine(cK (i:=q) (VE hp)).trans ?_;rw[Int.toNat_natCast];refine bs (VE hp) ?_;refine bT (cap (by simp;omega) zO) ?_;refine bT (by simp;omega) ?_;refine bT zS ?_;rw[aqq hp,cN zO,V.dD,<-Pf]
 .simp only[Uj,Nu,un,aj,FR,az];refine bF (bN (aC _)) ?_;rw[bN (aC _)]
theorem aHQ{l1 l2 l3:LV}{k1 k2 k3 k4 k5:Int}:
  Loop (Uk CC (L:Int) k1 l1 k2 k3 l2 k4 k5 l3) (0,([]:LV))=some (2,false,(kH L).bL):=by
 have e:∀q:Nat,List.replicate q (aR (List.replicate L (vI 1)))++[aR (List.replicate L (vI 1))]=List.replicate (q+1) (aR (List.replicate L (vI 1))):=fun q=>Pf.symm;rw[ap1];refine(fe 2 (fun q=>((q:Int),List.replicate q (aR (List.replicate L (vI 1))))) _ (fun q hq=>?_) ?_)
 .simp only[Uk,Nv,un];refine bT (bQ zO) ?_;refine bT (cap (by simp;omega) zO) ?_;refine bs (aHP hL zS zO) ?_;rw[cN zO,e];rfl
 .simp only[Uk,Nv,un];refine bF (bX zO) ?_;rfl
theorem aHR{q x:Nat}{pre:LV}(hp:pre.length=q)(hq:q<=10){l1 l2 l3:LV}{k1 k2 k3 k4 k5 k6 k7 k8:Int}:
  Loop (Um CC (L:Int) k1 (q:Int) l1 k2 k3 l2 k4 (x:Int) k5 k6 k7 k8 l3) (0,pre++[aR []])=some ((L:Int),false,pre++[aR (tab L fun y=>iV ((if q=0∧y=x then 1 else 2:Nat):Int))]):=by
 refine(fe L (fun a=>((a:Int),pre++[aR (tab a fun y=>iV ((if q=0∧y=x then 1 else 2:Nat):Int))])) _ (fun a ha=>?_) ?_)
 .have key:∀t:Nat,t=(if q=0∧a=x then 1 else 2)->(aj (pre++[aR (tab a fun y=>iV ((if q=0∧y=x then 1 else 2:Nat):Int))]) (q:Int) fun qS=>
   ((pre++[aR (tab a fun y=>iV ((if q=0∧y=x then 1 else 2:Nat):Int))])[(q:Int).toNat]?).bind fun oH=>
   bif Nat.ble ((oH.toList.length+([vI t]:LV).length)*8) br then
    FR (pre++[aR (tab a fun y=>iV ((if q=0∧y=x then 1 else 2:Nat):Int))]) (q:Int)<|
    bif(Nat.beq ((q:Int).toNat) ((q:Int).toNat))&&true then
    some (Sum.inl (wI ((a:Int)+1),az (pre++[aR (tab a fun y=>iV ((if q=0∧y=x then 1 else 2:Nat):Int))]) (q:Int) (aR (oH.toList++([vI t]:LV)))):(Int×LV)⊕(Int×Bool×LV))
    else none
   else none)=some (Sum.inl (((a+1:Nat):Int),pre++[aR (tab (a+1) fun y=>iV ((if q=0∧y=x then 1 else 2:Nat):Int))])):=by
   intro t ht;simp only[aj,FR,az];refine(cK (i:=q) (VE hp)).trans ?_;rw[Int.toNat_natCast];refine bs (VE hp) ?_;refine bT (cap (by simp;omega) zO) ?_;refine bT (by simp;omega) ?_;refine bT zS ?_;rw[aqq hp,cN zO,V.dD,iz,ht]
  simp only[Um,Nx,un];refine bT (dd ha) ?_;unfold Nw;by_cases h0:q=0
  .refine bT (by simp[h0]) ?_;by_cases hx:a=x
   .refine bT (by simp[hx]) ?_;exact key 1 (by rw[ai ⟨h0,hx⟩])
   .refine bF (by simp;omega) ?_;exact key 2 (by rw[af fun h=>hx h.2])
  .refine bF (by simp;omega) ?_;refine bF rfl ?_;exact key 2 (by rw[af fun h=>h0 h.1])
 .simp only[Um,Nx,un];refine bF (bN (aC _)) ?_;rw[bN (aC _)]
theorem aHS{x:Nat}{l1 l2 l3:LV}{k1 k2 k3 k4 k5 k6 k7 k8:Int}:
  Loop (Un CC (L:Int) k1 l1 k2 k3 l2 k4 (x:Int) k5 k6 k7 k8 l3) (0,([]:LV))=some (3,false,(iX L x).bL):=by
 have e3:(iX L x).bL=tab 3 fun q=>aR (tab L fun y=>iV ((if q=0∧y=x then 1 else 2:Nat):Int)):=by
  rw[ap2];show _=[aR (tab L fun y=>iV ((if(0:Nat)=0∧y=x then 1 else 2:Nat):Int)),aR (tab L fun y=>iV ((if(1:Nat)=0∧y=x then 1 else 2:Nat):Int)),aR (tab L fun y=>iV ((if(2:Nat)=0∧y=x then 1 else 2:Nat):Int))]
  have e:∀q:Nat,q≠0->(tab L fun y=>iV ((if q=0∧y=x then 1 else 2:Nat):Int))=List.replicate L (vI 2):=fun q hq=>by
   rw[lB];exact eK fun y _=>by rw[af fun h=>hq h.1];rfl
  rw[e 1 zO,e 2 zO];congr 2;exact eK fun y _=>zS
 rw[e3];refine(fe 3 (fun q=>((q:Int),tab q fun q=>aR (tab L fun y=>iV ((if q=0∧y=x then 1 else 2:Nat):Int)))) _ (fun q hq=>?_) ?_)
 .simp only[Un,Ny,un];refine bT (bQ zO) ?_;refine bT (cap (by simp;omega) zO) ?_;refine bs (aHR hL zS zO) ?_;rw[cN zO,iz];rfl
 .simp only[Un,Ny,un];refine bF (bX zO) ?_;rfl
theorem aqr{b:Bool}:CC 31 [vI L,.bool b]=some (dM (lG L b)):=by
 refine aAT ?_;unfold amN;refine bT (lC zO zO) ?_;unfold dM eG;rw[ap0];rfl
end
structure zZ(g:List Nd)(L:Nat)(O:List Da):Prop where
 len:O.length<=g.length
 gd:∀X∈O,Gd X L
 val:∀i,i<O.length->∀h:i<g.length,iP L g[i].op g[i].x (O.getD g[i].a zD) (O.getD g[i].b zD)=some (O.getD i zD)
theorem zZ.snoc{g:List Nd}{L:Nat}{O:List Da}(hg:uE g L)(h:zZ g L O)(hi:O.length<g.length){Y:Da}(gY:Gd Y L)(hv:iP L g[O.length].op g[O.length].x (O.getD g[O.length].a zD) (O.getD g[O.length].b zD)=some Y):zZ g L (O++[Y])where
 len:=by simp;omega
 gd:=fun X hX=>by
  rcases gh.1 hX with hX|hX
  .exact h.gd X hX
  .obtain rfl:X=Y:=by simpa using hX
   exact gY
 val:=fun i mP h3=>by
  have hN:=hg.nd i h3;have kV:∀j,j<O.length->(O++[Y]).getD j zD=O.getD j zD:=fun j hj=>by
   rw[jf hj,jf (by simp;omega),Pl hj]
  rcases iQ i O.length with c|c
  .rw[kV i c,<-h.val i c h3];exact ON hN.o1 hN.o8 (fun h5=>kV _ (by have:=hN.a1 h5;omega)) fun h5 h8=>kV _ (by have:=hN.b1 h5 h8;omega)
  .have:i=O.length:=by simp at mP;omega
   subst this;rw[show(O++[Y]).getD O.length zD=Y by simp,<-hv];exact ON hN.o1 hN.o8 (fun h5=>kV _ (by have:=hN.a1 h5;omega)) fun h5 h8=>kV _ (by have:=hN.b1 h5 h8;omega)
theorem aeU{A:List Da}:(fX A).length=A.length:=by simp[fX]
theorem aHT{A:List Da}{X:Da}:fX A++[V.agg (dM X)]=fX (A++[X]):=by simp[fX]
section
variable {g:List Nd}{L r:Nat}(hL:L=1∨L=2)(hg:uE g L)
include hL hg
theorem aHU{O:List Da}(h:zZ g L O)(hi:O.length<g.length):
  (∃Y,Gd Y L∧iP L g[O.length].op g[O.length].x (O.getD g[O.length].a zD) (O.getD g[O.length].b zD)=some Y∧pD CC (L:Int) (g.map Nd.v) (g.length:Int) ((O.length:Int),fX O)=some (.inl (((O.length+1:Nat):Int),fX (O++[Y]))))∨
  pD CC (L:Int) (g.map Nd.v) (g.length:Int) ((O.length:Int),fX O)=some (.inr (.inl (3,[]))):=by
 have hN:=hg.nd _ hi;have n2:=hg.n2;have hO:=h.gd;have iq:=hg.get hi;generalize g[O.length]=d at hN iq⊢;obtain⟨op,x,a,b⟩:=d;obtain⟨o1,o8,x1,x0,a1,a0,b1,b0⟩:=hN;simp only at o1 o8 x1 x0 a1 a0 b1 b0⊢;have cQ:∀Y:Da,Nat.ble (((fX O).length+([V.agg (dM Y)]:LV).length)*64) br=true:=fun Y=>cap (by simp[aeU];omega) zO;have fin:∀Y:Da,(bif Nat.ble (((fX O).length+([V.agg (dM Y)]:LV).length)*64) br then(some (Sum.inl (wI ((O.length:Int)+1),fX O++([V.agg (dM Y)]:LV))):Option ((Int×LV)⊕((Int×LV)⊕(Int×Bool×LV))))else none)=some (.inl (((O.length+1:Nat):Int),fX (O++[Y]))):=fun Y=>by
  refine bT (cQ Y) ?_;rw[cN zO,aHT]
 rcases(by omega:op=1∨op=2∨op=3∨op=4∨op=5∨op=6∨op=7∨op=8)with rfl|rfl|rfl|rfl|rfl|rfl|rfl|rfl
 .refine .inl ⟨lG L false,⟨Ey zO zO,rfl,HG hL⟩,Vq,?_⟩;simp only[pD,qk,un];refine bT (dd hi) (bs iq (bT rfl ?_));refine bs (aqr hL) ?_;refine bs (oN (Ey zO zO)) ?_;rw[HG hL];exact fin _
 .refine .inl ⟨kH L,⟨Vo zO zO,rfl,aeK hL⟩,Vr,?_⟩;simp only[pD,qk,un];refine bT (dd hi) (bs iq (bF rfl (bF rfl (bT rfl ?_))));refine bs (aHQ hL) ?_;refine bs (oN (a:=kH L) (Vo zO zO)) ?_;rw[aeK hL];exact fin _
 .have av:=Vp (L:=L) (x:=x) zO zO;refine .inl ⟨minD (iX L x),⟨eZ av,ma av,US av⟩,Vs,?_⟩;simp only[pD,qk,un];refine bT (dd hi) (bs iq (bF rfl (bF rfl (bF rfl (bT rfl ?_)))));refine bs (aHS hL (x:=x)) ?_;refine bs (oN (a:=iX L x) av) ?_;exact fin _
 .refine .inl ⟨lG L true,⟨Ey zO zO,rfl,HG hL⟩,Vt,?_⟩;simp only[pD,qk,un];refine bT (dd hi) (bs iq (bF rfl (bT rfl ?_)));refine bs (aqr hL) ?_;refine bs (oN (Ey zO zO)) ?_;rw[HG hL];exact fin _
 .have ha:=a1 zO;have hb:=b1 zO zO;have gp:=hO _ (nY ha);have gq:=hO _ (nY hb);have jY:(O.getD a zD).L=(O.getD b zD).L:=by rw[gp.hL,gq.hL]
  by_cases hn:jh (minD (O.getD a zD)) (minD (O.getD b zD))
  .refine .inr ?_;obtain⟨X,hX⟩:=apX gp.ok gq.ok jY (op:=14) zO hn;simp only[pD,qk,un];refine bT (dd hi) (bs iq (bF rfl (bF rfl (bF rfl (bF rfl ?_)))));unfold vV aj;refine bT rfl ?_;refine(cK (lf ha)).trans ((cK (lf hb)).trans ?_)
   refine bs hX ?_;simp only[un];exact bT rfl rfl
  .have gY:=Vy hL (fun _=>gp) (fun _ _=>gq) zO zO (Vu (L:=L) (x:=x) hn);refine .inl ⟨_,gY,Vu hn,?_⟩;simp only[pD,qk,un];refine bT (dd hi) (bs iq (bF rfl (bF rfl (bF rfl (bF rfl ?_)))));unfold vV aj;refine bT rfl ?_;refine(cK (lf ha)).trans ((cK (lf hb)).trans ?_)
   refine bs (aoI gp.ok gq.ok jY (op:=14) zO hn) ?_;simp only[un];refine bF rfl ?_;refine bs (oN gY.ok) ?_;rw[gY.min];exact fin _
 .have ha:=a1 zO;have hb:=b1 zO zO;have gp:=hO _ (nY ha);have gq:=hO _ (nY hb);have jY:(O.getD a zD).L=(O.getD b zD).L:=by rw[gp.hL,gq.hL]
  by_cases hn:jh (minD (O.getD a zD)) (minD (O.getD b zD))
  .refine .inr ?_;obtain⟨X,hX⟩:=apX gp.ok gq.ok jY (op:=8) zO hn;simp only[pD,qk,un];refine bT (dd hi) (bs iq (bF rfl (bF rfl (bF rfl (bF rfl ?_)))));unfold vV aj;refine bF rfl (bT rfl ?_);refine(cK (lf ha)).trans ((cK (lf hb)).trans ?_)
   refine bs hX ?_;simp only[un];exact bT rfl rfl
  .have gY:=Vy hL (fun _=>gp) (fun _ _=>gq) zO zO (Vv (L:=L) (x:=x) hn);refine .inl ⟨_,gY,Vv hn,?_⟩;simp only[pD,qk,un];refine bT (dd hi) (bs iq (bF rfl (bF rfl (bF rfl (bF rfl ?_)))));unfold vV aj;refine bF rfl (bT rfl ?_);refine(cK (lf ha)).trans ((cK (lf hb)).trans ?_)
   refine bs (aoI gp.ok gq.ok jY (op:=8) zO hn) ?_;simp only[un];refine bF rfl ?_;refine bs (oN gY.ok) ?_;rw[gY.min];exact fin _
 .have ha:=a1 zO;have hb:=b1 zO zO;have gp:=hO _ (nY ha);have gq:=hO _ (nY hb);have jY:(O.getD a zD).L=(O.getD b zD).L:=by rw[gp.hL,gq.hL]
  by_cases hs:64<(minD (O.getD a zD)).n+(minD (O.getD b zD)).n
  .refine .inr ?_;simp only[pD,qk,un];refine bT (dd hi) (bs iq (bF rfl (bF rfl (bF rfl (bF rfl ?_)))));unfold vV aj;refine bF rfl (bF rfl (bT rfl ?_));refine(cK (lf ha)).trans ((cK (lf hb)).trans ?_)
   refine bs (aHj gp.ok gq.ok hs) ?_;simp only[un];exact bT rfl rfl
  .have hk:=aHf gp.ok gq.ok jY (H7 hs);rcases aeM gp.ok gq.ok jY (H7 hs)with⟨h1,_⟩|⟨h1,h2⟩
   .have gY:=Vy hL (fun _=>gp) (fun _ _=>gq) zO zO (Vw (L:=L) (x:=x) hs h1);refine .inl ⟨_,gY,Vw hs h1,?_⟩;rw[h1]at hk;simp only[pD,qk,un];refine bT (dd hi) (bs iq (bF rfl (bF rfl (bF rfl (bF rfl ?_)))));unfold vV aj;refine bF rfl (bF rfl (bT rfl ?_));refine(cK (lf ha)).trans ((cK (lf hb)).trans ?_)
    refine bs hk ?_;simp only[un];refine bF rfl ?_;refine bs (oN gY.ok) ?_;rw[gY.min];exact fin _
   .refine .inr ?_;rw[h1,h2]at hk;simp only[pD,qk,un];refine bT (dd hi) (bs iq (bF rfl (bF rfl (bF rfl (bF rfl ?_)))));unfold vV aj;refine bF rfl (bF rfl (bT rfl ?_));refine(cK (lf ha)).trans ((cK (lf hb)).trans ?_)
    refine bs hk ?_;simp only[un];exact bT rfl rfl
 .have ha:=a1 zO;have gp:=hO _ (nY ha);refine .inl ⟨nT (O.getD a zD),⟨Oy gp.ok,gp.hL,ad2 gp.ok gp.min⟩,Vx,?_⟩;simp only[pD,qk,un];refine bT (dd hi) (bs iq (bF rfl (bF rfl (bF rfl (bF rfl ?_)))));unfold vV aj;refine bF rfl (bF rfl (bF rfl (bT rfl ?_)));refine(cK (lf ha)).trans ?_;refine bs (aHk gp.ok) ?_;simp only[un];refine bF rfl ?_;refine bs (oN (a:=nT (O.getD a zD)) (Oy gp.ok)) ?_;rw[ad2 gp.ok gp.min];exact fin _
theorem aHV(hr:r<g.length):(∃O,O.length=g.length∧zZ g L O∧CC 12 [fU (g.map Nd.v),vI r,vI L]=some [vI 0,fy (fX O)])∨
  CC 12 [fU (g.map Nd.v),vI r,vI L]=some [vI 3,fy []]:=by
 have hv:=aE1 hg hr;have key:=X5 (step:=pD CC (L:Int) (g.map Nd.v) (g.length:Int)) (fun x=>∃O,x=((O.length:Int),fX O)∧zZ g L O) (fun x=>g.length-x.2.length)
  (fun o=>o=.inl (3,[])∨∃O,O.length=g.length∧zZ g L O∧o=.inr ((g.length:Int),false,fX O)) (fun x hx=>?_) (0,[]) ⟨[],rfl,od _,fun X hX=>(by cases hX),fun i hi=>(by cases hi)⟩
 .obtain⟨o,h1,h2⟩:=key;rcases h2 with rfl|⟨O,h3,h4,rfl⟩
  .refine .inr (amZ ?_);unfold ac8;rw[cu];refine bs hv (bF rfl (bs h1 rfl))
  .refine .inl ⟨O,h3,h4,amZ ?_⟩;unfold ac8;rw[cu];refine bs hv (bF rfl (bs h1 rfl))
 .obtain⟨O,rfl,h⟩:=hx;rcases iQ O.length g.length with c|c
  .rcases aHU hL hg h c with⟨Y,gY,hY,h2⟩|h2
   .refine .inl ⟨_,h2,⟨O++[Y],zS,h.snoc hg c gY hY⟩,?_⟩;simp only[aeU,dQ,List.length_cons,List.length_nil];omega
   .exact .inr ⟨_,h2,.inl rfl⟩
  .have hl:=h.len;have:O.length=g.length:=zO;refine .inr ⟨_,?_,.inr ⟨O,this,h,rfl⟩⟩;simp only[pD,qk,un];rw[this];refine bF (bN (aC _)) ?_;rw[bN (aC _)]
end
theorem aqs{F:LN}{i:Nat}{v:Nat}(h:F.length=i)(j:Nat):(F++[v]).getD j 0=if j=i then v else F.getD j 0:=by
 subst h;by_cases hj:j=F.length
 .rw[ai hj,hj];simp
 .rw[af hj];rcases iQ j F.length with c|c
  .rw[jf c,jf (by simp;omega),Pl c]
  .simp only[List.getD];rw[Ah (by simp;omega),Ah c]
def tD(n:Nat)(F:LN):LV:=tab n fun j=>vI (F.getD j 0:Nat)
def sx(n i:Nat)(O:List Da):LV:=tab n fun j=>V.agg (dM (if j<i then O.getD j zD else zD))
theorem aHW{op:Nat}:decide ((nU op:Int)>=1)=decide (5<=op):=by
 unfold nU;by_cases h5:5<=op
 .rw[ai h5,bQ h5];by_cases h8:op=8<;>simp[h8]
 .rw[af h5,bX h5];simp
theorem aHX{op:Nat}:((nU op:Int)==2)=decide (5<=op∧op≠8):=by
 unfold nU;by_cases h5:5<=op
 .rw[ai h5];by_cases h8:op=8<;>simp[h5,h8]
 .rw[af h5,bX (fun h=>h5 h.1)];rfl
section
variable {g:List Nd}{L r:Nat}(hL:L=1∨L=2)(hg:uE g L){O:List Da}(hO:zZ g L O)(hl:O.length=g.length)
include hL hg hO hl
theorem aHY{i:Nat}(hi:i<g.length){F:LN}{A:List Da}{M:List (Nd×Nat)}(hF:F.length=i)(hB:wa L i A M)(hp:∀j,j<i->F.getD j 0<A.length∧A.getD (F.getD j 0) zD=O.getD j zD):
  ∃(v:Nat) (B:List Da) (N:List (Nd×Nat)),wa L (i+1) B N∧(∀j,j<i+1->(F++[v]).getD j 0<B.length∧B.getD ((F++[v]).getD j 0) zD=O.getD j zD)∧
   ND CC (g.map Nd.v) (g.length:Int) ((i:Int),(L:Int),tD g.length F,sx g.length i O,fX A,nZ A,mB M)=some (.inl (((i+1:Nat):Int),(L:Int),tD g.length (F++[v]),sx g.length (i+1) O,fX B,nZ B,mB N)):=by
 have hN:=hg.nd _ hi;have n2:=hg.n2;have iq:=hg.get hi;have iY:=hO.val i zO hi;generalize g[i]=d at hN iq iY;obtain⟨op,x,a,b⟩:=d;obtain⟨o1,o8,x1,x0,a1,a0,b1,b0⟩:=hN;simp only at o1 o8 x1 x0 a1 a0 b1 b0 iY;have la:=hB.la;obtain⟨fa,hfa,aqt⟩:∃fa:Nat,(5<=op->fa=F.getD a 0)∧(¬5<=op->fa=a):=by
  by_cases h:5<=op
  .exact⟨_,fun _=>rfl,fun h'=>absurd h h'⟩
  .exact⟨_,fun h'=>absurd h' h,fun _=>rfl⟩
 obtain⟨fb,hfb,aqu⟩:∃fb:Nat,(5<=op∧op≠8->fb=F.getD b 0)∧(¬(5<=op∧op≠8)->fb=b):=by
  by_cases h:5<=op∧op≠8
  .exact⟨_,fun _=>rfl,fun h'=>absurd h h'⟩
  .exact⟨_,fun h'=>absurd h' h,fun _=>rfl⟩
 have ha:5<=op->fa<A.length:=fun h=>by rw[hfa h];exact(hp a (a1 h)).1
 have hb:5<=op->op≠8->fb<A.length:=fun h h8=>by rw[hfb ⟨h,h8⟩];exact(hp b (b1 h h8)).1
 have I5:x<=1000:=by
  by_cases h3:op=3
  .have:=x1 h3;omega
  .have:=x0 h3;omega
 have Qj:fa<=1000:=by
  by_cases h:5<=op
  .have:=ha h;omega
  .rw[aqt h,a0 zO];omega
 have fN:fb<=1000:=by
  by_cases h:5<=op∧op≠8
  .have:=hb h.1 h.2;omega
  .rw[aqu h,b0 zO];omega
 have hv:iP L op x (A.getD fa zD) (A.getD fb zD)=some (O.getD i zD):=by
  rw[<-iY];exact ON o1 o8 (fun h=>by rw[hfa h];exact(hp a (a1 h)).2) fun h h8=>by rw[hfb ⟨h,h8⟩];exact(hp b (b1 h h8)).2
 obtain⟨v,B,N,h1,h2,h3,h4,h5⟩:=(aHO (d:=⟨op,x,fa,fb⟩) hL zO hB o1 o8 x1 I5 ha Qj hb fN).2 _ hv;refine⟨v,B,N,h4,fun j hj=>?_,?_⟩
 .rw[aqs hF];by_cases hji:j=i
  .rw[ai hji,hji];exact⟨h1,h2⟩
  .rw[af hji];obtain⟨q1,q2⟩:=hp j zO;exact⟨gU q1 h3.length_le,by rw[HJ h3 q1,q2]⟩
 .have aHZ:∀{β:Type}(K:Int->Option β){k1 k2 k3 k4:Int}{l1 l2 l3 l4 l5:LV},NA CC (i:Int) l1 k1 k2 (decide ((nU op:Int)>=1)) k3 (tD g.length F) l2 k4 (x:Int) (a:Int) (b:Int) l3 l4 l5 K=K (fa:Int):=by
   intro β K k1 k2 k3 k4 l1 l2 l3 l4 l5;unfold NA aj;rw[aHW];by_cases h:5<=op
   .refine bT (bQ h) ?_;refine(gu (i:=a) (by have:=a1 h;omega)).trans ?_;rw[hfa h];rfl
   .refine bF (bX h) ?_;rw[aqt h]
  have aH0:∀{β:Type}(K:Int->Option β){k1 k2 k3 k4 k5:Int}{l1 l2 l3 l4 l5:LV},NB CC (i:Int) l1 k1 k2 ((nU op:Int)==2) k3 (tD g.length F) l2 k4 (x:Int) k5 (b:Int) l3 l4 l5 K=K (fb:Int):=by
   intro β K k1 k2 k3 k4 k5 l1 l2 l3 l4 l5;unfold NB aj;rw[aHX];by_cases h:5<=op∧op≠8
   .refine bT (bQ h) ?_;refine(gu (i:=b) (by have:=b1 h.1 h.2;omega)).trans ?_;rw[hfb h];rfl
   .refine bF (bX h) ?_;rw[aqu h]
  have c0:(V.cell (Nd.v ⟨op,x,a,b⟩) 0).toInt=(op:Int):=rfl;have c1:(V.cell (Nd.v ⟨op,x,a,b⟩) 1).toInt=(x:Int):=rfl;have c2:(V.cell (Nd.v ⟨op,x,a,b⟩) 2).toInt=(a:Int):=rfl;have c3:(V.cell (Nd.v ⟨op,x,a,b⟩) 3).toInt=(b:Int):=rfl;simp only[ND,NC,un];refine bT (dd hi) (bs iq ?_);simp only[c0,c1,c2,c3];refine bs (qW o8) ?_;simp only[V.bj,V.toInt_int,gI,gL];rw[aHZ];refine bs (qW o8) ?_;simp only[V.bj,V.toInt_int,gI,gL];rw[aH0];refine bs h5 (bF rfl ?_);unfold aj;refine(gu hi).trans ?_;refine(cK (i:=v) (lf h1)).trans ?_;refine(gu hi).trans ?_;rw[cN zO,h2];have e1:az (tD g.length F) (i:Int) (vI v)=tD g.length (F++[v]):=by
   unfold az tD;rw[Int.toNat_natCast,m7];refine eK fun j _=>?_;rw[aqs hF];by_cases hj:j=i
   .rw[ai hj,ai hj]
   .rw[af hj,af hj]
  have e2:az (sx g.length i O) (i:Int) (.agg (dM (O.getD i zD)))=sx g.length (i+1) O:=by
   unfold az sx;rw[Int.toNat_natCast,m7];refine eK fun j _=>?_;by_cases hj:j=i
   .rw[ai hj,ai zO,hj]
   .rw[af hj];by_cases h':j<i
    .rw[ai h',ai zO]
    .rw[af h',af zO]
  show some (Sum.inl (((i+1:Nat):Int),(L:Int),az (tD g.length F) (i:Int) (vI v),az (sx g.length i O) (i:Int) (.agg (dM (O.getD i zD))),fX B,nZ B,mB N))=_;rw[e1,e2]
theorem aH1(hr:r<g.length):CC 14 [fU (g.map Nd.v),vI r,vI L]=some [vI 0,fy (fX O)]:=by
 have n2:=hg.n2;refine aBz ?_;unfold am0;rw[cu];refine bs (aEY hg hr) (bF rfl ?_);refine bT (lC zO zO) ?_;refine bT (lC zO zO) ?_;have e1:List.replicate (((g.length:Nat):Int).toNat) (vI 0)=tD g.length []:=by
  unfold tD;rw[Int.toNat_natCast,lB];exact eK fun j _=>rfl
 have e2:List.replicate (((g.length:Nat):Int).toNat) (V.agg [vI 0,vI 0,aB ([]:LV),aE ([]:LV)])=sx g.length 0 O:=by
  unfold sx;rw[Int.toNat_natCast,lB];exact eK fun j _=>by rw[af zO];rfl
 rw[e1,e2];have key:=qm (step:=ND CC (g.map Nd.v) (g.length:Int)) (fun i x=>∃(F:LN) (A:List Da) (M:List (Nd×Nat)),F.length=i∧wa L i A M∧(∀j,j<i->F.getD j 0<A.length∧A.getD (F.getD j 0) zD=O.getD j zD)∧x=((i:Int),(L:Int),tD g.length F,sx g.length i O,fX A,nZ A,mB M))
  (fun o=>∃(a b c d e:LV),o=.inr ((g.length:Int),false,(L:Int),a,sx g.length g.length O,b,c,d)) g.length 0 ((0:Int),(L:Int),tD g.length [],sx g.length 0 O,([]:LV),([]:LV),([]:LV)) (fun i _ hi x hx=>?_) (fun x hx=>?_)
  ⟨[],[],[],rfl,⟨fun X hX=>(by cases hX),fun e he=>(by cases he),aC _,aC _⟩,fun j hj=>zO,rfl⟩
 .obtain⟨o,h1,a,b,c,d,e,rfl⟩:=key;refine bs h1 ?_;have e3:sx g.length g.length O=fX O:=by
   unfold sx fX;rw[Hb O zD,hl];exact eK fun j hj=>by rw[ai hj]
  simp only[db,un];rw[e3]
 .obtain⟨F,A,M,h1,h2,h3,rfl⟩:=hx;obtain⟨v,B,N,h4,h5,h6⟩:=aHY hL hg hO hl (show i<g.length by omega) h1 h2 h3;exact⟨_,h6,F++[v],B,N,by simp[h1],h4,h5,rfl⟩
 .obtain⟨F,A,M,h1,h2,h3,rfl⟩:=hx;rw[dT]at*
  refine⟨.inr ((g.length:Int),false,(L:Int),tD g.length F,sx g.length g.length O,fX A,nZ A,mB M),?_,_,_,_,_,[],rfl⟩;simp only[ND,NC,un];refine bF (bN (aC _)) ?_;rw[bN (aC _)]
end
noncomputable def aqv:Bool:=
 match AY PG mC 40 12 13 []with
 |some [.bool b]=>b
 |_=>false
theorem aH2:aqv=true:=by kernel_rfl
theorem aqw:CC 13 []=some [.bool true]:=by
 have h:=aH2;unfold aqv at h;split at h
 .rename_i b h2;rw[h]at h2;exact Q9 h2
 .cases h
theorem WT.aH3{P:Program}{t:TypeId}{x:V}(hu:P.underlying t=some (.int .i64))(h:WT P t x):∃n:Int,x=vI n∧ -9223372036854775808<=n∧n<=9223372036854775807:=by
 obtain⟨n,rfl,h1,h2⟩:=h.jo hu;have e1:IntKind.min .i64= -9223372036854775808:=by decide
 have e2:IntKind.max .i64=9223372036854775807:=by decide
 rw[e1]at h1;rw[e2]at h2;exact⟨n,rfl,h1,h2⟩
def HV(r:List Int):V:=aR (r.map fun n=>vI n)
theorem aff{t:TypeId}{x:V}(hu:Tryz.prog.underlying t=some (.slice 3))(hi:Tryz.prog.underlying 3=some (.int .i64))(h:pk Tryz.prog t x):∃r:List Int,x=HV r∧(r.length<=maxLen∧∀q∈r,-9223372036854775808<=q∧q<=9223372036854775807):=by
 obtain⟨es,rfl,e1,e2⟩:=WT.atZ hu (pk.one (by simp[cP,hu]) h);obtain⟨r,rfl,hr⟩:=aia (f:=fun n=>vI n) (p:=fun q=> -9223372036854775808<=q∧q<=9223372036854775807) fun y hy=>WT.aH3 hi (pk.one (by simp[cP,hi]) (e2 y hy));exact⟨r,rfl,by simpa using e1,hr⟩
def GV(L:Nat)(ns:List Nd):Prop:=∀(i:Nat) d,ns[i]?=some d->d.Ok L i
def oR(ns:List Nd):Nat->Nat->LN->Prop
 |0,_,_=>False
 |n+1,i,w=>
  match ns[i]?with
  |none=>False
  |some d=>
   if d.op=2 then w=[]else if d.op=3 then w=[d.x]else if d.op=4 then True
   else if d.op=5 then oR ns n d.a w∨oR ns n d.b w
   else if d.op=6 then oR ns n d.a w∧oR ns n d.b w
   else if d.op=7 then∃u v,w=u++v∧oR ns n d.a u∧oR ns n d.b v
   else if d.op=8 then¬oR ns n d.a w else False
def lg(ns:List Nd)(i:Nat)(w:LN):Prop:=oR ns (i+1) i w
theorem aqx{L:Nat}{ns:List Nd}(hv:GV L ns):∀(n m i:Nat),i<n->i<m->oR ns n i=oR ns m i:=by
 intro n
 induction n with
 |zero=>intro m i h;omega
 |succ n ih=>
  intro m i h1 h2;obtain⟨m,rfl⟩:∃k,m=k+1:=⟨m-1,zO⟩
  funext w;unfold oR;cases hx:ns[i]?with
  |none=>rfl
  |some d=>
   have ok:=hv i d hx;have ha:5<=d.op->oR ns n d.a=oR ns m d.a:=fun h=>by
    have:=ok.a1 h;exact ih m _ zO zO
   have hb:5<=d.op->d.op≠8->oR ns n d.b=oR ns m d.b:=fun h h'=>by
    have:=ok.b1 h h';exact ih m _ zO zO
   simp only;by_cases h5:d.op=5
   .simp[h5,ha zO,hb zO zO]
   by_cases h6:d.op=6
   .simp[h6,ha zO,hb zO zO]
   by_cases h7:d.op=7
   .simp[h7,ha zO,hb zO zO]
   by_cases h8:d.op=8
   .simp[h8,ha zO]
   simp[h5,h6,h7,h8]
theorem BN{L:Nat}{ns:List Nd}(hv:GV L ns){i:Nat}{d:Nd}(hx:ns[i]?=some d)(w:LN):
  lg ns i w=if d.op=2 then w=[]else if d.op=3 then w=[d.x]else if d.op=4 then True
   else if d.op=5 then lg ns d.a w∨lg ns d.b w
   else if d.op=6 then lg ns d.a w∧lg ns d.b w
   else if d.op=7 then∃u v,w=u++v∧lg ns d.a u∧lg ns d.b v
   else if d.op=8 then¬lg ns d.a w else False:=by
 have ok:=hv i d hx;have ha:5<=d.op->oR ns i d.a=lg ns d.a:=fun h=>by
  have:=ok.a1 h;exact aqx hv _ _ _ zO zO
 have hb:5<=d.op->d.op≠8->oR ns i d.b=lg ns d.b:=fun h h'=>by
  have:=ok.b1 h h';exact aqx hv _ _ _ zO zO
 conv=>lhs;unfold lg oR
 rw[hx];simp only;by_cases h5:d.op=5
 .simp[h5,ha zO,hb zO zO]
 by_cases h6:d.op=6
 .simp[h6,ha zO,hb zO zO]
 by_cases h7:d.op=7
 .simp[h7,ha zO,hb zO zO]
 by_cases h8:d.op=8
 .simp[h8,ha zO]
 simp[h5,h6,h7,h8]
section
variable {L:Nat}{ns:List Nd}(hv:GV L ns){i a b:Nat}
include hv
theorem aeV{x y z:Nat}(h:ns[i]?=some ⟨1,x,y,z⟩)(w:LN):lg ns i w↔False:=by rw[BN hv h];simp
theorem aeW{x y z:Nat}(h:ns[i]?=some ⟨2,x,y,z⟩)(w:LN):lg ns i w↔w=[]:=by rw[BN hv h];simp
theorem OQ{x y z:Nat}(h:ns[i]?=some ⟨3,x,y,z⟩)(w:LN):lg ns i w↔w=[x]:=by rw[BN hv h];simp
theorem aeX{x y z:Nat}(h:ns[i]?=some ⟨4,x,y,z⟩)(w:LN):lg ns i w↔True:=by rw[BN hv h];simp
theorem aeY{x:Nat}(h:ns[i]?=some ⟨5,x,a,b⟩)(w:LN):lg ns i w↔lg ns a w∨lg ns b w:=by rw[BN hv h];simp
theorem aeZ{x:Nat}(h:ns[i]?=some ⟨6,x,a,b⟩)(w:LN):lg ns i w↔lg ns a w∧lg ns b w:=by rw[BN hv h];simp
theorem ae0{x:Nat}(h:ns[i]?=some ⟨7,x,a,b⟩)(w:LN):lg ns i w↔∃u v,w=u++v∧lg ns a u∧lg ns b v:=by rw[BN hv h];simp
theorem ae1{x y:Nat}(h:ns[i]?=some ⟨8,x,a,y⟩)(w:LN):lg ns i w↔¬lg ns a w:=by rw[BN hv h];simp
end
structure Xt(L:Nat)(ns ms:List Nd)(k:Nat):Prop where
 v:GV L ms
 p:ns<+:ms
 l:ms.length<=ns.length+k
theorem Xt.refl{L:Nat}{ns:List Nd}(h:GV L ns){k:Nat}:Xt L ns ns k:=⟨h,tM _,Nat.le_add_right _ _⟩
theorem Xt.trans{L:Nat}{a b c:List Nd}{k m:Nat}(h1:Xt L a b k)(h2:Xt L b c m):Xt L a c (k+m):=⟨h2.v,h1.p.trans h2.p,by have:=h1.l;have:=h2.l;omega⟩
theorem Xt.mono{L:Nat}{a b:List Nd}{k m:Nat}(h:Xt L a b k)(hk:k<=m):Xt L a b m:=⟨h.v,h.p,by have:=h.l;omega⟩
theorem Xt.le{L:Nat}{a b:List Nd}{k:Nat}(h:Xt L a b k):a.length<=b.length:=h.p.length_le
theorem ae2{L:Nat}{b:Bool}:∀(w:LN),WL L w->(lG L b).acc 0 w=b
 |[],_=>by cases b<;>rfl
 |x::w,h=>by
  rw[Da.xV,show(lG L b).nx 0 x=0 from yg h.head];exact ae2 w h.tail
theorem aqy{L:Nat}:∀(w:LN),WL L w->(kH L).acc 1 w=false
 |[],_=>rfl
 |x::w,h=>by
  rw[Da.xV,show(kH L).nx 1 x=1 from yg h.head];exact aqy w h.tail
theorem aH4{L:Nat}:∀(w:LN),WL L w->((kH L).acc 0 w=true↔w=[])
 |[],_=>by simp[Da.qT,Da.fin,kH]
 |x::w,h=>by
  rw[Da.xV,show(kH L).nx 0 x=1 from yg h.head,aqy w h.tail];simp
theorem ae3{L c:Nat}:∀(w:LN),WL L w->(iX L c).acc 2 w=false
 |[],_=>rfl
 |x::w,h=>by
  rw[Da.xV,show(iX L c).nx 2 x=2 from yg h.head];exact ae3 w h.tail
theorem aH5{L c:Nat}:∀(w:LN),WL L w->((iX L c).acc 0 w=true↔w=[c])
 |[],_=>by simp[Da.qT,Da.fin,iX]
 |x::w,h=>by
  rw[Da.xV,show(iX L c).nx 0 x=if x=c then 1 else 2 from zN h.head];by_cases hx:x=c
  .rw[ai hx];cases w with
   |nil=>simp[Da.qT,Da.fin,iX,hx]
   |cons y w=>rw[Da.xV,show(iX L c).nx 1 y=2 from yg h.tail.head,ae3 w h.tail.tail];simp
  .rw[af hx,ae3 w h.tail];simp[hx]
theorem uE.gv{g:List Nd}{L:Nat}(h:uE g L):GV L g:=fun i d hd=>by
 obtain⟨hi,e⟩:=dw.1 hd;rw[<-e];exact h.nd i hi
theorem aH6{g:List Nd}{L:Nat}{O:List Da}(hg:uE g L)(hO:zZ g L O)(hl:O.length=g.length)(i:Nat):i<g.length->∀w,WL L w->((O.getD i zD).acc (O.getD i zD).st w=true↔lg g i w):=by
 induction i using Nat.strongRecOn with
 |ind i ih=>
 intro hi w hw;have hv:=hO.val i zO hi;have hN:=hg.nd i hi;have l1:=hg.l1;have l2:=hg.l2;have gd:∀j,j<g.length->Gd (O.getD j zD) L:=fun j hj=>hO.gd _ (nY zO);have hd:g[i]?=some g[i]:=cA hi;generalize g[i]=d at hv hN hd;obtain⟨op,x,a,b⟩:=d;obtain⟨o1,o8,x1,_,a1,_,b1,_⟩:=hN;simp only at o1 o8 x1 a1 b1 hv;rcases(by omega:op=1∨op=2∨op=3∨op=4∨op=5∨op=6∨op=7∨op=8)with rfl|rfl|rfl|rfl|rfl|rfl|rfl|rfl
 .rw[Vq]at hv;rw[<-ee hv,show(lG L false).st=0 from rfl,ae2 w hw,aeV hg.gv hd];simp
 .rw[Vr]at hv;rw[<-ee hv,show(kH L).st=0 from rfl,aH4 w hw,aeW hg.gv hd]
 .rw[Vs]at hv;rw[<-ee hv,BC (Vp l1 l2) hw,show(iX L x).st=0 from rfl,aH5 w hw,OQ hg.gv hd]
 .rw[Vt]at hv;rw[<-ee hv,show(lG L true).st=0 from rfl,ae2 w hw,aeX hg.gv hd];simp
 all_goals
  have ha:=a1 zO;have ga:=gd a zO;have ia:=ih a ha zO
 .have hb:=b1 zO zO;have gb:=gd b zO;have ib:=ih b hb zO w hw;by_cases hp:jh (minD (O.getD a zD)) (minD (O.getD b zD))
  .rw[ap4 hp]at hv;cases hv
  .rw[Vu hp]at hv;rw[<-ee hv,aoJ ga.ok gb.ok (ga.hL.trans gb.hL.symm) hp (by rw[ga.hL];exact hw),aeY hg.gv hd,<-ia w hw,<-ib];cases(O.getD a zD).acc (O.getD a zD).st w<;>cases(O.getD b zD).acc (O.getD b zD).st w<;>decide
 .have hb:=b1 zO zO;have gb:=gd b zO;have ib:=ih b hb zO w hw;by_cases hp:jh (minD (O.getD a zD)) (minD (O.getD b zD))
  .rw[ap5 hp]at hv;cases hv
  .rw[Vv hp]at hv;rw[<-ee hv,aoJ ga.ok gb.ok (ga.hL.trans gb.hL.symm) hp (by rw[ga.hL];exact hw),aeZ hg.gv hd,<-ia w hw,<-ib];cases(O.getD a zD).acc (O.getD a zD).st w<;>cases(O.getD b zD).acc (O.getD b zD).st w<;>decide
 .have hb:=b1 zO zO;have gb:=gd b zO;have ib:=ih b hb zO;by_cases hs:64<(minD (O.getD a zD)).n+(minD (O.getD b zD)).n
  .rw[ap6 hs]at hv;cases hv
  .have hr:=OL (eZ ga.ok) (eZ gb.ok) (by rw[ma ga.ok,ma gb.ok,ga.hL,gb.hL]) zO;have h1:=aeL hr;have e:eM (minD (O.getD a zD)).L ((minD (O.getD a zD)).n+(minD (O.getD b zD)).n) (tB (minD (O.getD a zD)) (minD (O.getD b zD))) (zX (minD (O.getD a zD)) (minD (O.getD b zD))) (sw (minD (O.getD a zD)) (minD (O.getD b zD)))=na (minD (O.getD a zD)) (minD (O.getD b zD)):=rfl;rw[e,ma ga.ok]at h1;rcases h1 with⟨h1,h2,_⟩|⟨h1,_,_⟩
   .rw[Vw hs h1]at hv;rw[<-ee hv,h2.dv w (by rw[ga.hL];exact hw),ga.min,gb.min,aHa ga.ok gb.ok (ga.hL.trans gb.hL.symm) (by rw[ga.hL];exact hw),ae0 hg.gv hd];constructor
    .rintro⟨u,v,rfl,h3,h4⟩;obtain⟨hu,yV⟩:=WL.app.1 hw;exact⟨u,v,rfl,(ia u hu).1 h3,(ib v yV).1 h4⟩
    .rintro⟨u,v,rfl,h3,h4⟩;obtain⟨hu,yV⟩:=WL.app.1 hw;exact⟨u,v,rfl,(ia u hu).2 h3,(ib v yV).2 h4⟩
   .rw[ap7 hs h1]at hv;cases hv
 .rw[Vx]at hv;rw[<-ee hv,ae1 hg.gv hd,<-ia w hw,show(nT (O.getD a zD)).acc (nT (O.getD a zD)).st w= !((O.getD a zD).acc (O.getD a zD).st w)from Da.aos ga.ok ga.ok.s (by rw[ga.hL];exact hw)];cases(O.getD a zD).acc (O.getD a zD).st w<;>decide
section
inductive Ex where
 |node (op letter:Int) (kids:List Ex)
namespace Ex
def op:Ex->Int|.node o _ _=>o
def letter:Ex->Int|.node _ l _=>l
def kids:Ex->List Ex|.node _ _ ks=>ks
theorem ind{p:Ex->Prop}(h:∀o l ks,(∀k∈ks,p k)->p (.node o l ks)):∀e,p e
 |.node o l ks=>h o l ks fun k hk=>ind h k
termination_by e=>SizeOf.sizeOf e
decreasing_by
 have:=List.sizeOf_lt_of_mem hk;simp;omega
mutual
def enc:Ex->V
 |.node o l ks=>.agg [vI o,vI l,cM (OR ks)]
def OR:List Ex->LV
 |[]=>[]
 |k::ks=>enc k::OR ks
end
theorem aqz:∀ks,OR ks=ks.map enc
 |[]=>by simp only[OR,yr]
 |k::ks=>by simp only[OR,iB,aqz ks]
theorem VF(e:Ex):e.enc=.agg [vI e.op,vI e.letter,cM (e.kids.map enc)]:=by
 cases e;simp only[enc,op,letter,kids,aqz]
mutual
def size:Ex->Nat
 |.node _ _ ks=>1+eI ks
def eI:List Ex->Nat
 |[]=>0
 |k::ks=>size k+eI ks
end
mutual
def depth:Ex->Nat
 |.node _ _ ks=>1+gH ks
def gH:List Ex->Nat
 |[]=>0
 |k::ks=>max (depth k) (gH ks)
end
inductive Ok:Ex->Prop
 |node {o l:Int}{ks:List Ex}:(-9223372036854775808<=o∧o<=9223372036854775807)->(-9223372036854775808<=l∧l<=9223372036854775807)->ks.length<=maxLen->(∀k∈ks,Ok k)->Ok (.node o l ks)
theorem Ok.VG{o l:Int}{ks:List Ex}(h:Ok (.node o l ks)):∀k∈ks,Ok k:=by cases h;assumption
theorem Ok.len{o l:Int}{ks:List Ex}(h:Ok (.node o l ks)):ks.length<=maxLen:=by cases h;assumption
end Ex
open Ex
abbrev nc(e:Ex)(l:LV):LV:=vI e.op::vI e.letter::cM (e.kids.map enc)::l
end
section
open Ex
theorem OS(pre eW:List Ex)(k:Ex):idx ((pre++k::eW).map enc) (pre.length:Int)=some k.enc:=by
 rw[C7];simp
theorem iT(k:Ex):(k.enc.cell 0).toInt=k.op:=by rw[VF];simp
theorem iU(k:Ex):(k.enc.cell 1).toInt=k.letter:=by rw[VF];simp
theorem iW(k:Ex):(k.enc.cell 2).toList=k.kids.map enc:=by rw[VF];simp
theorem aH7{ks:List Ex}(hlen:ks.length<=maxLen){d:Int}(hd:0<=d∧d<=1000)(ih:∀k∈ks,∀d l:Int,0<=d->d<=1000->0<=l->l<=1000->∃l',CC 93 (nc k [vI d,vI l])=some [.bool (decide ((k.depth:Int)<=d∧(k.size:Int)<=l)),vI l']∧0<=l'∧l'<=l∧(((k.depth:Int)<=d∧(k.size:Int)<=l)->l'=l-k.size)):
  ∀(eW pre:List Ex) (l:Int),ks=pre++eW->0<=l->l<=1000->1<=d->
  (∃l':Int,Loop (D3 CC d (ks.map enc) ((ks.map enc).length:Int)) (((pre.length:Nat):Int),l)=some (.inl (false,l'))∧¬((gH eW:Int)<=d-1∧(eI eW:Int)<=l)∧0<=l'∧l'<=l)∨
  (∃i b,Loop (D3 CC d (ks.map enc) ((ks.map enc).length:Int)) (((pre.length:Nat):Int),l)=some (.inr (i,b,l-eI eW))∧((gH eW:Int)<=d-1∧(eI eW:Int)<=l)):=by
 intro eW
 induction eW with
 |nil=>
  intro pre l jc h0 h1 QT;subst jc;refine .inr ⟨((pre.length:Nat):Int),false,?_,?_⟩
  .have hz:l-((eI ([]:List Ex):Nat):Int)=l:=by simp only[eI];omega
   rw[hz];refine dg ?_;simp only[D3,G1,un,jO,cu,aF];rw[cl];simp
  .simp only[gH,eI];omega
 |cons k eW ihs=>
  intro pre l jc h0 h1 QT;obtain⟨l',e1,e2,e3,e4⟩:=ih k (by rw[jc];simp) (d-1) l zO zO h0 h1;have gl:pre.length<ks.length:=by rw[jc];simp
  have:=si;have sU:idx (ks.map enc) (pre.length:Int)=some k.enc:=by rw[jc];exact OS _ _ _
  by_cases hk:(k.depth:Int)<=d-1∧(k.size:Int)<=l
  .have iL:D3 CC d (ks.map enc) ((ks.map enc).length:Int) (((pre.length:Nat):Int),l)=some (.inl ((((pre++[k]).length:Nat):Int),l')):=by
    simp only[D3,G1,un,cu,aF];rw[aU,sU];simp only[Option.bind_some,iT,iU,iW];rw[dk,e1];simp only[Option.bind_some,V.bj,V.iM,bQ hk,BX,cond_false,iR,gK,V.toInt_int,gI,gB,bM];rw[dk];simp
   rw[fg iL];have e5:=e4 hk;rcases ihs (pre++[k]) l' (by rw[jc];simp) e2 zO QT with⟨l2,q1,q2,q3,q4⟩|⟨i,b,q1,q2⟩
   .refine .inl ⟨l2,q1,?_,q3,zO⟩;simp only[gH,eI];omega
   .refine .inr ⟨i,b,q1.trans ?_,?_⟩
    .simp only[eI];congr 4;omega
    .simp only[gH,eI];omega
  .refine .inl ⟨l',dg ?_,?_,e2,e3⟩
   .simp only[D3,G1,un,cu,aF];rw[aU,sU];simp only[Option.bind_some,iT,iU,iW];rw[dk,e1];simp only[Option.bind_some,V.bj,V.iM,bX hk,Bool.not_false,cond_true,iR,gK,V.toInt_int,gI,gB,bM]
   .simp only[gH,eI];omega
theorem aH8:∀e:Ex,e.Ok->∀d l:Int,0<=d->d<=1000->0<=l->l<=1000->
  ∃l',CC 93 (nc e [vI d,vI l])=some [.bool (decide ((e.depth:Int)<=d∧(e.size:Int)<=l)),vI l']∧0<=l'∧l'<=l∧(((e.depth:Int)<=d∧(e.size:Int)<=l)->l'=l-e.size):=
 ind fun o lt ks ih av d l h1 h2 h3 h4=>by
  have IV:∀k∈ks,_:=fun k hk=>ih k hk (av.VG k hk);have hs:∀e:Ex,e=.node o lt ks->e.size=1+eI ks∧e.depth=1+gH ks:=by rintro e rfl;constructor<;>simp only[size,depth]
  obtain⟨s1,s2⟩:=hs _ rfl;by_cases hd:d=0
  .have hn:¬(((Ex.node o lt ks).depth:Int)<=d∧((Ex.node o lt ks).size:Int)<=l):=zO;refine⟨l,Uq ?_,h3,Int.le_refl _,fun h=>absurd h hn⟩;simp only[NF,kb,ai hd,bX hn]
  .by_cases hl:l=0
   .have hn:¬(((Ex.node o lt ks).depth:Int)<=d∧((Ex.node o lt ks).size:Int)<=l):=zO;refine⟨l,Uq ?_,h3,Int.le_refl _,fun h=>absurd h hn⟩;simp only[NF,kb,af hd,ai hl,bX hn]
   .rcases aH7 av.len ⟨h1,h2⟩ IV ks [] (l-1) rfl zO zO zO with⟨l',q1,q2,q3,q4⟩|⟨i,b,q1,q2⟩
    .have hn:¬(((Ex.node o lt ks).depth:Int)<=d∧((Ex.node o lt ks).size:Int)<=l):=zO;refine⟨l',Uq ?_,q3,zO,fun h=>absurd h hn⟩;simp only[NF,kb,af hd,af hl,bX hn,Ex.kids];rw[dk];simp only[List.length_nil,Int.ofNat_zero,Int.natCast_zero]at q1;erw [q1];rfl
    .have hn:(((Ex.node o lt ks).depth:Int)<=d∧((Ex.node o lt ks).size:Int)<=l):=zO;refine⟨l-1-eI ks,Uq ?_,zO,zO,fun _=>zO⟩;simp only[NF,kb,af hd,af hl,bQ hn,Ex.kids];rw[dk];simp only[List.length_nil,Int.ofNat_zero,Int.natCast_zero]at q1;erw [q1];rfl
theorem aH9(e:Ex)(h:e.Ok):CC 66 (nc e [])=some [.bool (decide (e.depth<=40∧e.size<=400))]:=by
 obtain⟨l',e1,_⟩:=aH8 e h 40 400 zO zO zO zO;refine aBB ?_;simp only[am2];rw[e1];simp only[Option.bind_some,V.bj,V.iM,gI,gB];congr 3;rw[yv];omega
def Ez(o l len an:Int):Bool:=
 if o=3 then decide (len=0∧0<=l∧l<an)
 else decide (l=0)&&(if o=1∨o=2 then decide (len=0)else if o=7∨o=8 then decide (len=1)else decide (4<=o∧o<=6∧2<=len))
mutual
def Ex.wf(an:Int):Ex->Bool
 |.node o l ks=>Ez o l ks.length an&&qZ an ks
def Ex.qZ(an:Int):List Ex->Bool
 |[]=>true
 |k::ks=>Ex.wf an k&&qZ an ks
end
theorem aIa{ks:List Ex}(hlen:ks.length<=maxLen){an:Int}(ih:∀k∈ks,CC 67 (nc k [vI an])=some [.bool (k.wf an)]):
  ∀(eW pre:List Ex),ks=pre++eW->
  (Loop (Bw CC an (ks.map enc) ((ks.map enc).length:Int)) ((pre.length:Nat):Int)=some (.inl false)∧qZ an eW=false)∨
  (∃i b,Loop (Bw CC an (ks.map enc) ((ks.map enc).length:Int)) ((pre.length:Nat):Int)=some (.inr (i,b))∧qZ an eW=true):=by
 intro eW
 induction eW with
 |nil=>
  intro pre jc;subst jc;refine .inr ⟨((pre.length:Nat):Int),false,dg ?_,by simp only[qZ]⟩;simp only[Bw,G2,jO,cu,aF];rw[cl];simp
 |cons k eW ihs=>
  intro pre jc;have gl:pre.length<ks.length:=by rw[jc];simp
  have:=si;have sU:idx (ks.map enc) (pre.length:Int)=some k.enc:=by rw[jc];exact OS _ _ _
  have e1:=ih k (by rw[jc];simp);cases hw:k.wf an with
  |true=>
   have iL:Bw CC an (ks.map enc) ((ks.map enc).length:Int) ((pre.length:Nat):Int)=some (.inl (((pre++[k]).length:Nat):Int)):=by
    simp only[Bw,G2,cu,aF];rw[aU,sU];simp only[Option.bind_some,iT,iU,iW];rw[e1,hw];simp only[Option.bind_some,V.bj,V.iM,BX,cond_false,gI,gB];rw[dk];simp
   rw[fg iL];simp only[qZ,hw,uX];exact ihs (pre++[k]) (by rw[jc];simp)
  |false=>
   refine .inl ⟨dg ?_,by simp only[qZ,hw,Bool.false_and]⟩;simp only[Bw,G2,cu,aF];rw[aU,sU];simp only[Option.bind_some,iT,iU,iW];rw[e1,hw];simp only[Option.bind_some,V.bj,V.iM,Bool.not_false,cond_true,gI,gB]
theorem aIb(o:Int):o=1∨o=2∨o=3∨o=4∨o=5∨o=6∨o=7∨o=8∨(o<1∨8<o):=zO
theorem aIc{an:Int}:∀e:Ex,e.Ok->CC 67 (nc e [vI an])=some [.bool (e.wf an)]:=
 ind fun o lt ks ih av=>by
  refine aBH ?_;have hlen:((ks.map enc).length:Int)=(ks.length:Int):=zS;have hl:=aIa av.len (fun k hk=>ih k hk (av.VG k hk)) ks [] rfl;simp only[List.length_nil,Int.natCast_zero,Int.ofNat_zero]at hl;have AP:(Loop (Bw CC an (ks.map enc) ((ks.map enc).length:Int)) 0).bind (db (fun(t:Bool)=>some [V.bool t]) (un fun(_:Int) (_:Bool)=>some [V.bool true]))=some [.bool (qZ an ks)]:=by
   rcases hl with⟨h1,h2⟩|⟨i,b,h1,h2⟩
   .erw [h1];rw[h2];rfl
   .erw [h1];rw[h2];rfl
  simp only[Ex.op,Ex.letter,Ex.kids];unfold am3;simp only[Us,Ut,ada,Ur];rw[AP,hlen];simp only[Ex.wf,Ez];have sr:ks.length=0->qZ an ks=true:=fun h=>by rw[sA h];simp only[qZ]
  rcases aIb o with rfl|rfl|rfl|rfl|rfl|rfl|rfl|rfl|ho
  case inr.inr.inr.inr.inr.inr.inr.inr=>
   have n1:o≠1:=zO;have n2:o≠2:=zO;have n3:o≠3:=zO;have n4:o≠4:=zO;have n5:o≠5:=zO;have n6:o≠6:=zO;have n7:o≠7:=zO;have n8:o≠8:=zO;have n9:¬(4<=o∧o<=6∧2<=(ks.length:Int)):=zO;by_cases bt:lt=0<;>simp[n1,n2,n3,n4,n5,n6,n7,n8,n9,bt]
  all_goals by_cases bt:lt=0<;>by_cases h0:ks.length=0<;>by_cases h1:ks.length=1<;>simp[bt,h0,h1,sr]
  all_goals (try omega)
  all_goals (try (split<;>simp_all<;>omega))
def Ex.val(e:Ex)(an:Int):Int:=
 if 1<=an∧an<=6 then(if e.depth<=40∧e.size<=400 then(if e.wf an=true then 0 else 4)else 3)else 1
theorem aId(e:Ex)(h:e.Ok)(an:Int):CC 48 (nc e [vI an])=some [vI (e.val an)]:=by
 refine aBA ?_;unfold am1 Ex.val;rw[aH9 e h,aIc e h];by_cases h1:1<=an
 .by_cases h2:an<=6
  .by_cases h3:e.depth<=40∧e.size<=400
   .cases h4:e.wf an<;>simp[h1,h2,h3,show¬an<1 by omega,show¬6<an by omega]
   .simp[h1,h2,h3,show¬an<1 by omega,show¬6<an by omega]
  .simp[h1,h2,show¬an<1 by omega,show 6<an by omega]
 .simp[h1,show an<1 by omega]
end
abbrev Lg:=List UInt8->Prop
def L2(A B:Lg):Lg:=fun w=>∃u v,w=u++v∧A u∧B v
inductive qq(A:Lg):Lg
 |nil:qq A []
 |cons {u v:List UInt8}:A u->qq A v->qq A (u++v)
def EA:List Lg->Lg
 |[]=>fun _=>False
 |L::_=>L
def OT:List Lg->Lg
 |[]=>fun w=>w=[]
 |L::Ls=>Ls.foldl L2 L
def jM(o l:Int)(Ls:List Lg):Lg:=fun w=>
 if o=2 then w=[]else if o=3 then∃c:UInt8,w=[c]∧(c.toNat:Int)-97=l
 else if o=4 then∃L∈Ls,L w else if o=5 then OT Ls w else if o=6 then∀L∈Ls,L w
 else if o=7 then qq (EA Ls) w else if o=8 then¬EA Ls w else False
mutual
def Ex.dv:Ex->Lg
 |.node o l ks=>jM o l (Ex.OU ks)
def Ex.OU:List Ex->List Lg
 |[]=>[]
 |k::ks=>Ex.dv k::Ex.OU ks
end
theorem aqA:∀ks:List Ex,Ex.OU ks=ks.map Ex.dv
 |[]=>by simp only[Ex.OU,yr]
 |k::ks=>by simp only[Ex.OU,iB,aqA ks]
theorem wc{o l:Int}{ks:List Ex}:(Ex.node o l ks).dv=jM o l (ks.map Ex.dv):=by rw[Ex.dv,aqA]
theorem qq.append{A:Lg}{u v:List UInt8}(h:qq A u)(h2:qq A v):qq A (u++v):=by
 induction h with
 |nil=>exact h2
 |cons a _ ih=>rw[iC];exact .cons a ih
theorem qq.one{A:Lg}{u:List UInt8}(h:A u):qq A u:=by
 have:=qq.cons h (qq.nil (A:=A));rwa [jO]at this
def sl(w:List UInt8)(i j:Nat):List UInt8:=(w.drop i).take (j-i)
def Pt(w:List UInt8)(L:Lg)(i j:Nat):Prop:=i<=j∧j<=w.length∧L (sl w i j)
theorem OV{w:List UInt8}{i j:Nat}(h:i<=j)(hj:j<=w.length):(sl w i j).length=j-i:=by simp[sl];omega
theorem aIe{w:List UInt8}{i:Nat}:sl w i i=[]:=by simp[sl]
theorem aIf{w:List UInt8}:sl w 0 w.length=w:=by simp[sl]
theorem ae4{w:List UInt8}{i k j:Nat}(h:i<=k)(h2:k<=j):sl w i k++sl w k j=sl w i j:=by
 unfold sl;have e:j-i=(k-i)+(j-k):=zO;have e2:w.drop k=(w.drop i).drop (k-i):=by rw[H8];congr 1;omega
 rw[e,e2,List.take_add]
theorem aIg{w u v:List UInt8}{i j:Nat}(h:i<=j)(hj:j<=w.length)(e:sl w i j=u++v):i<=i+u.length∧i+u.length<=j∧sl w i (i+u.length)=u∧sl w (i+u.length) j=v:=by
 have hl:=OV h hj;rw[e,dQ]at hl;have h2:i+u.length<=j:=zO;refine⟨zO,h2,?_⟩;have:=ae4 (w:=w) (i:=i) (k:=i+u.length) (j:=j) zO h2;rw[e]at this;have l1:(sl w i (i+u.length)).length=u.length:=by rw[OV zO zO];omega
 exact List.append_inj this l1
theorem aIh{w:List UInt8}{A B:Lg}{i j:Nat}:Pt w (L2 A B) i j↔∃k,Pt w A i k∧Pt w B k j:=by
 constructor
 .rintro⟨h1,h2,u,v,e,ha,hb⟩;obtain⟨c1,c2,c3,c4⟩:=aIg h1 h2 e;exact⟨i+u.length,⟨c1,zO,by rw[c3];exact ha⟩,⟨c2,h2,by rw[c4];exact hb⟩⟩
 .rintro⟨k,⟨h1,h2,ha⟩,⟨h3,h4,hb⟩⟩;exact⟨zO,h4,_,_,(ae4 h1 h3).symm,ha,hb⟩
theorem aIi{w:List UInt8}{A:Lg}{i k j:Nat}(h1:Pt w (qq A) i k)(h2:Pt w (qq A) k j):Pt w (qq A) i j:=
 ⟨mD h1.1 h2.1,h2.2.1,by rw[<-ae4 h1.1 h2.1];exact h1.2.2.append h2.2.2⟩
def Ends(w:List UInt8)(F:Nat)(R:Nat->Option Nat)(L:Lg):Prop:=∀i,F.testBit i=true->∃S:Nat,R i=some S∧∀j,S.testBit j=true↔Pt w L i j
def In(w:List UInt8)(F:Nat):Prop:=∀i,F.testBit i=true->i<=w.length
theorem aIj{w:List UInt8}{S i:Nat}{L:Lg}(h:∀j,S.testBit j=true↔Pt w L i j):In w S:=fun j hj=>((h j).1 hj).2.1
theorem aIk{S:Nat}{p:Nat->Prop}(h:∀j,S.testBit j=true↔p j){j:Nat}(hn:¬p j):S.testBit j=false:=by
 cases hc:S.testBit j
 .rfl
 .exact absurd ((h j).1 hc) hn
theorem VH{S T j:Nat}:(S|||T).testBit j=true↔S.testBit j=true∨T.testBit j=true:=by rw[rh];simp
theorem VI{i j:Nat}:(2^i).testBit j=true↔j=i:=by rw[wm];simp[eq_comm]
def wd(S k:Nat):Nat:=(S >>> (64*k)) %2^64
def wV(g:Nat->Nat)(k:Nat):V:=.int .u64 (g k:Nat)
def fY(m:Nat)(g:Nat->Nat):LV:=(List.range m).map (wV g)
def fZ(m S:Nat):LV:=fY m (wd S)
theorem uQ{S k j:Nat}:(wd S k).testBit j=(decide (j<64)&&S.testBit (64*k+j)):=by
 unfold wd;rw[Nat.testBit_mod_two_pow,Nat.testBit_shiftRight]
theorem me{S k:Nat}:wd S k<2^64:=yq _ (by decide)
theorem EB{m:Nat}{g:Nat->Nat}:(fY m g).length=m:=by simp[fY]
theorem EC{m S:Nat}:(fZ m S).length=m:=EB
theorem ED{m k:Nat}{g:Nat->Nat}(h:k<m):(fY m g)[k]?=some (.int .u64 (g k:Nat)):=by simp[fY,wV,h]
theorem BO{m k S:Nat}(h:k<m):(fZ m S)[k]?=some (.int .u64 (wd S k:Nat)):=ED h
theorem aqB{α:Type}{m k:Nat}{f:Nat->α}{x:α}:((List.range m).map f).set k x=(List.range m).map fun j=>if j=k then x else f j:=by
 apply wi;intro i;rw[yp];by_cases h:k=i
 .subst h;by_cases hk:k<m
  .simp[hk]
  .simp[hk]
 .have h':¬i=k:=fun e=>h e.symm;by_cases hi:i<m
  .simp[h,h',hi]
  .simp[h,hi]
theorem EE{m k x:Nat}{g:Nat->Nat}:(fY m g).set k (.int .u64 (x:Nat))=fY m (fun j=>if j=k then x else g j):=by
 unfold fY;rw[aqB];refine rf fun j _=>?_;unfold wV;by_cases h:j=k
 .simp[h]
 .simp[h]
theorem aqC{m k x S:Nat}:(fZ m S).set k (.int .u64 (x:Nat))=fY m (fun j=>if j=k then x else wd S j):=EE
theorem BP{m:Nat}{g h:Nat->Nat}(e:∀k,k<m->g k=h k):fY m g=fY m h:=by
 refine rf fun j hj=>?_;unfold wV;rw[e j (lj.1 hj)]
theorem aqD{a b:Nat}(ha:a<2^64)(hb:b<2^64)(h:∀j,j<64->a.testBit j=b.testBit j):a=b:=by
 refine B8 fun j=>?_;by_cases hj:j<64
 .exact h j hj
 .have hp:2^64<=2^j:=pK zO zO;rw[ET (gU ha hp),ET (gU hb hp)]
theorem VJ{m S:Nat}{g:Nat->Nat}(hl:∀k,k<m->g k<2^64)(hb:∀k,k<m->∀j,j<64->(g k).testBit j=S.testBit (64*k+j)):fY m g=fZ m S:=
 BP fun k hk=>aqD (hl k hk) me fun j hj=>by rw[hb k hk j hj,uQ];simp[hj]
theorem EF{i:Nat}:Int.fdiv (i:Int) (2^(min (6:Int).toNat kI))=((i/64:Nat):Int):=by
 have e:(2^(min (6:Int).toNat kI):Int)=64:=by rfl
 rw[e,Int.fdiv_eq_ediv_of_nonneg _ zO];omega
theorem OW{i:Nat}(h:i<2^63):wI ((bI (i:Int)&&&bI 63).toNat)=((i%64:Nat):Int):=by
 have:=bv_and (n:=kI) (A:=i) (B:=63) (by show i<2^64;omega) (by show 63<2^64;omega);rw[show((63:Nat):Int)=63 from rfl]at this;rw[this,show(63:Nat)=2^6-1 from rfl,Nat.and_two_pow_sub_one_eq_mod];exact wrap64 zO zO
theorem aqE{m S i:Nat}:fY m (fun j=>if j=i/64 then wd S (i/64)|||2^(i%64)else wd S j)=fZ m (S|||2^i):=by
 refine VJ (fun k _=>?_) fun k _ j hj=>?_
 .split
  .exact qt me (kK zO zO)
  .exact me
 .rw[rh,wm];by_cases h:k=i/64
  .rw[ai h,rh,wm,<-h,uQ];have:(i%64=j)↔(i=64*k+j):=zO;simp[hj,this]
  .rw[af h,uQ];have:¬i=64*k+j:=zO;simp[hj,this]
theorem aIl{m S i:Nat}(h:i/64<m)(hi:i<2^60):CC 27 [vI i,bn (fZ m S)]=some [bn (fZ m (S|||2^i))]:=by
 refine aBI ?_;unfold am4 aj az;rw[EF,OW zO];simp only[dZ,aF,Int.toNat_natCast,EC,BO h,Option.bind_some,V.toInt_int];rw[aU,aU,aU,A0 zO,u64_or me (kK zO zO),aqC,aqE,aU,aU]
theorem aqF{m S i:Nat}(h:i/64<m)(hi:i<2^60):CC 29 [bn (fZ m S),vI i]=some [.bool (S.testBit i)]:=by
 refine aBK ?_;unfold am6;rw[EF,OW zO];simp only[C7,BO h,Option.bind_some,V.toInt_int,aF,Int.toNat_natCast];rw[aU,Yh me zO,uQ];have:64*(i/64)+i%64=i:=zO;rw[this];have h2:i%64<64:=zO;simp[h2]
theorem aIm{w:List UInt8}(h:w.length<=2048):CC 26 [.str w]=some [bn (fZ (w.length/64+1) 0)]:=by
 refine aBP ?_;unfold am8;rw[EF,dk];have e:(((w.length/64:Nat):Int)+1).toNat=w.length/64+1:=zO;simp only[dZ,aF,vD,e];rw[aU,aU,ai (by rw[uA];omega)];have:List.replicate (w.length/64+1) (V.int .u64 0)=fZ (w.length/64+1) 0:=by
  apply wi;intro i;by_cases hi:i<w.length/64+1
  .rw[BO hi];have:wd 0 i=0:=by unfold wd;simp
   rw[this];rw[HY,ai hi];rfl
  .rw[Ah (by simp;omega),Ah (by rw[EC];omega)]
 rw[this]
theorem aIn{m S T a:Nat}(hT:∀j,j<64*a->T.testBit j=false):fY m (fun j=>if a<=j then wd S j|||wd T j else wd S j)=fZ m (S|||T):=by
 refine VJ (fun k _=>?_) fun k _ j hj=>?_
 .split
  .exact qt me me
  .exact me
 .rw[rh];by_cases h:a<=k
  .rw[ai h,rh,uQ,uQ];simp[hj]
  .rw[af h,uQ,hT (64*k+j) zO];simp[hj]
theorem aqG{m S T i:Nat}(hm:m<=100)(h:i/64<m)(hT:∀j,j<i->T.testBit j=false):
  CC 69 [bn (fZ m T),vI i,bn (fZ m S)]=some [bn (fZ m (S|||T))]:=by
 refine aBO ?_;unfold am7;rw[EF]
 let g:Nat->Nat->Nat:=fun b j=>if i/64<=j∧j<b then wd S j|||wd T j else wd S j
 have go:∀d b,i/64<=b->b+d=m->Loop (NH CC (fZ m T)) ((b:Int),fY m (g b))=some ((m:Int),false,fY m (g m)):=by
  intro d
  induction d with
  |zero=>
   intro b _ hb;have hb:b=m:=zO;subst hb;refine dg ?_;simp only[NH,NG,un,EB,aj,az];rw[aF,cl];simp
  |succ d ih=>
   intro b oz hb;have cv:NH CC (fZ m T) ((b:Int),fY m (g b))=some (.inl (((b+1:Nat):Int),fY m (g (b+1)))):=by
    simp only[NH,NG,un,EB,dZ,aF,Int.toNat_natCast,ED (show b<m by omega),BO (show b<m by omega),C7,Option.bind_some,V.toInt_int,aj,az];have e1:g b b=wd S b:=by simp[g]
    rw[aU,aU,aU,e1,u64_or me me,EE,dk,aU,aU];have:fY m (fun j=>if j=b then wd S b|||wd T b else g b j)=fY m (g (b+1)):=by
     refine BP fun k _=>?_;show(if k=b then wd S b|||wd T b else if i/64<=k∧k<b then wd S k|||wd T k else wd S k)=if i/64<=k∧k<b+1 then wd S k|||wd T k else wd S k
     by_cases h1:k=b
     .subst h1;rw[ai rfl,aU]
     .rw[af h1];by_cases h2:i/64<=k∧k<b
      .rw[ai h2,aU]
      .rw[af h2,cl]
    rw[this];rfl
   rw[fg cv];exact ih (b+1) zO zO
 have e0:fZ m S=fY m (g (i/64)):=BP fun k _=>by
  show wd S k=if i/64<=k∧k<i/64 then _ else wd S k
  rw[cl]
 have e1:fY m (g m)=fZ m (S|||T):=by
  rw[<-aIn (m:=m) (a:=i/64) (S:=S) (T:=T) fun j hj=>hT j zO];refine BP fun k hk=>?_;show(if i/64<=k∧k<m then _ else _)=_;by_cases h2:i/64<=k
  .rw[ai ⟨h2,hk⟩,ai h2]
  .rw[af (fun h=>h2 h.1),af h2]
 rw[e0,go (m-i/64) (i/64) zO zO,<-e1];simp[un]
def OX(m:Nat):Option Nat->V
 |none=>bn []
 |some S=>bn (fZ m S)
def Rows(m N:Nat)(R:Nat->Option Nat):LV:=(List.range N).map fun i=>OX m (R i)
def lH(R:Nat->Option Nat)(i S:Nat):Nat->Option Nat:=fun j=>if j=i then some S else R j
theorem ae5{R:Nat->Option Nat}{i S:Nat}:lH R i S i=some S:=by simp[lH]
theorem aqH{R:Nat->Option Nat}{i j S:Nat}(h:j≠i):lH R i S j=R j:=by simp[lH,h]
theorem aqI{R:Nat->Option Nat}{i S T:Nat}:lH (lH R i S) i T=lH R i T:=by
 funext j;unfold lH;split<;>rfl
theorem tE{m N:Nat}{R:Nat->Option Nat}:(Rows m N R).length=N:=by simp[Rows]
theorem sy{m N i:Nat}{R:Nat->Option Nat}(h:i<N):(Rows m N R)[i]?=some (OX m (R i)):=by simp[Rows,h]
theorem HK{m N i S:Nat}{R:Nat->Option Nat}:(Rows m N R).set i (bn (fZ m S))=Rows m N (lH R i S):=by
 unfold Rows;rw[aqB];refine rf fun j _=>?_;unfold lH;by_cases h:j=i
 .simp[h,OX]
 .simp[h]
theorem aIo{m N:Nat}:List.replicate N (bn ([]:LV))=Rows m N (fun _=>none):=by
 apply wi;intro i;by_cases hi:i<N
 .rw[sy hi,HY,ai hi];rfl
 .rw[Ah (by simp;omega),Ah (by rw[tE];omega)]
theorem aIp:Tryz.prog.underlying 74=some (.slice 63):=by kernel_rfl
theorem ae6:cP Tryz.prog 74=false:=by kernel_rfl
theorem VK{l:LV}:parts Tryz.prog 74 (bn l)=[bn l]:=by
 unfold parts;rw[ae6];simp only[cond_false,iE,aIp,V.dD]
theorem BQ{m N i S:Nat}{R:Nat->Option Nat}(h:i<N)(hR:R i=some S):ej Tryz.prog 74 (Rows m N R) [(i,0)]=some (bn (fZ m S)):=by
 simp only[ej,sy h,hR,OX,Option.bind_some,VK];rfl
theorem aIq{m N i S:Nat}{l:LV}{R:Nat->Option Nat}(h:i<N)(hR:R i=some S):setRow Tryz.prog l 74 (Rows m N R) [(i,0)]=(Rows m N R).set i (bn l):=by
 simp only[setRow,sy h,hR,OX,VK];simp only[List.getElem?_cons_zero,List.set_cons_zero,dW,ae6,cond_false,V.bj]
theorem aqJ{m N i j S:Nat}{R:Nat->Option Nat}(h:j/64<m)(hj:j<2^60)(hi:i<N)(hR:R i=some S):
  CC Sh [fw i,vI j,dB (Rows m N R)]=some [dB (Rows m N (lH R i (S|||2^j)))]:=by
 refine aBJ ?_;unfold am5 az;rw[EF,OW zO];simp only[BQ hi hR,Option.bind_some,dZ,aF,Int.toNat_natCast,V.dD,EC,BO h,V.toInt_int];rw[aU,aU,aU,A0 zO,u64_or me (kK zO zO),aqC,aqE,aIq hi hR,HK,aU,aU]
end Go.AM
