/-
  Functions of the program, lifted to plain data.
-/
import Derived.Sort.AssemblyPlain
import Derived.Test.YtbbgbkiefjilcaaGreatDoorP4
set_option linter.unusedVariables false
set_option linter.unusedSimpArgs false
set_option maxRecDepth 100000
namespace Go.AM
open Go.Proofs
abbrev Lg:=List UInt8→Prop
def L2 (A B:Lg):Lg:=fun w=> ∃u v,w=u++v∧A u∧B v
inductive dE (A:Lg):Lg
 | nil:dE A []
 | cons {u v:List UInt8}:A u→dE A v→dE A (u++v)
def qj:List Lg→Lg
 | []=>fun _=>False
 | L::_=>L
def va:List Lg→Lg
 | []=>fun w=>w=[]
 | L::Ls=>Ls.foldl L2 L
def dL (o l:Int) (Ls:List Lg):Lg:=fun w=>
 if o=2 then w=[] else if o=3 then∃c:UInt8,w=[c]∧(c.toNat:Int)-97=l
 else if o=4 then∃L∈Ls,L w else if o=5 then va Ls w else if o=6 then∀L∈Ls,L w
 else if o=7 then dE (qj Ls) w else if o=8 then¬qj Ls w else False
mutual
def Ex.aP:Ex→Lg
 | .node o l ks=>dL o l (Ex.Ea ks)
def Ex.Ea:List Ex→List Lg
 | []=>[]
 | k::ks=>Ex.aP k::Ex.Ea ks
end
theorem Z1: ∀ks:List Ex,Ex.Ea ks=ks.map Ex.aP
 | []=>by simp only[Ex.Ea,kP]
 | k::ks=>by simp only[Ex.Ea,dw,Z1 ks]
theorem lf {o l:Int} {ks:List Ex}:(Ex.node o l ks).aP=dL o l (ks.map Ex.aP):=by rw[Ex.aP,Z1]
theorem dE.append {A:Lg} {u v:List UInt8} (h:dE A u) (h2:dE A v):dE A (u++v):=by
 induction h with
 | nil=>exact h2
 | cons a _ ih=>rw[da];exact .cons a ih
theorem dE.one {A:Lg} {u:List UInt8} (h:A u):dE A u:=by
 have:=dE.cons h (dE.nil (A:=A));rwa [di] at this
theorem dE.first {A:Lg} {w:List UInt8} (h:dE A w):w=[]∨∃u v,u≠[]∧w=u++v∧A u∧dE A v:=by
 induction h with
 | nil=>exact .inl rfl
 | @cons u v a hv ih=>
  by_cases hu:u=[]
  ·subst hu;simpa using ih
  ·exact .inr ⟨u,v,hu,rfl,a,hv⟩
def sl (w:List UInt8) (i j:Nat):List UInt8:=(w.drop i).take (j-i)
def Pt (w:List UInt8) (L:Lg) (i j:Nat):Prop:=i≤j∧j≤w.length∧L (sl w i j)
theorem AV {w:List UInt8} {i j:Nat} (h:i≤j) (hj:j≤w.length):(sl w i j).length=j-i:=by simp[sl];omega
theorem Z2 {w:List UInt8} {i:Nat}:sl w i i=[]:=by simp[sl]
theorem akz {w:List UInt8}:sl w 0 w.length=w:=by simp[sl]
theorem RW {w:List UInt8} {i k j:Nat} (h:i≤k) (h2:k≤j):sl w i k++sl w k j=sl w i j:=by
 unfold sl
 have e:j-i=(k-i)+(j-k):=by omega
 have e2:w.drop k=(w.drop i).drop (k-i):=by rw[m7];congr 1;omega
 rw[e,e2,List.take_add]
theorem Z3 {w u v:List UInt8} {i j:Nat} (h:i≤j) (hj:j≤w.length) (e:sl w i j=u++v):i≤i+u.length∧i+u.length≤j∧sl w i (i+u.length)=u∧sl w (i+u.length) j=v:=by
 have hl:=AV h hj
 rw[e,cg] at hl
 have h2:i+u.length≤j:=by omega
 refine ⟨by omega,h2,?_⟩
 have:=RW (w:=w) (i:=i) (k:=i+u.length) (j:=j) (by omega) h2
 rw[e] at this
 have l1:(sl w i (i+u.length)).length=u.length:=by rw[AV (by omega) (by omega)];omega
 exact List.append_inj this l1
theorem akA {w:List UInt8} {A B:Lg} {i j:Nat}:Pt w (L2 A B) i j↔∃k,Pt w A i k∧Pt w B k j:=by
 constructor
 ·rintro ⟨h1,h2,u,v,e,ha,hb⟩
  obtain ⟨c1,c2,c3,c4⟩:=Z3 h1 h2 e
  exact ⟨i+u.length,⟨c1,by omega,by rw[c3];exact ha⟩,⟨c2,h2,by rw[c4];exact hb⟩⟩
 ·rintro ⟨k,⟨h1,h2,ha⟩,⟨h3,h4,hb⟩⟩
  exact ⟨by omega,h4,_,_,(RW h1 h3).symm,ha,hb⟩
theorem akB {w:List UInt8} {A:Lg} {i:Nat} (h:i≤w.length):Pt w (dE A) i i:=⟨bC _,h,by rw[Z2];exact .nil⟩
theorem RX {w:List UInt8} {A:Lg} {i k j:Nat} (h1:Pt w (dE A) i k) (h2:Pt w (dE A) k j):Pt w (dE A) i j:=
 ⟨jb h1.1 h2.1,h2.2.1,by rw[←RW h1.1 h2.1];exact h1.2.2.append h2.2.2⟩
theorem akC {w:List UInt8} {A:Lg} {i j:Nat} (h:Pt w A i j):Pt w (dE A) i j:=⟨h.1,h.2.1,.one h.2.2⟩
theorem akD {w:List UInt8} {A:Lg} {i j:Nat}:Pt w (dE A) i j↔(i=j∧j≤w.length)∨∃k,i<k∧Pt w A i k∧Pt w (dE A) k j:=by
 constructor
 ·rintro ⟨h1,h2,h⟩
  rcases h.first with h|⟨u,v,hu,e,ha,hv⟩
  ·left
   have:=AV h1 h2
   rw[h,List.length_nil] at this
   exact ⟨by omega,h2⟩
  ·right
   obtain ⟨c1,c2,c3,c4⟩:=Z3 h1 h2 e
   have:0<u.length:=List.length_pos_iff.2 hu
   exact ⟨i+u.length,by omega,⟨c1,by omega,by rw[c3];exact ha⟩,⟨c2,h2,by rw[c4];exact hv⟩⟩
 ·rintro (⟨rfl,h⟩|⟨k,_,h1,h2⟩)
  ·exact akB h
  ·exact RX (akC h1) h2
def Ends (w:List UInt8) (F:Nat) (R:Nat→Option Nat) (L:Lg):Prop:= ∀i,F.testBit i=true→∃S:Nat,R i=some S∧∀j,S.testBit j=true↔Pt w L i j
def In (w:List UInt8) (F:Nat):Prop:= ∀i,F.testBit i=true→i≤w.length
theorem Z4 {w:List UInt8} {S i:Nat} {L:Lg} (h: ∀j,S.testBit j=true↔Pt w L i j):In w S:=fun j hj=>((h j).1 hj).2.1
theorem Z5 {S:Nat} {p:Nat→Prop} (h: ∀j,S.testBit j=true↔p j) {j:Nat} (hn: ¬p j):S.testBit j=false:=by
 cases hc:S.testBit j
 ·rfl
 ·exact absurd ((h j).1 hc) hn
theorem AW {S T j:Nat}:(S|||T).testBit j=true↔S.testBit j=true∨T.testBit j=true:=by rw[gF];simp
theorem AX {i j:Nat}:(2^i).testBit j=true↔j=i:=by rw[lp];simp[eq_comm]
end Go.AM
set_option maxRecDepth 100000
namespace Go.AM
open Go.Proofs Ex
def fA:List Lg→Lg
 | []=>fun w=>w=[]
 | L::Ls=>L2 L (fA Ls)
theorem RY {A B C:Lg}:L2 (L2 A B) C=L2 A (L2 B C):=by
 funext w
 refine propext ⟨?_,?_⟩
 ·rintro ⟨_,z,rfl,⟨u,v,rfl,h1,h2⟩,h3⟩
  exact ⟨u,v++z,da _ _ _,h1,v,z,rfl,h2,h3⟩
 ·rintro ⟨u,_,rfl,h1,v,z,rfl,h2,h3⟩
  exact ⟨u++v,z,(da _ _ _).symm,⟨u,v,rfl,h1,h2⟩,h3⟩
theorem Eb {A:Lg}:L2 A (fun w=>w=[])=A:=by
 funext w
 refine propext ⟨?_,fun h=>⟨w,[],by simp,h,rfl⟩⟩
 rintro ⟨u,v,rfl,h1,rfl⟩
 rwa [di]
theorem RZ {A:Lg}:L2 (fun w=>w=[]) A=A:=by
 funext w
 refine propext ⟨?_,fun h=>⟨[],w,rfl,rfl,h⟩⟩
 rintro ⟨u,v,rfl,rfl,h1⟩
 exact h1
theorem Z6: ∀(Ls:List Lg) (A:Lg),Ls.foldl L2 A=L2 A (fA Ls)
 | [],A=>Eb.symm
 | L::Ls,A=>by
  rw[List.foldl_cons,Z6 Ls,RY];rfl
theorem akE: ∀Ls:List Lg,va Ls=fA Ls
 | []=>rfl
 | L::Ls=>Z6 Ls L
theorem Z7: ∀(A B:List Lg),fA (A++B)=L2 (fA A) (fA B)
 | [],B=>RZ.symm
 | L::A,B=>by
  show L2 L (fA (A++B))=L2 (L2 L (fA A)) (fA B)
  rw[Z7 A B,RY]
theorem akF {A:List Lg} (h:(fun _=>False)∈A):fA A=fun _=>False:=by
 induction A with
 | nil=>cases h
 | cons L A ih=>
  funext w
  refine propext ⟨?_,False.elim⟩
  rintro ⟨u,v,rfl,h1,h2⟩
  rcases cE.1 h with rfl|h
  ·exact h1
  ·rw[ih h] at h2;exact h2
section
variable {n:Int}
theorem pe {e:Ex} (h:e.op=1):e.aP=fun _=>False:=by
 obtain ⟨o,l,ks⟩:=e
 rw[lf]
 have:o=1:=h
 subst this
 funext w;simp[dL]
theorem tC {e:Ex} (h:e.op=2):e.aP=fun w=>w=[]:=by
 obtain ⟨o,l,ks⟩:=e
 rw[lf]
 have:o=2:=h
 subst this
 funext w;simp[dL]
theorem Ec:j5.aP=fun _=>True:=by
 unfold j5
 rw[lf]
 funext w
 simp[dL,qj,pe (e:=dJ) rfl]
theorem AY {l:Int} {ks:List Ex} {w:List UInt8}:(Ex.node 4 l ks).aP w↔∃k∈ks,k.aP w:=by
 rw[lf]
 show (∃L∈ks.map aP,L w)↔_
 constructor
 ·rintro ⟨L,hL,hw⟩
  obtain ⟨k,hk,rfl⟩:=dH.1 hL
  exact ⟨k,hk,hw⟩
 ·rintro ⟨k,hk,hw⟩
  exact ⟨_,dH.2 ⟨k,hk,rfl⟩,hw⟩
theorem Ke {l:Int} {ks:List Ex} {w:List UInt8}:(Ex.node 6 l ks).aP w↔∀k∈ks,k.aP w:=by
 rw[lf];simp[dL]
theorem Ee {l:Int} {ks:List Ex}:(Ex.node 5 l ks).aP=fA (ks.map Ex.aP):=by
 rw[lf,←akE]
 funext w;simp[dL]
theorem AZ {l:Int} {k:Ex}:(Ex.node 7 l [k]).aP=dE k.aP:=by
 rw[lf]
 funext w;simp[dL,qj]
theorem R3 {l:Int} {k:Ex}:(Ex.node 8 l [k]).aP=fun w=> ¬k.aP w:=by
 rw[lf]
 funext w;simp[dL,qj]
theorem xx {e:Ex} {o:Int} (h:e.op=o):e= .node o e.letter e.kids:=by
 obtain ⟨o',l,ks⟩:=e
 have:o'=o:=h
 subst this
 rfl
theorem akG {ks:List Ex} {w:List UInt8}:(∃x∈cr 4 ks,x.aP w)↔∃k∈ks,k.aP w:=by
 constructor
 ·rintro ⟨x,hx,hw⟩
  obtain ⟨k,hk,⟨h1,h2⟩|⟨h1,rfl⟩⟩:=kF.1 hx
  ·exact ⟨k,hk,by rw[xx h1,AY];exact ⟨x,h2,hw⟩⟩
  ·exact ⟨x,hk,hw⟩
 ·rintro ⟨k,hk,hw⟩
  by_cases h:k.op=4
  ·rw[xx h,AY] at hw
   obtain ⟨x,hx,hw⟩:=hw
   exact ⟨x,kF.2 ⟨k,hk,.inl ⟨h,hx⟩⟩,hw⟩
  ·exact ⟨k,kF.2 ⟨k,hk,.inr ⟨h,rfl⟩⟩,hw⟩
theorem akH {ks:List Ex} {w:List UInt8}:(∀x∈cr 6 ks,x.aP w)↔∀k∈ks,k.aP w:=by
 constructor
 ·intro h k hk
  by_cases ho:k.op=6
  ·rw[xx ho,Ke]
   exact fun x hx=>h x (kF.2 ⟨k,hk,.inl ⟨ho,hx⟩⟩)
  ·exact h k (kF.2 ⟨k,hk,.inr ⟨ho,rfl⟩⟩)
 ·intro h x hx
  obtain ⟨k,hk,⟨h1,h2⟩|⟨h1,rfl⟩⟩:=kF.1 hx
  ·have:=h k hk
   rw[xx h1,Ke] at this
   exact this x h2
  ·exact h x hk
theorem R4: ∀ks:List Ex,fA ((cr 5 ks).map Ex.aP)=fA (ks.map Ex.aP)
 | []=>rfl
 | k::ks=>by
  have ih:=R4 ks
  unfold cr at*
  rw[g9,kO,Z7,ih,dw]
  show _=L2 k.aP (fA (ks.map Ex.aP))
  by_cases h:k.op=5
  ·rw[ai h]
   have:k.aP=fA (k.kids.map Ex.aP):=by
    have:=congrArg Ex.aP (xx h)
    rw[this,Ee]
   rw[this]
  ·rw[aj h]
   show L2 (L2 k.aP fun w=>w=[]) _=_
   rw[Eb]
theorem R5: ∀ks:List Ex,fA ((ks.filter fun k=>decide (k.op≠2)).map Ex.aP)=fA (ks.map Ex.aP)
 | []=>rfl
 | k::ks=>by
  have ih:=R5 ks
  by_cases h:k.op=2
  ·rw[List.filter_cons_of_neg (by simp[h]),ih]
   show _=L2 k.aP (fA (ks.map Ex.aP))
   rw[tC h,RZ]
  ·rw[List.filter_cons_of_pos (by simp[h]),dw,dw]
   show L2 k.aP _=L2 k.aP _
   rw[ih]
theorem akI {R:List Ex} {w:List UInt8}:(eO 4 R dJ).aP w↔∃k∈R,k.aP w:=by
 match R with
 | []=>simp[eO,pe (e:=dJ) rfl]
 | [k]=>simp[eO]
 | k::k2::R=>exact AY
theorem akJ {R:List Ex} {w:List UInt8}:(eO 6 R j5).aP w↔∀k∈R,k.aP w:=by
 match R with
 | []=>simp[eO,Ec]
 | [k]=>simp[eO]
 | k::k2::R=>exact Ke
theorem Z8 {R:List Ex}:(eO 5 R eP).aP=fA (R.map Ex.aP):=by
 match R with
 | []=>exact tC rfl
 | [k]=>exact Eb.symm
 | k::k2::R=>exact Ee
theorem akK {A:Lg}:dE (dE A)=dE A:=by
 funext w
 refine propext ⟨fun h=> ?_,.one⟩
 induction h with
 | nil=>exact .nil
 | cons a _ ih=>exact a.append ih
theorem akL {A:Lg} (h: ∀w,A w→w=[]):dE A=fun w=>w=[]:=by
 funext w
 refine propext ⟨fun hs=> ?_,fun e=>e▸ .nil⟩
 induction hs with
 | nil=>rfl
 | cons a _ ih=>rw[h _ a,ih];rfl
theorem akM {o l:Int} {ks:List Ex} (hk: ∀k∈ks,Gd n k) (hs:im o l ks.length n=true):(cw o l ks).aP=(Ex.node o l ks).aP:=by
 rcases ld hs with ⟨rfl,_⟩|⟨_,⟨rfl,_⟩|⟨rfl,_⟩|⟨rfl,_⟩|⟨rfl,_⟩|⟨rfl,_⟩|⟨rfl,hlen⟩|⟨rfl,hlen⟩⟩
 ·rw[rS (by simp)]
 ·rw[rS (by simp)]
 ·rw[rS (by simp)]
 ·funext w
  refine propext ?_
  rw[J3,AY,←akG]
  by_cases h:(cr 4 ks).any univ=true
  ·rw[ai h]
   obtain ⟨x,hx,hu⟩:=iB.1 h
   have:=RN (D2 hk 4 x hx) hu
   subst this
   rw[Ec]
   exact ⟨fun _=>⟨j5,hx,by rw[Ec];trivial⟩,fun _=>trivial⟩
  ·rw[aj h,akI]
   constructor
   ·rintro ⟨x,hx,hw⟩
    exact ⟨x,(lr.1 (rT.1 hx)).1,hw⟩
   ·rintro ⟨x,hx,hw⟩
    refine ⟨x,rT.2 (lr.2 ⟨hx,?_⟩),hw⟩
    rw[dC]
    intro h1
    rw[pe h1] at hw
    exact hw
 ·rw[AQ,Ee,←R4]
  by_cases h:(cr 5 ks).any (fun k=>decide (k.op=1))=true
  ·rw[ai h,pe rfl]
   obtain ⟨x,hx,hu⟩:=iB.1 h
   rw[akF (dH.2 ⟨x,hx,pe (fk hu)⟩)]
  ·rw[aj h,Z8,R5]
 ·funext w
  refine propext ?_
  rw[J4,Ke,←akH]
  by_cases h:(cr 6 ks).any (fun k=>decide (k.op=1))=true
  ·rw[ai h,pe rfl]
   obtain ⟨x,hx,hu⟩:=iB.1 h
   refine ⟨False.elim,fun gj=> ?_⟩
   have:=gj x hx
   rw[pe (fk hu)] at this
   exact this
  ·rw[aj h,akJ]
   constructor
   ·intro gj x hx
    by_cases hu:univ x=true
    ·rw[RN (D2 hk 6 x hx) hu,Ec];trivial
    ·exact gj x (rT.2 (lr.2 ⟨hx,by simp[hu]⟩))
   ·intro gj x hx
    exact gj x (lr.1 (rT.1 hx)).1
 ·obtain ⟨k,rfl⟩: ∃k,ks=[k]:=vO.1 (by omega)
  have hg:=hk k (by simp)
  rw[J5,AZ]
  by_cases h:k.op=1∨k.op=2
  ·rw[ai h,tC rfl]
   refine (akL fun w hw=> ?_).symm
   rcases h with h|h
   ·rw[pe h] at hw;exact hw.elim
   ·rw[tC h] at hw;exact hw
  ·rw[aj h]
   by_cases h7:k.op=7∨univ k=true
   ·rw[ai h7]
    rcases h7 with h7|h7
    ·have uZ:=hg.shape
     rw[h7] at uZ
     have hl:k.kids.length=1:=by
      rcases ld uZ with h|⟨_,h|h|h|h|h|h|h⟩<;>omega
     obtain ⟨z,hz⟩:=vO.1 hl
     have:=congrArg Ex.aP (xx h7)
     rw[this,hz,AZ,akK]
    ·rw[RN hg h7,Ec]
     funext w
     exact propext ⟨fun _=> .one trivial,fun _=>trivial⟩
   ·rw[aj h7,AZ]
 ·obtain ⟨k,rfl⟩: ∃k,ks=[k]:=vO.1 (by omega)
  have hg:=hk k (by simp)
  rw[J6,R3]
  by_cases h:k.op=8
  ·rw[ai h]
   have uZ:=hg.shape
   rw[h] at uZ
   have hl:k.kids.length=1:=by
    rcases ld uZ with h|⟨_,h|h|h|h|h|h|h⟩<;>omega
   obtain ⟨z,hz⟩:=vO.1 hl
   have:=congrArg Ex.aP (xx h)
   rw[this,hz,R3]
   funext w
   exact propext ⟨fun h1 h2=>h2 h1,fun h1=>uf.1 h1⟩
  ·rw[aj h,R3]
theorem akN {o l:Int} {A B:List Ex} (h:A.map Ex.aP=B.map Ex.aP):(Ex.node o l A).aP=(Ex.node o l B).aP:=by rw[lf,lf,h]
theorem akO: ∀e:Ex,e.wf n=true→(dZ e).aP=e.aP:=ind fun o l ks ih hw=>by
 obtain ⟨h1,h2⟩:=mI hw
 rw[D4,akM (n:=n) (fun k hk=>by
  obtain ⟨x,hx,rfl⟩:=dH.1 hk
  exact RP x (h2 x hx)) (by rw[bc];exact h1)]
 refine akN ?_
 rw[List.map_map]
 exact nK fun k hk=>ih k hk (h2 k hk)
end
theorem akP {A B:Lg}:L2 A B []↔A []∧B []:=by
 constructor
 ·rintro ⟨u,v,h,ha,hb⟩
  have h:=h.symm
  rw[List.append_eq_nil_iff] at h
  obtain ⟨rfl,rfl⟩:=h
  exact ⟨ha,hb⟩
 ·rintro ⟨ha,hb⟩;exact ⟨[],[],rfl,ha,hb⟩
theorem Z9: ∀(Ls:List Lg) (A:Lg),Ls.foldl L2 A []↔A []∧∀L∈Ls,L []
 | [],A=>by simp
 | L::Ls,A=>by rw[List.foldl_cons,Z9 Ls,akP];simp[and_assoc]
theorem aaa: ∀e:Ex,e.wf 6=true→(e.dK=true↔e.aP []):=ind fun o l ks ih tc=>by
 obtain ⟨hs,R6⟩:=mI tc
 have hk: ∀k∈ks,(k.dK=true↔k.aP []):=fun k hk=>ih k hk (R6 k hk)
 rw[lf]
 unfold im at hs
 simp only[dK]
 have akQ:rQ ks=true↔∃L∈ks.map aP,L []:=by
  rw[JX,iB]
  constructor
  ·rintro ⟨k,h1,h2⟩;exact ⟨_,List.mem_map_of_mem h1,(hk k h1).1 h2⟩
  ·rintro ⟨L,h1,h2⟩
   obtain ⟨k,h3,rfl⟩:=dH.1 h1
   exact ⟨k,h3,(hk k h3).2 h2⟩
 have gj:rR ks=true↔∀L∈ks.map aP,L []:=by
  rw[JY,l7,←Bool.not_eq_true,iB]
  constructor
  ·intro h L hL
   obtain ⟨k,h3,rfl⟩:=dH.1 hL
   refine (hk k h3).1 ?_
   cases hc:k.dK
   ·exact absurd ⟨k,h3,by simp[hc]⟩ h
   ·rfl
  ·rintro h ⟨k,h1,h2⟩
   have:=(hk k h1).2 (h _ (List.mem_map_of_mem h1))
   rw[this] at h2;cases h2
 by_cases h3:o=3
 ·subst h3;simp[dL]
 rw[aj h3] at hs
 simp only[aT] at hs
 obtain ⟨_,hs⟩:=hs
 by_cases h1:o=1
 ·subst h1;simp[dL]
 by_cases h2:o=2
 ·subst h2;simp[dL]
 rw[aD] at hs
 by_cases rU:o=7∨o=8
 ·rw[ai rU] at hs
  have hs:=fk hs
  obtain ⟨k,rfl⟩: ∃k,ks=[k]:=by
   match ks,hs with
   | [k],_=>exact ⟨k,rfl⟩
   | [],h=>simp at h
   | _::_::_,h=>simp at h;omega
  rcases rU with rfl|rfl
  ·have:dE (qj ([k].map aP)) []:= .nil
   simp only[dL,cL]
   simpa using this
  ·have:=hk k (by simp)
   simp only[dL,qj,rQ,dw,kP,Bool.or_false]
   simp[←this]
 ·rw[aj rU] at hs
  obtain ⟨h4,h6,hn⟩:=fk hs
  have R7:o=4∨o=5∨o=6:=by omega
  rcases R7 with rfl|rfl|rfl
  ·simp only[dL];simpa using akQ
  ·have:va (ks.map aP) []↔∀L∈ks.map aP,L []:=by
    match ks with
    | []=>simp[va]
    | k::ks=>simp only[dw,va];rw[Z9];simp
   simp only[dL];simpa[this] using gj
  ·simp only[dL];simpa using gj
theorem aab {K:List Ex} (h: ∀k∈K,Gn k):(cw 5 0 K).aP=fA (K.map Ex.aP):=by
 rw[join_eq h,Z8,←ZK (n:=6) fun k hk=>(h k hk).1,R5,R4]
def NB (e:Ex):Prop:=lT e=false
theorem vb {o l:Int} {ks:List Ex}:NB (.node o l ks)↔o≠6∧o≠8∧∀k∈ks,NB k:=by
 unfold NB
 rw[lT,D9]
 simp only[GQ,y6,List.any_eq_false,Bool.not_eq_true]
 constructor
 ·rintro ⟨⟨a,b⟩,c⟩;exact ⟨a,b,c⟩
 ·rintro ⟨a,b,c⟩;exact ⟨⟨a,b⟩,c⟩
theorem akR {e:Ex} (h:NB e): ∀k∈e.kids,NB k:=by
 obtain ⟨o,l,ks⟩:=e
 exact (vb.1 h).2.2
theorem akS {e:Ex} (h:NB e):univ e=false:=by
 obtain ⟨o,l,ks⟩:=e
 unfold univ
 exact eB fun g=>(vb.1 h).2.1 g.1
theorem aac:NB dJ:=by unfold NB dJ;simp[lT,u9]
theorem R8:NB eP:=by unfold NB eP;simp[lT,u9]
theorem R9 {o:Int} {K:List Ex} (h: ∀k∈K,NB k): ∀k∈cr o K,NB k:=fun x hx=>by
 obtain ⟨k,hk,⟨_,h2⟩|⟨_,rfl⟩⟩:=kF.1 hx
 ·exact akR (h k hk) x h2
 ·exact h _ hk
theorem aad {o:Int} {R:List Ex} {z:Ex} (ho:o≠6∧o≠8) (h: ∀k∈R,NB k) (hz:NB z):NB (eO o R z):=by
 match R with
 | []=>exact hz
 | [k]=>exact h k (by simp)
 | k::k2::R=>exact vb.2 ⟨ho.1,ho.2,h⟩
theorem Sa {o l:Int} {K:List Ex} (ho:o≠6∧o≠8) (h: ∀k∈K,NB k) (h7:o=7→∃k,K=[k]):NB (cw o l K):=by
 unfold cw
 rw[aj ho.2]
 split
 ·rename_i h1
  obtain ⟨k,rfl⟩:=h7 h1
  simp only[GP]
  split
  ·exact R8
  ·split
   ·exact h k (by simp)
   ·exact vb.2 ⟨ho.1,ho.2,h⟩
 split
 ·simp only
  split
  ·exact aac
  ·exact aad (by omega) (fun k hk=>R9 h k (lr.1 hk).1) R8
 split
 ·simp only
  rw[AR fun k hk=>akS (R9 h k hk)]
  exact aad (by omega) (fun k hk=>R9 h k (lr.1 (rT.1 hk)).1) aac
 rw[aj ho.1]
 exact vb.2 ⟨ho.1,ho.2,h⟩
theorem akT: ∀e:Ex,e.wf 6=true→NB e→NB (dZ e):=ind fun o l ks ih hw hb=>by
 obtain ⟨h1,h2⟩:=mI hw
 obtain ⟨b1,b2,b3⟩:=vb.1 hb
 rw[D4]
 refine Sa ⟨b1,b2⟩ (fun k hk=> ?_) fun h7=> ?_
 ·obtain ⟨x,hx,rfl⟩:=dH.1 hk
  exact ih x hx (h2 x hx) (b3 x hx)
 ·obtain ⟨k,rfl⟩: ∃k,ks=[k]:=vO.1 (by rcases ld h1 with h|⟨_,h⟩<;>omega)
  exact ⟨dZ k,rfl⟩
theorem aae {b:UInt8} {w:List UInt8}: ∀{ks:List Ex},(∀k∈ks,Gn k)→(∀k∈ks,∀w,(∃x∈pX ((b.toNat:Int)-97) k,x.aP w)↔k.aP (b::w))→((∃x∈gS ((b.toNat:Int)-97) ks,x.aP w)↔fA (ks.map Ex.aP) (b::w))
 | [],_,_=>by simp[gS,fA]
 | k::ks,hg,ih=>by
  have akU:=aae (b:=b) (w:=w) (ks:=ks) (fun x hx=>hg x (by simp[hx])) fun x hx=>ih x (by simp[hx])
  have hn:=aaa k (hg k (by simp)).1.2
  have hb:=ih k (by simp)
  have nz:=tA (c:=(b.toNat:Int)-97) k (hg k (by simp))
  have hl:(∃p∈pX ((b.toNat:Int)-97) k,(cw 5 0 (p::ks)).aP w)↔∃u v,w=u++v∧k.aP (b::u)∧fA (ks.map Ex.aP) v:=by
   have hj: ∀p∈pX ((b.toNat:Int)-97) k,((cw 5 0 (p::ks)).aP w↔∃u v,w=u++v∧p.aP u∧fA (ks.map Ex.aP) v):=fun p hp=>by
    rw[aab fun z hz=>by
     rcases cE.1 hz with rfl|hz
     ·exact nz _ hp
     ·exact hg z (by simp[hz])]
    rfl
   constructor
   ·rintro ⟨p,hp,h⟩
    obtain ⟨u,v,rfl,h1,h2⟩:=(hj p hp).1 h
    exact ⟨u,v,rfl,(hb u).1 ⟨p,hp,h1⟩,h2⟩
   ·rintro ⟨u,v,rfl,h1,h2⟩
    obtain ⟨p,hp,h3⟩:=(hb u).2 h1
    exact ⟨p,hp,(hj p hp).2 ⟨u,v,rfl,h3,h2⟩⟩
  have hr:fA ((k::ks).map Ex.aP) (b::w)↔(∃u v,w=u++v∧k.aP (b::u)∧fA (ks.map Ex.aP) v)∨(k.aP []∧fA (ks.map Ex.aP) (b::w)):=by
   constructor
   ·rintro ⟨u,v,h,h1,h2⟩
    cases u with
    | nil=>
     have e:b::w=v:=h
     rw[←e] at h2
     exact .inr ⟨h1,h2⟩
    | cons c u=>
     obtain ⟨rfl,rfl⟩:=qD (show b::w=c::(u++v) from h)
     exact .inl ⟨u,v,rfl,h1,h2⟩
   ·rintro (⟨u,v,rfl,h1,h2⟩|⟨h1,h2⟩)
    ·exact ⟨b::u,v,rfl,h1,h2⟩
    ·exact ⟨[],b::w,rfl,h1,h2⟩
  rw[hr,←akU,←hn,←hl]
  constructor
  ·rintro ⟨x,hx,h⟩
   rcases pc.1 hx with ⟨p,hp,rfl⟩|⟨h1,h2⟩
   ·exact .inl ⟨p,hp,h⟩
   ·exact .inr ⟨h1,x,h2,h⟩
  ·rintro (⟨p,hp,h⟩|⟨h1,x,h2,h⟩)
   ·exact ⟨_,pc.2 (.inl ⟨p,hp,rfl⟩),h⟩
   ·exact ⟨x,pc.2 (.inr ⟨h1,h2⟩),h⟩
theorem akV {b:UInt8}: ∀e:Ex,Gn e→NB e→∀w,(∃x∈pX ((b.toNat:Int)-97) e,x.aP w)↔e.aP (b::w):=ind fun o l ks ih hg hb w=>by
 obtain ⟨h1,h2⟩:=mI hg.1.2
 obtain ⟨b1,b2,b3⟩:=vb.1 hb
 have hk:(o=5∨o=4∨o=7)→∀k∈ks,∀w,(∃x∈pX ((b.toNat:Int)-97) k,x.aP w)↔k.aP (b::w):=fun ho k hk=>ih k hk (xu hg ho k hk) (b3 k hk)
 have fV:(o=5∨o=4∨o=7)→∀k∈ks,Gn k:=fun ho=>xu hg ho
 rw[mL]
 rcases ld h1 with ⟨rfl,h⟩|⟨rfl,⟨rfl,h⟩|⟨rfl,h⟩|⟨rfl,h⟩|⟨rfl,h⟩|⟨rfl,h⟩|⟨rfl,h⟩|⟨rfl,h⟩⟩
 ·rw[ai rfl,lf]
  have Iv:dL 3 l (ks.map aP) (b::w)↔w=[]∧(b.toNat:Int)-97=l:=by
   simp only[dL]
   simp only[show¬((3:Int)=2) by omega,ga,cL]
   constructor
   ·rintro ⟨c,h,h3⟩
    obtain ⟨rfl,rfl⟩:=qD h
    exact ⟨rfl,h3⟩
   ·rintro ⟨rfl,h⟩;exact ⟨b,rfl,h⟩
  rw[Iv]
  by_cases hl:l=(b.toNat:Int)-97
  ·rw[ai hl]
   constructor
   ·rintro ⟨x,hx,h3⟩
    rw[df.1 hx,tC rfl] at h3
    exact ⟨h3,hl.symm⟩
   ·rintro ⟨h3,_⟩
    exact ⟨eP,by simp,by rw[tC rfl];exact h3⟩
  ·rw[aj hl]
   exact ⟨fun ⟨x,hx,_⟩=>by simp at hx,fun h=>absurd h.2.symm hl⟩
 ·rw[aD,aD,aD,aD,pe (e:= .node 1 0 ks) rfl]
  simp
 ·rw[aD,aD,aD,aD,tC (e:= .node 2 0 ks) rfl]
  simp
 ·rw[aD,ai rfl,AY]
  constructor
  ·rintro ⟨x,hx,hl⟩
   obtain ⟨k,kA,h3⟩:=D5.1 hx
   exact ⟨k,kA,(hk (by omega) k kA w).1 ⟨x,h3,hl⟩⟩
  ·rintro ⟨k,kA,hl⟩
   obtain ⟨x,h3,h4⟩:=(hk (by omega) k kA w).2 hl
   exact ⟨x,D5.2 ⟨k,kA,h3⟩,h4⟩
 ·rw[aD,aD,aD,ai rfl,Ee]
  exact aae (fV (by omega)) (hk (by omega))
 ·exact absurd rfl b1
 ·obtain ⟨k,rfl⟩:=vO.1 (show ks.length=1 by omega)
  rw[aD,aD,ai rfl,AZ]
  have nz:=tA (c:=(b.toNat:Int)-97) k (fV (by omega) k (by simp))
  have hj: ∀p∈pX ((b.toNat:Int)-97) k,((cw 5 0 [p,.node 7 0 [k]]).aP w↔∃u v,w=u++v∧p.aP u∧dE k.aP v):=fun p hp=>by
   rw[aab fun z hz=>by
    rcases cE.1 hz with rfl|hz
    ·exact nz _ hp
    ·rw[df.1 hz];exact hg]
   show L2 p.aP (L2 (Ex.node 7 0 [k]).aP fun w=>w=[]) w↔_
   rw[Eb,AZ]
   rfl
  have hpH:qi ((b.toNat:Int)-97) [k]=pX ((b.toNat:Int)-97) k:=by rw[qi]
  rw[hpH]
  constructor
  ·rintro ⟨x,hx,h3⟩
   obtain ⟨p,hp,rfl⟩:=dH.1 hx
   obtain ⟨u,v,rfl,h4,h5⟩:=(hj p hp).1 h3
   exact .cons ((hk (by omega) k (by simp) u).1 ⟨p,hp,h4⟩) h5
  ·intro hs
   rcases hs.first with h|⟨u,v,hu,h,h3,h4⟩
   ·cases h
   ·cases u with
    | nil=>exact absurd rfl hu
    | cons c u=>
     obtain ⟨rfl,rfl⟩:=qD (show b::w=c::(u++v) from h)
     obtain ⟨p,hp,h5⟩:=(hk (by omega) k (by simp) u).2 h3
     exact ⟨_,dH.2 ⟨p,hp,rfl⟩,(hj p hp).2 ⟨u,v,rfl,h5,h4⟩⟩
 ·exact absurd rfl b2
end Go.AM
set_option maxRecDepth 100000
namespace Go.AM
open Go.Proofs
noncomputable def Sb (C:ae) (ak ay:Int) (ah:LV):Option LV:=
 some [.bool ((ak:Int)==1)]
theorem aaf {ak ay:Int} {ah:LV} {r:Option LV} (h:Sb CC ak ay ah=r):CC nw [V.int .i64 ak,V.int .i64 ay,.list ag ah]=r:=aV (L:=aW) ar h
noncomputable def aag (C:ae) (ak ay:Int) (ah:LV):Option LV:=
 some [.bool ((ak:Int)==2)]
theorem akW {ak ay:Int} {ah:LV} {r:Option LV} (h:aag CC ak ay ah=r):CC qc [V.int .i64 ak,V.int .i64 ay,.list ag ah]=r:=aV (L:=aW) ar h
noncomputable def Sd (C:ae) (ak ay:Int) (ah:LV):Option LV:=
 bif (ak:Int)==8 then
  bif ((ah.length:Int):Int)==1 then
  (ah[0]?).bind fun x1=>
  (C nw [V.int .i64 ((x1.cell 0).toInt),V.int .i64 ((x1.cell 1).toInt),.list ag ((x1.cell 2).toList)]).bind fun r2=>
  some [.bool ((V.nth r2 0).toBool)]
  else
  some [.bool false]
 else
  some [.bool false]
theorem aah {ak ay:Int} {ah:LV} {r:Option LV} (h:Sd CC ak ay ah=r):CC mA [V.int .i64 ak,V.int .i64 ay,.list ag ah]=r:=aV (L:=aW) ar h
noncomputable def A0 (C:ae) (s:LV) (t7 t8:Int) {β:Type} (kn:Int→Option β) (kr:((Int) ⊕ (Int × Bool))→Option β):Option β:=
 bif decide ((t8:Int)<t7) then
  (idx s t8).bind fun x1=>
  (C nw [V.int .i64 ((x1.cell 0).toInt),V.int .i64 ((x1.cell 1).toInt),.list ag ((x1.cell 2).toList)]).bind fun r2=>
  bif (V.nth r2 0).toBool then
  kr (.inl t8)
  else
  kn (IntKind.wrap .i64 (t8+1))
 else
  kr (.inr (t8,decide ((t8:Int)<t7)))
noncomputable def xy (C:ae) (s:LV) (t7:Int):=fun t8=>A0 C s t7 t8 (fun y=>some (Sum.inl y)) (fun r=>some (Sum.inr r))
noncomputable def akX (C:ae):bI:=bu 33 QY [false,false,true] [[0],[1,2,0,0]] (@A0 C) aW
theorem akY (C:ae):ba C (akX C) 188 (Lp [1,0,1,0,0] 188):=bt QY [false,false,true] [[0],[1,2,0,0]] (@A0 C) (aK ar)
noncomputable def Se (C:ae) (s:LV):Option LV:=
 (Loop (xy C s (s.length:Int)) 0).bind (cf (fun (fy:Int)=>
  some [V.int .i64 fy]) (un fun (jy:Int) (gB:Bool)=>
  some [V.int .i64 (-1)]))
theorem aai {s:LV} {r:Option LV} (h:Se CC s=r):CC DK [.list ag s]=r:=aV (aZ (akY CC) ar) h
noncomputable def aaj (C:ae) (s:LV):Option LV:=
 (C DK [.list ag s]).bind fun r1=>
 some [.bool (decide ((((V.nth r1 0).toInt):Int)≥0))]
theorem akZ {s:LV} {r:Option LV} (h:aaj CC s=r):CC DJ [.list ag s]=r:=aV (L:=aW) ar h
noncomputable def A1 (C:ae) (i j:Int) (ss:LV) {β:Type} (kn:(Int × Int × LV)→Option β) (kr:(Int × Int × Bool × LV)→Option β):Option β:=
 bif decide ((j:Int)<(ss.length:Int)) then
  aA ss j fun x2=>
  (C nw [V.int .i64 ((x2.cell 0).toInt),V.int .i64 ((x2.cell 1).toInt),.list ag ((x2.cell 2).toList)]).bind fun r3=>
  bif !((V.nth r3 0).toBool) then
  aA ss i fun x4=>
  kn (IntKind.wrap .i64 (i+1),IntKind.wrap .i64 (j+1),bn ss i (.agg [V.int .i64 ((x2.cell 0).toInt),V.int .i64 ((x2.cell 1).toInt),.list ag ((x2.cell 2).toList)]))
  else
  kn (i,IntKind.wrap .i64 (j+1),ss)
 else
  kr (i,j,decide ((j:Int)<(ss.length:Int)),ss)
noncomputable def xz (C:ae):=un fun i=>un fun j ss=>A1 C i j ss (fun y=>some (Sum.inl y)) (fun r=>some (Sum.inr r))
noncomputable def ak0 (C:ae):bI:=bu 81 Q3 [true,true,true] [[0,0,0,0]] (@A1 C) aW
theorem ak1 (C:ae):ba C (ak0 C) 196 (Lp [1,1,1,0,1,0,0] 196):=bt Q3 [true,true,true] [[0,0,0,0]] (@A1 C) (aK ar)
noncomputable def Sf (C:ae) (ss:LV):Option LV:=
 (C DK [.list ag ss]).bind fun r1=>
 bif (((V.nth r1 0).toInt):Int)==(-1) then
  some [V.bool true,.list ag ss]
 else
  (Loop (xz C) ((V.nth r1 0).toInt,IntKind.wrap .i64 (((V.nth r1 0).toInt)+1),ss)).bind (un fun (cD:Int)=>un fun (Kf:Int)=>un fun (rN:Bool) (dQ:LV)=>
   bif (decide (0≤cD))&&(decide (cD≤(dQ.length:Int))) then
   bif (decide (0≤cD))&&(decide (cD≤((dQ.take ((cD:Int).toNat)++(List.replicate (dQ.length-((cD:Int).toNat)) (V.agg [V.int .i64 0,V.int .i64 0,.list ag ([]:LV)])++dQ.drop (((cD:Int).toNat)+(dQ.length-((cD:Int).toNat))))).length:Int))) then
    some [V.bool false,.list ag ((dQ.take ((cD:Int).toNat)++(List.replicate (dQ.length-((cD:Int).toNat)) (V.agg [V.int .i64 0,V.int .i64 0,.list ag ([]:LV)])++dQ.drop (((cD:Int).toNat)+(dQ.length-((cD:Int).toNat))))).take ((cD:Int).toNat))]
   else none
   else none)
theorem aak {ss:LV} {r:Option LV} (h:Sf CC ss=r):CC Jm [.list ag ss]=r:=aV (aZ (ak1 CC) ar) h
noncomputable def A3 (C:ae) (s:LV) (t7 t8:Int) {β:Type} (kn:Int→Option β) (kr:((Int) ⊕ (Int × Bool))→Option β):Option β:=
 bif decide ((t8:Int)<t7) then
  (idx s t8).bind fun x1=>
  (C qc [V.int .i64 ((x1.cell 0).toInt),V.int .i64 ((x1.cell 1).toInt),.list ag ((x1.cell 2).toList)]).bind fun r2=>
  bif (V.nth r2 0).toBool then
  kr (.inl t8)
  else
  kn (IntKind.wrap .i64 (t8+1))
 else
  kr (.inr (t8,decide ((t8:Int)<t7)))
noncomputable def xA (C:ae) (s:LV) (t7:Int):=fun t8=>A3 C s t7 t8 (fun y=>some (Sum.inl y)) (fun r=>some (Sum.inr r))
noncomputable def ak2 (C:ae):bI:=bu 33 Q2 [false,false,true] [[0],[1,2,0,0]] (@A3 C) aW
theorem ak3 (C:ae):ba C (ak2 C) 195 (Lp [1,0,1,0,0] 195):=bt Q2 [false,false,true] [[0],[1,2,0,0]] (@A3 C) (aK ar)
noncomputable def Sg (C:ae) (s:LV):Option LV:=
 (Loop (xA C s (s.length:Int)) 0).bind (cf (fun (fy:Int)=>
  some [V.int .i64 fy]) (un fun (jy:Int) (gB:Bool)=>
  some [V.int .i64 (-1)]))
theorem aal {s:LV} {r:Option LV} (h:Sg CC s=r):CC Jl [.list ag s]=r:=aV (aZ (ak3 CC) ar) h
noncomputable def A4 (C:ae) (i j:Int) (ss:LV) {β:Type} (kn:(Int × Int × LV)→Option β) (kr:(Int × Int × Bool × LV)→Option β):Option β:=
 bif decide ((j:Int)<(ss.length:Int)) then
  aA ss j fun x2=>
  (C qc [V.int .i64 ((x2.cell 0).toInt),V.int .i64 ((x2.cell 1).toInt),.list ag ((x2.cell 2).toList)]).bind fun r3=>
  bif !((V.nth r3 0).toBool) then
  aA ss i fun x4=>
  kn (IntKind.wrap .i64 (i+1),IntKind.wrap .i64 (j+1),bn ss i (.agg [V.int .i64 ((x2.cell 0).toInt),V.int .i64 ((x2.cell 1).toInt),.list ag ((x2.cell 2).toList)]))
  else
  kn (i,IntKind.wrap .i64 (j+1),ss)
 else
  kr (i,j,decide ((j:Int)<(ss.length:Int)),ss)
noncomputable def xB (C:ae):=un fun i=>un fun j ss=>A4 C i j ss (fun y=>some (Sum.inl y)) (fun r=>some (Sum.inr r))
noncomputable def ak4 (C:ae):bI:=bu 81 Q1 [true,true,true] [[0,0,0,0]] (@A4 C) aW
theorem ak5 (C:ae):ba C (ak4 C) 194 (Lp [1,1,1,0,1,0,0] 194):=bt Q1 [true,true,true] [[0,0,0,0]] (@A4 C) (aK ar)
noncomputable def Sh (C:ae) (ss:LV):Option LV:=
 (C Jl [.list ag ss]).bind fun r1=>
 bif (((V.nth r1 0).toInt):Int)==(-1) then
  some [V.bool true,.list ag ss]
 else
  (Loop (xB C) ((V.nth r1 0).toInt,IntKind.wrap .i64 (((V.nth r1 0).toInt)+1),ss)).bind (un fun (cD:Int)=>un fun (Kf:Int)=>un fun (rN:Bool) (dQ:LV)=>
   bif (decide (0≤cD))&&(decide (cD≤(dQ.length:Int))) then
   bif (decide (0≤cD))&&(decide (cD≤((dQ.take ((cD:Int).toNat)++(List.replicate (dQ.length-((cD:Int).toNat)) (V.agg [V.int .i64 0,V.int .i64 0,.list ag ([]:LV)])++dQ.drop (((cD:Int).toNat)+(dQ.length-((cD:Int).toNat))))).length:Int))) then
    some [V.bool false,.list ag ((dQ.take ((cD:Int).toNat)++(List.replicate (dQ.length-((cD:Int).toNat)) (V.agg [V.int .i64 0,V.int .i64 0,.list ag ([]:LV)])++dQ.drop (((cD:Int).toNat)+(dQ.length-((cD:Int).toNat))))).take ((cD:Int).toNat))]
   else none
   else none)
theorem aam {ss:LV} {r:Option LV} (h:Sh CC ss=r):CC Jk [.list ag ss]=r:=aV (aZ (ak5 CC) ar) h
noncomputable def A5 (C:ae) (s:LV) (t7 t8:Int) {β:Type} (kn:Int→Option β) (kr:((Int) ⊕ (Int × Bool))→Option β):Option β:=
 bif decide ((t8:Int)<t7) then
  (idx s t8).bind fun x1=>
  (C mA [V.int .i64 ((x1.cell 0).toInt),V.int .i64 ((x1.cell 1).toInt),.list ag ((x1.cell 2).toList)]).bind fun r2=>
  bif (V.nth r2 0).toBool then
  kr (.inl t8)
  else
  kn (IntKind.wrap .i64 (t8+1))
 else
  kr (.inr (t8,decide ((t8:Int)<t7)))
noncomputable def xC (C:ae) (s:LV) (t7:Int):=fun t8=>A5 C s t7 t8 (fun y=>some (Sum.inl y)) (fun r=>some (Sum.inr r))
noncomputable def ak6 (C:ae):bI:=bu 33 QZ [false,false,true] [[0],[1,2,0,0]] (@A5 C) aW
theorem ak7 (C:ae):ba C (ak6 C) 190 (Lp [1,0,1,0,0] 190):=bt QZ [false,false,true] [[0],[1,2,0,0]] (@A5 C) (aK ar)
noncomputable def Si (C:ae) (s:LV):Option LV:=
 (Loop (xC C s (s.length:Int)) 0).bind (cf (fun (fy:Int)=>
  some [V.int .i64 fy]) (un fun (jy:Int) (gB:Bool)=>
  some [V.int .i64 (-1)]))
theorem aan {s:LV} {r:Option LV} (h:Si CC s=r):CC DL [.list ag s]=r:=aV (aZ (ak7 CC) ar) h
noncomputable def aao (C:ae) (s:LV):Option LV:=
 (C DL [.list ag s]).bind fun r1=>
 some [.bool (decide ((((V.nth r1 0).toInt):Int)≥0))]
theorem ak8 {s:LV} {r:Option LV} (h:aao CC s=r):CC OP [.list ag s]=r:=aV (L:=aW) ar h
noncomputable def A6 (C:ae) (i j:Int) (ss:LV) {β:Type} (kn:(Int × Int × LV)→Option β) (kr:(Int × Int × Bool × LV)→Option β):Option β:=
 bif decide ((j:Int)<(ss.length:Int)) then
  aA ss j fun x2=>
  (C mA [V.int .i64 ((x2.cell 0).toInt),V.int .i64 ((x2.cell 1).toInt),.list ag ((x2.cell 2).toList)]).bind fun r3=>
  bif !((V.nth r3 0).toBool) then
  aA ss i fun x4=>
  kn (IntKind.wrap .i64 (i+1),IntKind.wrap .i64 (j+1),bn ss i (.agg [V.int .i64 ((x2.cell 0).toInt),V.int .i64 ((x2.cell 1).toInt),.list ag ((x2.cell 2).toList)]))
  else
  kn (i,IntKind.wrap .i64 (j+1),ss)
 else
  kr (i,j,decide ((j:Int)<(ss.length:Int)),ss)
noncomputable def xD (C:ae):=un fun i=>un fun j ss=>A6 C i j ss (fun y=>some (Sum.inl y)) (fun r=>some (Sum.inr r))
noncomputable def ak9 (C:ae):bI:=bu 81 PF [true,true,true] [[0,0,0,0]] (@A6 C) aW
theorem ala (C:ae):ba C (ak9 C) 62 (Lp [1,1,1,0,1,0,0] 62):=bt PF [true,true,true] [[0,0,0,0]] (@A6 C) (aK ar)
noncomputable def Sj (C:ae) (ss:LV):Option LV:=
 (C DL [.list ag ss]).bind fun r1=>
 bif (((V.nth r1 0).toInt):Int)==(-1) then
  some [V.bool true,.list ag ss]
 else
  (Loop (xD C) ((V.nth r1 0).toInt,IntKind.wrap .i64 (((V.nth r1 0).toInt)+1),ss)).bind (un fun (cD:Int)=>un fun (Kf:Int)=>un fun (rN:Bool) (dQ:LV)=>
   bif (decide (0≤cD))&&(decide (cD≤(dQ.length:Int))) then
   bif (decide (0≤cD))&&(decide (cD≤((dQ.take ((cD:Int).toNat)++(List.replicate (dQ.length-((cD:Int).toNat)) (V.agg [V.int .i64 0,V.int .i64 0,.list ag ([]:LV)])++dQ.drop (((cD:Int).toNat)+(dQ.length-((cD:Int).toNat))))).length:Int))) then
    some [V.bool false,.list ag ((dQ.take ((cD:Int).toNat)++(List.replicate (dQ.length-((cD:Int).toNat)) (V.agg [V.int .i64 0,V.int .i64 0,.list ag ([]:LV)])++dQ.drop (((cD:Int).toNat)+(dQ.length-((cD:Int).toNat))))).take ((cD:Int).toNat))]
   else none
   else none)
theorem aap {ss:LV} {r:Option LV} (h:Sj CC ss=r):CC xc [.list ag ss]=r:=aV (aZ (ala CC) ar) h
end Go.AM
set_option maxRecDepth 100000
namespace Go.AM
open Go.Proofs Ex
def cW (k:Ex):Bool:=decide (k.op=1)
def iv (k:Ex):Bool:=decide (k.op=2)
theorem Ef (k:Ex):CC nw (cJ k [])=some [.bool (cW k)]:=by
 refine aaf ?_
 unfold Sb cW
 rw[xq]
theorem Kg (k:Ex):CC qc (cJ k [])=some [.bool (iv k)]:=by
 refine akW ?_
 unfold aag iv
 rw[xq]
theorem Eg (k:Ex):CC mA (cJ k [])=some [.bool (univ k)]:=by
 obtain ⟨o,l,ks⟩:=k
 refine aah ?_
 unfold Sd univ
 simp only[Ex.op,Ex.kids,dv,bc]
 by_cases h1:o=8
 ·rw[ai h1]
  match ks with
  | []=>simp
  | [k]=>
   rw[ai (by simp)]
   simp only[dw,kP,List.getElem?_cons_zero,Option.bind_some,bW,bX,bY]
   refine (congrArg (fun o=>Option.bind o _) (Ef k)).trans ?_
   simp only[h1,cW]
   simp
   rfl
  | k::k2::ks=>
   rw[aj (by simp<;>omega)]
   simp
 ·rw[aj h1];simp[h1]
theorem iX {l:List Ex} {j:Nat} (h:j<l.length):l.take (j+1)=l.take j++[l.getD j aS]:=by
 rw[List.take_succ_eq_append_getElem h];simp[h]
theorem vc {l ss:List Ex} {j:Nat} (hl:ss.length=l.length) (h:ss.drop j=l.drop j) (hj:j<l.length):ss.getD j aS=l.getD j aS:=by
 have h1:=congrArg (fun x:List Ex=>x.getD 0 aS) h
 simpa[hj,hl] using h1
theorem jC {l:List Ex} {i:Nat} (h:i<l.length):(l.map enc)[i]? =some (l.getD i aS).enc:=by simp[h]
theorem A7 (ss:List Ex) (m:Nat) (z:V) (hm:m≤ss.length):((((ss.map enc).take m++(List.replicate ((ss.map enc).length-m) z++(ss.map enc).drop (m+((ss.map enc).length-m)))).take m)=(ss.take m).map enc):=by
 rw[List.take_append_of_le_length (by simp;omega),GR (by simp;omega),List.map_take]
theorem Sk {ks:List Ex} (hlen:ks.length≤1000000): ∀(aC pre:List Ex),ks=pre++aC→(∀k∈pre,cW k=false)→
  (ks.any cW=false∧∃t,Loop (xy CC (ks.map enc) ((ks.map enc).length:Int)) ((pre.length:Nat):Int)=some (.inr t))∨
  (∃i:Nat,i<ks.length∧cW (ks.getD i aS)=true∧(∀k∈ks.take i,cW k=false)∧Loop (xy CC (ks.map enc) ((ks.map enc).length:Int)) ((pre.length:Nat):Int)=some (.inl (i:Int))):=by
 intro aC
 induction aC with
 | nil=>
  intro pre bD hp
  rw[di] at bD
  subst bD
  refine .inl ⟨AR hp,⟨(((ks.length:Nat):Int),false),br ?_⟩⟩
  ·simp only[xy,A0,bc,au]
   rw[aD,eJ]
 | cons k aC ih=>
  intro pre bD hp
  have ct:pre.length<ks.length:=by rw[bD];simp
  have c8:idx (ks.map enc) (pre.length:Int)=some k.enc:=by rw[bD];exact il _ _ _
  cases hk:cW k with
  | true=>
   refine .inr ⟨pre.length,ct,by rw[bD];simpa using hk,by rw[bD];simpa using hp,br ?_⟩
   simp only[xy,A0,bc,au]
   rw[aF,c8]
   simp only[Option.bind_some,bW,bX,bY]
   refine (congrArg (fun o=>Option.bind o _) (Ef k)).trans ?_
   simp only[Option.bind_some,V.az,V.cm]
   rw[hk,cond_true]
  | false=>
   have bz:xy CC (ks.map enc) ((ks.map enc).length:Int) ((pre.length:Nat):Int)=some (.inl (((pre++[k]).length:Nat):Int)):=by
    simp only[xy,A0,bc,au]
    rw[aF,c8]
    simp only[Option.bind_some,bW,bX,bY]
    refine (congrArg (fun o=>Option.bind o _) (Ef k)).trans ?_
    simp only[Option.bind_some,V.az,V.cm]
    rw[hk,cond_false,bB]
    simp
   rw[bS bz]
   refine ih (pre++[k]) (by rw[bD];simp) fun x hx=> ?_
   rcases dp.1 hx with hx|hx
   ·exact hp x hx
   ·rw[df.1 hx];exact hk
theorem Kh {ks:List Ex} (hlen:ks.length≤1000000):
  (ks.any cW=false∧CC DK [.list ag (ks.map enc)]=some [.int .i64 (-1)])∨
  (∃i:Nat,i<ks.length∧cW (ks.getD i aS)=true∧(∀k∈ks.take i,cW k=false)∧CC DK [.list ag (ks.map enc)]=some [.int .i64 (i:Int)]):=by
 rcases Sk hlen ks [] rfl (by simp) with ⟨h1,t,h2⟩|⟨i,h1,h2,h3,h4⟩
 ·refine .inl ⟨h1,aai ?_⟩
  unfold Se
  refine (congrArg (fun o=>Option.bind o _) h2).trans ?_
  rfl
 ·refine .inr ⟨i,h1,h2,h3,aai ?_⟩
  unfold Se
  refine (congrArg (fun o=>Option.bind o _) h4).trans ?_
  rfl
theorem alb {ks:List Ex} (hlen:ks.length≤1000000):CC DJ [.list ag (ks.map enc)]=some [.bool (ks.any cW)]:=by
 refine akZ ?_
 unfold aaj
 rcases Kh hlen with ⟨h1,h2⟩|⟨i,h1,h2,h3,h4⟩
 ·refine (congrArg (fun o=>Option.bind o _) h2).trans ?_
  rw[h1];rfl
 ·refine (congrArg (fun o=>Option.bind o _) h4).trans ?_
  rw[iB.2 ⟨_,by rw[show ks.getD i aS=ks[i] by simp[h1]];exact jH h1,h2⟩]
  simp
theorem Sl {ks:List Ex} (hn:ks.length≤1000000): ∀(d j i:Nat) (ss:List Ex),j+d=ks.length→i≤j→ss.length=ks.length→ss.take i=(ks.take j).filter (fun k=> !(cW k))→ss.drop j=ks.drop j→
  ∃t dF,Loop (xz CC) ((i:Int),(j:Int),ss.map enc)=some (((ks.filter (fun k=> !(cW k))).length:Int),(ks.length:Int),t,List.map enc dF)∧dF.take (ks.filter (fun k=> !(cW k))).length=ks.filter (fun k=> !(cW k))∧dF.length=ks.length:=by
 intro d
 induction d with
 | zero=>
  intro j i ss hj hi hl ht hd
  obtain rfl:j=ks.length:=by omega
  rw[qC] at ht
  have fv:i=(ks.filter (fun k=> !(cW k))).length:=by rw[←ht,fb];omega
  refine ⟨false,ss,br ?_,by rw[←fv];exact ht,hl⟩
  simp only[xz,A1,un,bc,au]
  rw[aD,eJ,fv]
 | succ d ih=>
  intro j i ss hj hi hl ht hd
  have cy:j<ks.length:=by omega
  have hg:=vc hl hd cy
  have fK:ss.drop (j+1)=ks.drop (j+1):=by rw[←m7,←m7,hd]
  have hx:(ss.map enc)[j]? =some (ks.getD j aS).enc:=by rw[jC (by omega),hg]
  have t1:((j:Nat):Int)<(ss.length:Int):=by omega
  have t2:(0:Int)≤((j:Nat):Int):=by omega
  have t3:((i:Nat):Int)<(ss.length:Int):=by omega
  have t4:(0:Int)≤((i:Nat):Int):=by omega
  have c8: ∃y,(ss.map enc)[i]? =some y:=⟨_,jC (by omega)⟩
  obtain ⟨y,hy⟩:=c8
  cases hk:cW (ks.getD j aS) with
  | true=>
   have bz:xz CC ((i:Int),(j:Int),ss.map enc)=some (.inl ((i:Int),((j+1:Nat):Int),ss.map enc)):=by
    simp only[xz,A1,un,bc,au,bQ,t1,t2,cL,Int.toNat_natCast,hx,Option.bind_some,bW,bX,bY]
    refine (congrArg (fun o=>Option.bind o _) (Ef (ks.getD j aS))).trans ?_
    simp only[Option.bind_some,V.az,V.cm]
    rw[hk,pC,cond_false,bB]
    rfl
   rw[bS bz]
   refine ih (j+1) i ss (by omega) (by omega) hl ?_ fK
   rw[iX cy,mb,ht,ma,hk]
   simp
  | false=>
   have bz:xz CC ((i:Int),(j:Int),ss.map enc)=some (.inl (((i+1:Nat):Int),((j+1:Nat):Int),(ss.set i (ks.getD j aS)).map enc)):=by
    simp only[xz,A1,un,bc,au,bQ,t1,t2,t3,t4,cL,Int.toNat_natCast,hx,hy,Option.bind_some,bW,bX,bY]
    refine (congrArg (fun o=>Option.bind o _) (Ef (ks.getD j aS))).trans ?_
    simp only[Option.bind_some,V.az,V.cm]
    rw[hk,sj,cond_true,bB,bB,←ja,sn]
    rfl
   rw[bS bz]
   refine ih (j+1) (i+1) (ss.set i (ks.getD j aS)) (by omega) (by omega) (by simpa using hl) ?_ ?_
   ·rw[iX (by rw[nJ];omega),y7 (bC i),ht,iX cy,mb,ma,hk]
    simp[show i<ss.length by omega]
   ·rw[y8 (by omega),fK]
theorem Sm {ks:List Ex} (hn:ks.length≤1000000): ∃b,CC Jm [.list ag (ks.map enc)]=some [.bool b,.list ag ((ks.filter (fun k=> !(cW k))).map enc)]:=by
 rcases Kh hn with ⟨h1,h2⟩|⟨i,h1,h2,h3,h4⟩
 ·refine ⟨true,aak ?_⟩
  unfold Sf
  refine (congrArg (fun o=>Option.bind o _) h2).trans ?_
  rw[sk.2 fun k hk=>show (!(cW k))=true by rw[any_false (p:=cW) (by rw[h1];simp) k hk];rfl]
  rfl
 ·have hf:(ks.take (i+1)).filter (fun k=> !(cW k))=ks.take i:=by
   rw[iX h1,mb,ma,h2,sk.2 fun k hk=>show (!(cW k))=true by rw[h3 k hk];rfl]
   simp
  obtain ⟨t,dF,e1,e2,e3⟩:=Sl hn (ks.length-(i+1)) (i+1) i ks (by omega) (by omega) rfl hf.symm rfl
  refine ⟨false,aak ?_⟩
  unfold Sf
  refine (congrArg (fun o=>Option.bind o _) h4).trans ?_
  simp only[Option.bind_some,V.az,V.toInt_int,dv]
  rw[aD,bB]
  refine (congrArg (fun o=>Option.bind o _) e1).trans ?_
  have hm:(ks.filter (fun k=> !(cW k))).length≤dF.length:=by rw[e3];exact vN _ _
  have t1:((((ks.filter (fun k=> !(cW k))).length:Nat):Int)≤((dF.map enc).length:Int)):=by rw[bc];omega
  simp only[Option.bind_some,un,bQ,au,Int.toNat_natCast]
  rw[aF,ai t1,aF,ai (by simp only[cg,fb,pD,qE];omega),A7 _ _ _ hm,e2]
theorem alc {ks:List Ex} (hlen:ks.length≤1000000): ∀(aC pre:List Ex),ks=pre++aC→(∀k∈pre,iv k=false)→
  (ks.any iv=false∧∃t,Loop (xA CC (ks.map enc) ((ks.map enc).length:Int)) ((pre.length:Nat):Int)=some (.inr t))∨
  (∃i:Nat,i<ks.length∧iv (ks.getD i aS)=true∧(∀k∈ks.take i,iv k=false)∧Loop (xA CC (ks.map enc) ((ks.map enc).length:Int)) ((pre.length:Nat):Int)=some (.inl (i:Int))):=by
 intro aC
 induction aC with
 | nil=>
  intro pre bD hp
  rw[di] at bD
  subst bD
  refine .inl ⟨AR hp,⟨(((ks.length:Nat):Int),false),br ?_⟩⟩
  ·simp only[xA,A3,bc,au]
   rw[aD,eJ]
 | cons k aC ih=>
  intro pre bD hp
  have ct:pre.length<ks.length:=by rw[bD];simp
  have c8:idx (ks.map enc) (pre.length:Int)=some k.enc:=by rw[bD];exact il _ _ _
  cases hk:iv k with
  | true=>
   refine .inr ⟨pre.length,ct,by rw[bD];simpa using hk,by rw[bD];simpa using hp,br ?_⟩
   simp only[xA,A3,bc,au]
   rw[aF,c8]
   simp only[Option.bind_some,bW,bX,bY]
   refine (congrArg (fun o=>Option.bind o _) (Kg k)).trans ?_
   simp only[Option.bind_some,V.az,V.cm]
   rw[hk,cond_true]
  | false=>
   have bz:xA CC (ks.map enc) ((ks.map enc).length:Int) ((pre.length:Nat):Int)=some (.inl (((pre++[k]).length:Nat):Int)):=by
    simp only[xA,A3,bc,au]
    rw[aF,c8]
    simp only[Option.bind_some,bW,bX,bY]
    refine (congrArg (fun o=>Option.bind o _) (Kg k)).trans ?_
    simp only[Option.bind_some,V.az,V.cm]
    rw[hk,cond_false,bB]
    simp
   rw[bS bz]
   refine ih (pre++[k]) (by rw[bD];simp) fun x hx=> ?_
   rcases dp.1 hx with hx|hx
   ·exact hp x hx
   ·rw[df.1 hx];exact hk
theorem ald {ks:List Ex} (hlen:ks.length≤1000000):
  (ks.any iv=false∧CC Jl [.list ag (ks.map enc)]=some [.int .i64 (-1)])∨
  (∃i:Nat,i<ks.length∧iv (ks.getD i aS)=true∧(∀k∈ks.take i,iv k=false)∧CC Jl [.list ag (ks.map enc)]=some [.int .i64 (i:Int)]):=by
 rcases alc hlen ks [] rfl (by simp) with ⟨h1,t,h2⟩|⟨i,h1,h2,h3,h4⟩
 ·refine .inl ⟨h1,aal ?_⟩
  unfold Sg
  refine (congrArg (fun o=>Option.bind o _) h2).trans ?_
  rfl
 ·refine .inr ⟨i,h1,h2,h3,aal ?_⟩
  unfold Sg
  refine (congrArg (fun o=>Option.bind o _) h4).trans ?_
  rfl
theorem ale {ks:List Ex} (hn:ks.length≤1000000): ∀(d j i:Nat) (ss:List Ex),j+d=ks.length→i≤j→ss.length=ks.length→ss.take i=(ks.take j).filter (fun k=> !(iv k))→ss.drop j=ks.drop j→
  ∃t dF,Loop (xB CC) ((i:Int),(j:Int),ss.map enc)=some (((ks.filter (fun k=> !(iv k))).length:Int),(ks.length:Int),t,List.map enc dF)∧dF.take (ks.filter (fun k=> !(iv k))).length=ks.filter (fun k=> !(iv k))∧dF.length=ks.length:=by
 intro d
 induction d with
 | zero=>
  intro j i ss hj hi hl ht hd
  obtain rfl:j=ks.length:=by omega
  rw[qC] at ht
  have fv:i=(ks.filter (fun k=> !(iv k))).length:=by rw[←ht,fb];omega
  refine ⟨false,ss,br ?_,by rw[←fv];exact ht,hl⟩
  simp only[xB,A4,un,bc,au]
  rw[aD,eJ,fv]
 | succ d ih=>
  intro j i ss hj hi hl ht hd
  have cy:j<ks.length:=by omega
  have hg:=vc hl hd cy
  have fK:ss.drop (j+1)=ks.drop (j+1):=by rw[←m7,←m7,hd]
  have hx:(ss.map enc)[j]? =some (ks.getD j aS).enc:=by rw[jC (by omega),hg]
  have t1:((j:Nat):Int)<(ss.length:Int):=by omega
  have t2:(0:Int)≤((j:Nat):Int):=by omega
  have t3:((i:Nat):Int)<(ss.length:Int):=by omega
  have t4:(0:Int)≤((i:Nat):Int):=by omega
  have c8: ∃y,(ss.map enc)[i]? =some y:=⟨_,jC (by omega)⟩
  obtain ⟨y,hy⟩:=c8
  cases hk:iv (ks.getD j aS) with
  | true=>
   have bz:xB CC ((i:Int),(j:Int),ss.map enc)=some (.inl ((i:Int),((j+1:Nat):Int),ss.map enc)):=by
    simp only[xB,A4,un,bc,au,bQ,t1,t2,cL,Int.toNat_natCast,hx,Option.bind_some,bW,bX,bY]
    refine (congrArg (fun o=>Option.bind o _) (Kg (ks.getD j aS))).trans ?_
    simp only[Option.bind_some,V.az,V.cm]
    rw[hk,pC,cond_false,bB]
    rfl
   rw[bS bz]
   refine ih (j+1) i ss (by omega) (by omega) hl ?_ fK
   rw[iX cy,mb,ht,ma,hk]
   simp
  | false=>
   have bz:xB CC ((i:Int),(j:Int),ss.map enc)=some (.inl (((i+1:Nat):Int),((j+1:Nat):Int),(ss.set i (ks.getD j aS)).map enc)):=by
    simp only[xB,A4,un,bc,au,bQ,t1,t2,t3,t4,cL,Int.toNat_natCast,hx,hy,Option.bind_some,bW,bX,bY]
    refine (congrArg (fun o=>Option.bind o _) (Kg (ks.getD j aS))).trans ?_
    simp only[Option.bind_some,V.az,V.cm]
    rw[hk,sj,cond_true,bB,bB,←ja,sn]
    rfl
   rw[bS bz]
   refine ih (j+1) (i+1) (ss.set i (ks.getD j aS)) (by omega) (by omega) (by simpa using hl) ?_ ?_
   ·rw[iX (by rw[nJ];omega),y7 (bC i),ht,iX cy,mb,ma,hk]
    simp[show i<ss.length by omega]
   ·rw[y8 (by omega),fK]
theorem alf {ks:List Ex} (hn:ks.length≤1000000): ∃b,CC Jk [.list ag (ks.map enc)]=some [.bool b,.list ag ((ks.filter (fun k=> !(iv k))).map enc)]:=by
 rcases ald hn with ⟨h1,h2⟩|⟨i,h1,h2,h3,h4⟩
 ·refine ⟨true,aam ?_⟩
  unfold Sh
  refine (congrArg (fun o=>Option.bind o _) h2).trans ?_
  rw[sk.2 fun k hk=>show (!(iv k))=true by rw[any_false (p:=iv) (by rw[h1];simp) k hk];rfl]
  rfl
 ·have hf:(ks.take (i+1)).filter (fun k=> !(iv k))=ks.take i:=by
   rw[iX h1,mb,ma,h2,sk.2 fun k hk=>show (!(iv k))=true by rw[h3 k hk];rfl]
   simp
  obtain ⟨t,dF,e1,e2,e3⟩:=ale hn (ks.length-(i+1)) (i+1) i ks (by omega) (by omega) rfl hf.symm rfl
  refine ⟨false,aam ?_⟩
  unfold Sh
  refine (congrArg (fun o=>Option.bind o _) h4).trans ?_
  simp only[Option.bind_some,V.az,V.toInt_int,dv]
  rw[aD,bB]
  refine (congrArg (fun o=>Option.bind o _) e1).trans ?_
  have hm:(ks.filter (fun k=> !(iv k))).length≤dF.length:=by rw[e3];exact vN _ _
  have t1:((((ks.filter (fun k=> !(iv k))).length:Nat):Int)≤((dF.map enc).length:Int)):=by rw[bc];omega
  simp only[Option.bind_some,un,bQ,au,Int.toNat_natCast]
  rw[aF,ai t1,aF,ai (by simp only[cg,fb,pD,qE];omega),A7 _ _ _ hm,e2]
theorem alg {ks:List Ex} (hlen:ks.length≤1000000): ∀(aC pre:List Ex),ks=pre++aC→(∀k∈pre,univ k=false)→
  (ks.any univ=false∧∃t,Loop (xC CC (ks.map enc) ((ks.map enc).length:Int)) ((pre.length:Nat):Int)=some (.inr t))∨
  (∃i:Nat,i<ks.length∧univ (ks.getD i aS)=true∧(∀k∈ks.take i,univ k=false)∧Loop (xC CC (ks.map enc) ((ks.map enc).length:Int)) ((pre.length:Nat):Int)=some (.inl (i:Int))):=by
 intro aC
 induction aC with
 | nil=>
  intro pre bD hp
  rw[di] at bD
  subst bD
  refine .inl ⟨AR hp,⟨(((ks.length:Nat):Int),false),br ?_⟩⟩
  ·simp only[xC,A5,bc,au]
   rw[aD,eJ]
 | cons k aC ih=>
  intro pre bD hp
  have ct:pre.length<ks.length:=by rw[bD];simp
  have c8:idx (ks.map enc) (pre.length:Int)=some k.enc:=by rw[bD];exact il _ _ _
  cases hk:univ k with
  | true=>
   refine .inr ⟨pre.length,ct,by rw[bD];simpa using hk,by rw[bD];simpa using hp,br ?_⟩
   simp only[xC,A5,bc,au]
   rw[aF,c8]
   simp only[Option.bind_some,bW,bX,bY]
   refine (congrArg (fun o=>Option.bind o _) (Eg k)).trans ?_
   simp only[Option.bind_some,V.az,V.cm]
   rw[hk,cond_true]
  | false=>
   have bz:xC CC (ks.map enc) ((ks.map enc).length:Int) ((pre.length:Nat):Int)=some (.inl (((pre++[k]).length:Nat):Int)):=by
    simp only[xC,A5,bc,au]
    rw[aF,c8]
    simp only[Option.bind_some,bW,bX,bY]
    refine (congrArg (fun o=>Option.bind o _) (Eg k)).trans ?_
    simp only[Option.bind_some,V.az,V.cm]
    rw[hk,cond_false,bB]
    simp
   rw[bS bz]
   refine ih (pre++[k]) (by rw[bD];simp) fun x hx=> ?_
   rcases dp.1 hx with hx|hx
   ·exact hp x hx
   ·rw[df.1 hx];exact hk
theorem aaq {ks:List Ex} (hlen:ks.length≤1000000):
  (ks.any univ=false∧CC DL [.list ag (ks.map enc)]=some [.int .i64 (-1)])∨
  (∃i:Nat,i<ks.length∧univ (ks.getD i aS)=true∧(∀k∈ks.take i,univ k=false)∧CC DL [.list ag (ks.map enc)]=some [.int .i64 (i:Int)]):=by
 rcases alg hlen ks [] rfl (by simp) with ⟨h1,t,h2⟩|⟨i,h1,h2,h3,h4⟩
 ·refine .inl ⟨h1,aan ?_⟩
  unfold Si
  refine (congrArg (fun o=>Option.bind o _) h2).trans ?_
  rfl
 ·refine .inr ⟨i,h1,h2,h3,aan ?_⟩
  unfold Si
  refine (congrArg (fun o=>Option.bind o _) h4).trans ?_
  rfl
theorem alh {ks:List Ex} (hlen:ks.length≤1000000):CC OP [.list ag (ks.map enc)]=some [.bool (ks.any univ)]:=by
 refine ak8 ?_
 unfold aao
 rcases aaq hlen with ⟨h1,h2⟩|⟨i,h1,h2,h3,h4⟩
 ·refine (congrArg (fun o=>Option.bind o _) h2).trans ?_
  rw[h1];rfl
 ·refine (congrArg (fun o=>Option.bind o _) h4).trans ?_
  rw[iB.2 ⟨_,by rw[show ks.getD i aS=ks[i] by simp[h1]];exact jH h1,h2⟩]
  simp
theorem ali {ks:List Ex} (hn:ks.length≤1000000): ∀(d j i:Nat) (ss:List Ex),j+d=ks.length→i≤j→ss.length=ks.length→ss.take i=(ks.take j).filter (fun k=> !(univ k))→ss.drop j=ks.drop j→
  ∃t dF,Loop (xD CC) ((i:Int),(j:Int),ss.map enc)=some (((ks.filter (fun k=> !(univ k))).length:Int),(ks.length:Int),t,List.map enc dF)∧dF.take (ks.filter (fun k=> !(univ k))).length=ks.filter (fun k=> !(univ k))∧dF.length=ks.length:=by
 intro d
 induction d with
 | zero=>
  intro j i ss hj hi hl ht hd
  obtain rfl:j=ks.length:=by omega
  rw[qC] at ht
  have fv:i=(ks.filter (fun k=> !(univ k))).length:=by rw[←ht,fb];omega
  refine ⟨false,ss,br ?_,by rw[←fv];exact ht,hl⟩
  simp only[xD,A6,un,bc,au]
  rw[aD,eJ,fv]
 | succ d ih=>
  intro j i ss hj hi hl ht hd
  have cy:j<ks.length:=by omega
  have hg:=vc hl hd cy
  have fK:ss.drop (j+1)=ks.drop (j+1):=by rw[←m7,←m7,hd]
  have hx:(ss.map enc)[j]? =some (ks.getD j aS).enc:=by rw[jC (by omega),hg]
  have t1:((j:Nat):Int)<(ss.length:Int):=by omega
  have t2:(0:Int)≤((j:Nat):Int):=by omega
  have t3:((i:Nat):Int)<(ss.length:Int):=by omega
  have t4:(0:Int)≤((i:Nat):Int):=by omega
  have c8: ∃y,(ss.map enc)[i]? =some y:=⟨_,jC (by omega)⟩
  obtain ⟨y,hy⟩:=c8
  cases hk:univ (ks.getD j aS) with
  | true=>
   have bz:xD CC ((i:Int),(j:Int),ss.map enc)=some (.inl ((i:Int),((j+1:Nat):Int),ss.map enc)):=by
    simp only[xD,A6,un,bc,au,bQ,t1,t2,cL,Int.toNat_natCast,hx,Option.bind_some,bW,bX,bY]
    refine (congrArg (fun o=>Option.bind o _) (Eg (ks.getD j aS))).trans ?_
    simp only[Option.bind_some,V.az,V.cm]
    rw[hk,pC,cond_false,bB]
    rfl
   rw[bS bz]
   refine ih (j+1) i ss (by omega) (by omega) hl ?_ fK
   rw[iX cy,mb,ht,ma,hk]
   simp
  | false=>
   have bz:xD CC ((i:Int),(j:Int),ss.map enc)=some (.inl (((i+1:Nat):Int),((j+1:Nat):Int),(ss.set i (ks.getD j aS)).map enc)):=by
    simp only[xD,A6,un,bc,au,bQ,t1,t2,t3,t4,cL,Int.toNat_natCast,hx,hy,Option.bind_some,bW,bX,bY]
    refine (congrArg (fun o=>Option.bind o _) (Eg (ks.getD j aS))).trans ?_
    simp only[Option.bind_some,V.az,V.cm]
    rw[hk,sj,cond_true,bB,bB,←ja,sn]
    rfl
   rw[bS bz]
   refine ih (j+1) (i+1) (ss.set i (ks.getD j aS)) (by omega) (by omega) (by simpa using hl) ?_ ?_
   ·rw[iX (by rw[nJ];omega),y7 (bC i),ht,iX cy,mb,ma,hk]
    simp[show i<ss.length by omega]
   ·rw[y8 (by omega),fK]
theorem alj {ks:List Ex} (hn:ks.length≤1000000): ∃b,CC xc [.list ag (ks.map enc)]=some [.bool b,.list ag ((ks.filter (fun k=> !(univ k))).map enc)]:=by
 rcases aaq hn with ⟨h1,h2⟩|⟨i,h1,h2,h3,h4⟩
 ·refine ⟨true,aap ?_⟩
  unfold Sj
  refine (congrArg (fun o=>Option.bind o _) h2).trans ?_
  rw[sk.2 fun k hk=>show (!(univ k))=true by rw[any_false (p:=univ) (by rw[h1];simp) k hk];rfl]
  rfl
 ·have hf:(ks.take (i+1)).filter (fun k=> !(univ k))=ks.take i:=by
   rw[iX h1,mb,ma,h2,sk.2 fun k hk=>show (!(univ k))=true by rw[h3 k hk];rfl]
   simp
  obtain ⟨t,dF,e1,e2,e3⟩:=ali hn (ks.length-(i+1)) (i+1) i ks (by omega) (by omega) rfl hf.symm rfl
  refine ⟨false,aap ?_⟩
  unfold Sj
  refine (congrArg (fun o=>Option.bind o _) h4).trans ?_
  simp only[Option.bind_some,V.az,V.toInt_int,dv]
  rw[aD,bB]
  refine (congrArg (fun o=>Option.bind o _) e1).trans ?_
  have hm:(ks.filter (fun k=> !(univ k))).length≤dF.length:=by rw[e3];exact vN _ _
  have t1:((((ks.filter (fun k=> !(univ k))).length:Nat):Int)≤((dF.map enc).length:Int)):=by rw[bc];omega
  simp only[Option.bind_some,un,bQ,au,Int.toNat_natCast]
  rw[aF,ai t1,aF,ai (by simp only[cg,fb,pD,qE];omega),A7 _ _ _ hm,e2]
end Go.AM
set_option maxRecDepth 100000
namespace Go.AM
open Go.Proofs Go.Sort
section
variable {α:Type} {enc:α→V}
def rV (enc:α→V) (d:Array α):List V:=d.toList.map enc
theorem iw (d:Array α):(rV enc d).length=d.size:=by simp[rV]
theorem gU (d:Array α) (i:Nat) (x:α):(rV enc d).set i (enc x)=rV enc (d.setIfInBounds i x):=by
 unfold rV;rw[Array.toList_setIfInBounds,sn]
variable [Inhabited α]
theorem iy {d:Array α} {i:Nat} (h:i<d.size):(rV enc d)[i]? =some (enc d[i]!):=by
 unfold rV;rw[fI,ua,l8 h,getElem!_pos d i h];rfl
theorem jD {d:Array α} {i j:Nat} {x:α} (h:i<d.size):(rV enc (d.setIfInBounds j x))[i]? =some (enc (d.setIfInBounds j x)[i]!):=iy (by rw[iM];exact h)
theorem gW (a b:Nat):(a:Int)+(b:Int)=((a+b:Nat):Int):=(Int.natCast_add a b).symm
theorem eu (a:Nat):(a:Int)+1=((a+1:Nat):Int):=rfl
theorem xE (a:Nat):((a+1:Nat):Int)-1=(a:Int):=by omega
theorem Eh (a:Nat):(a:Int)*2=((a*2:Nat):Int):=by omega
theorem oq {a b:Nat} (h:b≤a):(a:Int)-(b:Int)=((a-b:Nat):Int):=by omega
theorem lU {a:Nat} (h:1≤a):(a:Int)-1=((a-1:Nat):Int):=by omega
theorem divC (a b:Nat):Int.tdiv (a:Int) (b:Int)=((a/b:Nat):Int):=by rw[Int.tdiv_eq_ediv_of_nonneg (by omega)];rfl
theorem pf {p:Prop} [Decidable p] (h:p):decide p=true:=dV h
theorem vd {p:Prop} [Decidable p] (h: ¬p):decide p=false:=eB h
theorem A8 (p:α→Bool) (d:Array α) (j i:Nat):scanUp p d j i=if i≤j then (if p d[i]! =true then scanUp p d j (i+1) else i) else i:=by
 conv=>lhs;rw[scanUp]
 by_cases h:i≤j
 ·rw[ai h];simp only[h,pA,ki]
 ·rw[aj h,aj (by simp[h])]
theorem Sn (p:α→Bool) (d:Array α) (i j:Nat):scanDown p d i (j+1)=if i≤j+1 then (if p d[j+1]! =true then scanDown p d i j else j+1) else j+1:=by
 conv=>lhs;rw[scanDown]
 by_cases h:i≤j+1
 ·rw[ai h];simp only[h,pA,ki]
 ·rw[aj h,aj (by simp[h])]
variable {lt:α→α→Bool}
theorem aar (a j:Nat) (d:Array α):insInner lt a (j+1) d=if j+1>a&&lt d[j+1]! d[j]! then insInner lt a j (swp d (j+1) j) else d:=rfl
theorem So {a:Nat}: ∀(j:Nat) (d:Array α),(insInner lt a j d).size=d.size
 | 0,d=>rfl
 | j+1,d=>by
  rw[aar]
  split
  ·rw[So j,size_swp]
  ·rfl
theorem Ei (hi first:Nat): ∀(n root:Nat) (d:Array α),hi-root≤n→(siftDown lt hi first root d).size=d.size:=by
 intro n
 induction n with
 | zero=>intro root d h;rw[siftDown,tU (by omega)]
 | succ n ih=>
  intro root d h
  rw[siftDown]
  split
  ·rfl
  ·split
   ·split
    ·rfl
    ·split
     ·rw[ih _ _ (by omega),size_swp]
     ·rfl
   ·split
    ·rfl
    ·rw[ih _ _ (by omega),size_swp]
theorem Sp (hi first:Nat): ∀(k:Nat) (d:Array α),(heapBuild lt hi first k d).size=d.size
 | 0,d=>rfl
 | k+1,d=>by rw[heapBuild,Sp,Ei _ _ _ _ _ (bC _)]
end
end Go.AM
set_option maxRecDepth 100000
namespace Go.AM
open Go.Proofs
noncomputable def ve (E:SE) (C:ae) (a b' i j:Int) (ao:LV) {β:Type} (kn:(Int × LV)→Option β) (kr:(Int × Bool × LV)→Option β):Option β:=
 bif decide ((j:Int)>a) then
  aA ao j fun x1=>
  aA ao (IntKind.wrap .i64 (j-1)) fun x2=>
  (C E.cmp (E.ex x1++E.ex x2)).bind fun r3=>
  bif decide ((((V.nth r3 0).toInt):Int)<0) then
  aA ao (IntKind.wrap .i64 (j-1)) fun x4=>
  aA ao j fun x5=>
  aA ao j fun x6=>
  aA (bn ao j (.agg (E.ex x4))) (IntKind.wrap .i64 (j-1)) fun x7=>
  kn (IntKind.wrap .i64 (j-1),bn (bn ao j (.agg (E.ex x4))) (IntKind.wrap .i64 (j-1)) (.agg (E.ex x5)))
  else
  kr (j,decide ((((V.nth r3 0).toInt):Int)<0),ao)
 else
  kr (j,false,ao)
noncomputable def A9 (E:SE) (C:ae) (a b' i:Int):=un fun j ao=>ve E C a b' i j ao (fun y=>some (Sum.inl y)) (fun r=>some (Sum.inr r))
noncomputable def xF (E:SE) (C:ae) (a b' i:Int) (ao:LV) {β:Type} (kn:(Int × LV)→Option β) (kr:(Int × Bool × LV)→Option β):Option β:=
 bif decide ((i:Int)<b') then
  (Loop (A9 E C a b' i) (i,ao)).bind (un fun (j_8:Int)=>un fun (o9:Bool) (qk:LV)=>
   kn (IntKind.wrap .i64 (i+1),qk))
 else
  kr (i,decide ((i:Int)<b'),ao)
noncomputable def Ki (E:SE) (C:ae) (a b':Int):=un fun i ao=>xF E C a b' i ao (fun y=>some (Sum.inl y)) (fun r=>some (Sum.inr r))
noncomputable def Kj (E:SE) (C:ae) (a b':Int) (ao:LV):Option LV:=
 (Loop (Ki E C a b') (IntKind.wrap .i64 (a+1),ao)).bind (un fun (avb:Int)=>un fun (DT:Bool) (Sq:LV)=>
  some [.list E.T Sq])
noncomputable def tD (E:SE) (C:ae) (hi first root child:Int) (t40:Bool) (ao:LV) {β:Type} (kr:(Int)→Option β):Option β:=
 bif t40 then
  kr (IntKind.wrap .i64 (child+1))
 else
  kr child
noncomputable def rW (E:SE) (C:ae) (hi first root:Int) (ao:LV) {β:Type} (kn:(Int × LV)→Option β) (kr:((Int × Int × Bool × LV) ⊕ (Int × Int × Bool × LV))→Option β):Option β:=
 bif decide (((IntKind.wrap .i64 ((IntKind.wrap .i64 (root*2))+1)):Int)≥hi) then
  kr (.inl (root,IntKind.wrap .i64 ((IntKind.wrap .i64 (root*2))+1),decide (((IntKind.wrap .i64 ((IntKind.wrap .i64 (root*2))+1)):Int)≥hi),ao))
 else
  bif decide (((IntKind.wrap .i64 ((IntKind.wrap .i64 ((IntKind.wrap .i64 (root*2))+1))+1)):Int)<hi) then
  aA ao (IntKind.wrap .i64 (first+(IntKind.wrap .i64 ((IntKind.wrap .i64 (root*2))+1)))) fun x1=>
  aA ao (IntKind.wrap .i64 ((IntKind.wrap .i64 (first+(IntKind.wrap .i64 ((IntKind.wrap .i64 (root*2))+1))))+1)) fun x2=>
  (C E.cmp (E.ex x1++E.ex x2)).bind fun r3=>
  tD E C hi first root (IntKind.wrap .i64 ((IntKind.wrap .i64 (root*2))+1)) (decide ((((V.nth r3 0).toInt):Int)<0)) ao (fun (Ba:Int)=>
   aA ao (IntKind.wrap .i64 (first+root)) fun x5=>
   aA ao (IntKind.wrap .i64 (first+Ba)) fun x6=>
   (C E.cmp (E.ex x5++E.ex x6)).bind fun r7=>
   bif !(decide ((((V.nth r7 0).toInt):Int)<0)) then
    kr (.inr (root,Ba,!(decide ((((V.nth r7 0).toInt):Int)<0)),ao))
   else
    aA ao (IntKind.wrap .i64 (first+Ba)) fun x8=>
    aA ao (IntKind.wrap .i64 (first+root)) fun x9=>
    aA ao (IntKind.wrap .i64 (first+root)) fun j9=>
    aA (bn ao (IntKind.wrap .i64 (first+root)) (.agg (E.ex x8))) (IntKind.wrap .i64 (first+Ba)) fun nA=>
    kn (Ba,bn (bn ao (IntKind.wrap .i64 (first+root)) (.agg (E.ex x8))) (IntKind.wrap .i64 (first+Ba)) (.agg (E.ex x9))))
  else
  tD E C hi first root (IntKind.wrap .i64 ((IntKind.wrap .i64 (root*2))+1)) false ao (fun (Bb:Int)=>
   aA ao (IntKind.wrap .i64 (first+root)) fun tE=>
   aA ao (IntKind.wrap .i64 (first+Bb)) fun xG=>
   (C E.cmp (E.ex tE++E.ex xG)).bind fun Bc=>
   bif !(decide ((((V.nth Bc 0).toInt):Int)<0)) then
    kr (.inr (root,Bb,!(decide ((((V.nth Bc 0).toInt):Int)<0)),ao))
   else
    aA ao (IntKind.wrap .i64 (first+Bb)) fun ql=>
    aA ao (IntKind.wrap .i64 (first+root)) fun Ej=>
    aA ao (IntKind.wrap .i64 (first+root)) fun xH=>
    aA (bn ao (IntKind.wrap .i64 (first+root)) (.agg (E.ex ql))) (IntKind.wrap .i64 (first+Bb)) fun Ek=>
    kn (Bb,bn (bn ao (IntKind.wrap .i64 (first+root)) (.agg (E.ex ql))) (IntKind.wrap .i64 (first+Bb)) (.agg (E.ex Ej))))
noncomputable def qm (E:SE) (C:ae) (hi first:Int):=un fun root ao=>rW E C hi first root ao (fun y=>some (Sum.inl y)) (fun r=>some (Sum.inr r))
noncomputable def Kk (E:SE) (C:ae) (lo hi first:Int) (ao:LV):Option LV:=
 (Loop (qm E C hi first) (lo,ao)).bind (cf (un fun (avc:Int)=>un fun (avd:Int)=>un fun (JO:Bool) (alk:LV)=>
  some [.list E.T alk]) (un fun (ave:Int)=>un fun (avf:Int)=>un fun (DV:Bool) (xI:LV)=>
  some [.list E.T xI]))
noncomputable def xJ (E:SE) (C:ae) (first lo hi i:Int) (ao:LV) {β:Type} (kn:(Int × LV)→Option β) (kr:(Int × Bool × LV)→Option β):Option β:=
 bif decide ((i:Int)≥0) then
  (C (E.k 1) [V.int .i64 i,V.int .i64 hi,V.int .i64 first,.list E.T ao]).bind fun r1=>
  kn (IntKind.wrap .i64 (i-1),(V.nth r1 0).toList)
 else
  kr (i,decide ((i:Int)≥0),ao)
noncomputable def Kl (E:SE) (C:ae) (first lo hi:Int):=un fun i ao=>xJ E C first lo hi i ao (fun y=>some (Sum.inl y)) (fun r=>some (Sum.inr r))
noncomputable def xK (E:SE) (C:ae) (first lo i:Int) (ao:LV) {β:Type} (kn:(Int × LV)→Option β) (kr:(Int × Bool × LV)→Option β):Option β:=
 bif decide ((i:Int)≥0) then
  aA ao (IntKind.wrap .i64 (first+i)) fun x5=>
  aA ao first fun x6=>
  aA ao first fun x7=>
  aA (bn ao first (.agg (E.ex x5))) (IntKind.wrap .i64 (first+i)) fun x8=>
  (C (E.k 1) [V.int .i64 lo,V.int .i64 i,V.int .i64 first,.list E.T (bn (bn ao first (.agg (E.ex x5))) (IntKind.wrap .i64 (first+i)) (.agg (E.ex x6)))]).bind fun r9=>
  kn (IntKind.wrap .i64 (i-1),(V.nth r9 0).toList)
 else
  kr (i,decide ((i:Int)≥0),ao)
noncomputable def Km (E:SE) (C:ae) (first lo:Int):=un fun i ao=>xK E C first lo i ao (fun y=>some (Sum.inl y)) (fun r=>some (Sum.inr r))
noncomputable def Kn (E:SE) (C:ae) (a b':Int) (ao:LV):Option LV:=
 (Loop (Kl E C a 0 (IntKind.wrap .i64 (b'-a))) (IntKind.wrap .i64 (Int.tdiv (IntKind.wrap .i64 ((IntKind.wrap .i64 (b'-a))-1)) 2),ao)).bind (un fun (i_2:Int)=>un fun (fy:Bool) (alm:LV)=>
  (Loop (Km E C a 0) (IntKind.wrap .i64 ((IntKind.wrap .i64 (b'-a))-1),alm)).bind (un fun (avg:Int)=>un fun (tu:Bool) (qn:LV)=>
   some [.list E.T qn]))
noncomputable def vf (E:SE) (C:ae) (i j:Int) (ao:LV) {β:Type} (kn:(Int × Int × LV)→Option β) (kr:(Int × Int × Bool × LV)→Option β):Option β:=
 bif decide ((i:Int)<j) then
  aA ao j fun x1=>
  aA ao i fun x2=>
  aA ao i fun x3=>
  aA (bn ao i (.agg (E.ex x1))) j fun x4=>
  kn (IntKind.wrap .i64 (i+1),IntKind.wrap .i64 (j-1),bn (bn ao i (.agg (E.ex x1))) j (.agg (E.ex x2)))
 else
  kr (i,j,decide ((i:Int)<j),ao)
noncomputable def El (E:SE) (C:ae):=un fun i=>un fun j ao=>vf E C i j ao (fun y=>some (Sum.inl y)) (fun r=>some (Sum.inr r))
noncomputable def Ko (E:SE) (C:ae) (a b':Int) (ao:LV):Option LV:=
 (Loop (El E C) (a,IntKind.wrap .i64 (b'-1),ao)).bind (un fun (cD:Int)=>un fun (Kf:Int)=>un fun (rN:Bool) (aln:LV)=>
  some [.list E.T aln])
noncomputable def xL (E:SE) (C:ae) (a j:Int) (ao:LV) (i:Int) {β:Type} (kn:Int→Option β) (kr:(Int × Bool)→Option β):Option β:=
 bif decide ((i:Int)≤j) then
  aA ao i fun x5=>
  aA ao a fun x6=>
  (C E.cmp (E.ex x5++E.ex x6)).bind fun r7=>
  bif decide ((((V.nth r7 0).toInt):Int)<0) then
  kn (IntKind.wrap .i64 (i+1))
  else
  kr (i,decide ((((V.nth r7 0).toInt):Int)<0))
 else
  kr (i,false)
noncomputable def Em (E:SE) (C:ae) (a j:Int) (ao:LV):=fun i=>xL E C a j ao i (fun y=>some (Sum.inl y)) (fun r=>some (Sum.inr r))
noncomputable def vg (E:SE) (C:ae) (a i:Int) (ao:LV) (j:Int) {β:Type} (kn:Int→Option β) (kr:(Int × Bool)→Option β):Option β:=
 bif decide ((i:Int)≤j) then
  aA ao j fun j9=>
  aA ao a fun nA=>
  (C E.cmp (E.ex j9++E.ex nA)).bind fun eQ=>
  bif !(decide ((((V.nth eQ 0).toInt):Int)<0)) then
  kn (IntKind.wrap .i64 (j-1))
  else
  kr (j,!(decide ((((V.nth eQ 0).toInt):Int)<0)))
 else
  kr (j,false)
noncomputable def Bd (E:SE) (C:ae) (a i:Int) (ao:LV):=fun j=>vg E C a i ao j (fun y=>some (Sum.inl y)) (fun r=>some (Sum.inr r))
noncomputable def xM (E:SE) (C:ae) (a j:Int) (ao:LV) (i:Int) {β:Type} (kn:Int→Option β) (kr:(Int × Bool)→Option β):Option β:=
 bif decide ((i:Int)≤j) then
  aA ao i fun qo=>
  aA ao a fun Kp=>
  (C E.cmp (E.ex qo++E.ex Kp)).bind fun r25=>
  bif decide ((((V.nth r25 0).toInt):Int)<0) then
  kn (IntKind.wrap .i64 (i+1))
  else
  kr (i,decide ((((V.nth r25 0).toInt):Int)<0))
 else
  kr (i,false)
noncomputable def En (E:SE) (C:ae) (a j:Int) (ao:LV):=fun i=>xM E C a j ao i (fun y=>some (Sum.inl y)) (fun r=>some (Sum.inr r))
noncomputable def vh (E:SE) (C:ae) (a i:Int) (ao:LV) (j:Int) {β:Type} (kn:Int→Option β) (kr:(Int × Bool)→Option β):Option β:=
 bif decide ((i:Int)≤j) then
  aA ao j fun Sr=>
  aA ao a fun Ss=>
  (C E.cmp (E.ex Sr++E.ex Ss)).bind fun Kq=>
  bif !(decide ((((V.nth Kq 0).toInt):Int)<0)) then
  kn (IntKind.wrap .i64 (j-1))
  else
  kr (j,!(decide ((((V.nth Kq 0).toInt):Int)<0)))
 else
  kr (j,false)
noncomputable def Be (E:SE) (C:ae) (a i:Int) (ao:LV):=fun j=>vh E C a i ao j (fun y=>some (Sum.inl y)) (fun r=>some (Sum.inr r))
noncomputable def xN (E:SE) (C:ae) (a i j:Int) (ao:LV) {β:Type} (kn:(Int × Int × LV)→Option β) (kr:(Int × Int × Bool × LV)→Option β):Option β:=
 (Loop (En E C a j ao) i).bind (un fun (tF:Int) (Y4:Bool)=>
  (Loop (Be E C a tF ao) j).bind (un fun (xO:Int) (Y7:Bool)=>
   bif decide ((tF:Int)>xO) then
    kr (tF,xO,decide ((tF:Int)>xO),ao)
   else
    aA ao xO fun x33=>
    aA ao tF fun x34=>
    aA ao tF fun x35=>
    aA (bn ao tF (.agg (E.ex x33))) xO fun x36=>
    kn (IntKind.wrap .i64 (tF+1),IntKind.wrap .i64 (xO-1),bn (bn ao tF (.agg (E.ex x33))) xO (.agg (E.ex x34)))))
noncomputable def Bf (E:SE) (C:ae) (a:Int):=un fun i=>un fun j ao=>xN E C a i j ao (fun y=>some (Sum.inl y)) (fun r=>some (Sum.inr r))
noncomputable def Kr (E:SE) (C:ae) (a b' pivot:Int) (ao:LV):Option LV:=
 aA ao pivot fun x1=>
 aA ao a fun x2=>
 aA ao a fun x3=>
 aA (bn ao a (.agg (E.ex x1))) pivot fun x4=>
 (Loop (Em E C a (IntKind.wrap .i64 (b'-1)) (bn (bn ao a (.agg (E.ex x1))) pivot (.agg (E.ex x2)))) (IntKind.wrap .i64 (a+1))).bind (un fun (lg:Int) (o9:Bool)=>
  (Loop (Bd E C a lg (bn (bn ao a (.agg (E.ex x1))) pivot (.agg (E.ex x2)))) (IntKind.wrap .i64 (b'-1))).bind (un fun (kH:Int) (DU:Bool)=>
   bif decide ((lg:Int)>kH) then
    aA (bn (bn ao a (.agg (E.ex x1))) pivot (.agg (E.ex x2))) a fun rX=>
    aA (bn (bn ao a (.agg (E.ex x1))) pivot (.agg (E.ex x2))) kH fun ql=>
    aA (bn (bn ao a (.agg (E.ex x1))) pivot (.agg (E.ex x2))) kH fun Ej=>
    aA (bn (bn (bn ao a (.agg (E.ex x1))) pivot (.agg (E.ex x2))) kH (.agg (E.ex rX))) a fun xH=>
    some [V.int .i64 kH,.bool true,.list E.T (bn (bn (bn (bn ao a (.agg (E.ex x1))) pivot (.agg (E.ex x2))) kH (.agg (E.ex rX))) a (.agg (E.ex ql)))]
   else
    aA (bn (bn ao a (.agg (E.ex x1))) pivot (.agg (E.ex x2))) kH fun Ek=>
    aA (bn (bn ao a (.agg (E.ex x1))) pivot (.agg (E.ex x2))) lg fun Eo=>
    aA (bn (bn ao a (.agg (E.ex x1))) pivot (.agg (E.ex x2))) lg fun Ks=>
    aA (bn (bn (bn ao a (.agg (E.ex x1))) pivot (.agg (E.ex x2))) lg (.agg (E.ex Ek))) kH fun Bg=>
    (Loop (Bf E C a) (IntKind.wrap .i64 (lg+1),IntKind.wrap .i64 (kH-1),bn (bn (bn (bn ao a (.agg (E.ex x1))) pivot (.agg (E.ex x2))) lg (.agg (E.ex Ek))) kH (.agg (E.ex Eo)))).bind (un fun (aiB:Int)=>un fun (Ep:Int)=>un fun (Y9:Bool) (qp:LV)=>
     aA qp a fun Kt=>
     aA qp Ep fun Su=>
     aA qp Ep fun x43=>
     aA (bn qp Ep (.agg (E.ex Kt))) a fun x44=>
     some [V.int .i64 Ep,.bool false,.list E.T (bn (bn qp Ep (.agg (E.ex Kt))) a (.agg (E.ex Su)))])))
noncomputable def xP (E:SE) (C:ae) (a j:Int) (ao:LV) (i:Int) {β:Type} (kn:Int→Option β) (kr:(Int × Bool)→Option β):Option β:=
 bif decide ((i:Int)≤j) then
  aA ao a fun x5=>
  aA ao i fun x6=>
  (C E.cmp (E.ex x5++E.ex x6)).bind fun r7=>
  bif !(decide ((((V.nth r7 0).toInt):Int)<0)) then
  kn (IntKind.wrap .i64 (i+1))
  else
  kr (i,!(decide ((((V.nth r7 0).toInt):Int)<0)))
 else
  kr (i,false)
noncomputable def Er (E:SE) (C:ae) (a j:Int) (ao:LV):=fun i=>xP E C a j ao i (fun y=>some (Sum.inl y)) (fun r=>some (Sum.inr r))
noncomputable def vi (E:SE) (C:ae) (a i:Int) (ao:LV) (j:Int) {β:Type} (kn:Int→Option β) (kr:(Int × Bool)→Option β):Option β:=
 bif decide ((i:Int)≤j) then
  aA ao a fun j9=>
  aA ao j fun nA=>
  (C E.cmp (E.ex j9++E.ex nA)).bind fun eQ=>
  bif decide ((((V.nth eQ 0).toInt):Int)<0) then
  kn (IntKind.wrap .i64 (j-1))
  else
  kr (j,decide ((((V.nth eQ 0).toInt):Int)<0))
 else
  kr (j,false)
noncomputable def Bh (E:SE) (C:ae) (a i:Int) (ao:LV):=fun j=>vi E C a i ao j (fun y=>some (Sum.inl y)) (fun r=>some (Sum.inr r))
noncomputable def xQ (E:SE) (C:ae) (a i j:Int) (ao:LV) {β:Type} (kn:(Int × Int × LV)→Option β) (kr:(Int × Int × Bool × LV)→Option β):Option β:=
 (Loop (Er E C a j ao) i).bind (un fun (lg:Int) (o9:Bool)=>
  (Loop (Bh E C a lg ao) j).bind (un fun (kH:Int) (DU:Bool)=>
   bif decide ((lg:Int)>kH) then
    kr (lg,kH,decide ((lg:Int)>kH),ao)
   else
    aA ao kH fun rX=>
    aA ao lg fun ql=>
    aA ao lg fun Ej=>
    aA (bn ao lg (.agg (E.ex rX))) kH fun xH=>
    kn (IntKind.wrap .i64 (lg+1),IntKind.wrap .i64 (kH-1),bn (bn ao lg (.agg (E.ex rX))) kH (.agg (E.ex ql)))))
noncomputable def Bi (E:SE) (C:ae) (a:Int):=un fun i=>un fun j ao=>xQ E C a i j ao (fun y=>some (Sum.inl y)) (fun r=>some (Sum.inr r))
noncomputable def Ku (E:SE) (C:ae) (a b' pivot:Int) (ao:LV):Option LV:=
 aA ao pivot fun x1=>
 aA ao a fun x2=>
 aA ao a fun x3=>
 aA (bn ao a (.agg (E.ex x1))) pivot fun x4=>
 (Loop (Bi E C a) (IntKind.wrap .i64 (a+1),IntKind.wrap .i64 (b'-1),bn (bn ao a (.agg (E.ex x1))) pivot (.agg (E.ex x2)))).bind (un fun (alo:Int)=>un fun (avh:Int)=>un fun (Rs:Bool) (alp:LV)=>
  some [V.int .i64 alo,.list E.T alp])
noncomputable def xR (E:SE) (C:ae) (a b' j:Int) (ao:LV) (i:Int) {β:Type} (kn:Int→Option β) (kr:(Int × Bool)→Option β):Option β:=
 bif decide ((i:Int)<b') then
  aA ao i fun x1=>
  aA ao (IntKind.wrap .i64 (i-1)) fun x2=>
  (C E.cmp (E.ex x1++E.ex x2)).bind fun r3=>
  bif !(decide ((((V.nth r3 0).toInt):Int)<0)) then
  kn (IntKind.wrap .i64 (i+1))
  else
  kr (i,!(decide ((((V.nth r3 0).toInt):Int)<0)))
 else
  kr (i,false)
noncomputable def Es (E:SE) (C:ae) (a b' j:Int) (ao:LV):=fun i=>xR E C a b' j ao i (fun y=>some (Sum.inl y)) (fun r=>some (Sum.inr r))
noncomputable def xS (E:SE) (C:ae) (a b' i j j':Int) (ao:LV) {β:Type} (kn:(Int × LV)→Option β) (kr:(Int × LV)→Option β):Option β:=
 bif decide ((j':Int)≥1) then
  aA ao j' fun j9=>
  aA ao (IntKind.wrap .i64 (j'-1)) fun nA=>
  (C E.cmp (E.ex j9++E.ex nA)).bind fun eQ=>
  bif !(decide ((((V.nth eQ 0).toInt):Int)<0)) then
  kr (j',ao)
  else
  aA ao (IntKind.wrap .i64 (j'-1)) fun tE=>
  aA ao j' fun xG=>
  aA ao j' fun rX=>
  aA (bn ao j' (.agg (E.ex tE))) (IntKind.wrap .i64 (j'-1)) fun ql=>
  kn (IntKind.wrap .i64 (j'-1),bn (bn ao j' (.agg (E.ex tE))) (IntKind.wrap .i64 (j'-1)) (.agg (E.ex xG)))
 else
  kr (j',ao)
noncomputable def Et (E:SE) (C:ae) (a b' i j:Int):=un fun j' ao=>xS E C a b' i j j' ao (fun y=>some (Sum.inl y)) (fun r=>some (Sum.inr r))
noncomputable def Bj (E:SE) (C:ae) (a b' i j:Int) (t65:Bool) (ao:LV) {β:Type} (kr:LV→Option β):Option β:=
 bif t65 then
  (Loop (Et E C a b' i j) (IntKind.wrap .i64 (i-1),ao)).bind (un fun (avi:Int) (alq:LV)=>
   kr alq)
 else
  kr ao
noncomputable def xT (E:SE) (C:ae) (a b' i j j':Int) (ao:LV) {β:Type} (kn:(Int × LV)→Option β) (kr:(Int × LV)→Option β):Option β:=
 bif decide ((j':Int)<b') then
  aA ao j' fun Eo=>
  aA ao (IntKind.wrap .i64 (j'-1)) fun Ks=>
  (C E.cmp (E.ex Eo++E.ex Ks)).bind fun lV=>
  bif !(decide ((((V.nth lV 0).toInt):Int)<0)) then
  kr (j',ao)
  else
  aA ao (IntKind.wrap .i64 (j'-1)) fun qo=>
  aA ao j' fun Kp=>
  aA ao j' fun x25=>
  aA (bn ao j' (.agg (E.ex qo))) (IntKind.wrap .i64 (j'-1)) fun x26=>
  kn (IntKind.wrap .i64 (j'+1),bn (bn ao j' (.agg (E.ex qo))) (IntKind.wrap .i64 (j'-1)) (.agg (E.ex Kp)))
 else
  kr (j',ao)
noncomputable def Eu (E:SE) (C:ae) (a b' i j:Int):=un fun j' ao=>xT E C a b' i j j' ao (fun y=>some (Sum.inl y)) (fun r=>some (Sum.inr r))
noncomputable def xU (E:SE) (C:ae) (a b' i j:Int) (ao:LV) {β:Type} (kn:(Int × Int × LV)→Option β) (kr:((Bool × LV) ⊕ (Int × Int × Bool × LV))→Option β):Option β:=
 bif decide ((j:Int)<5) then
  (Loop (Es E C a b' j ao) i).bind (un fun (kI:Int) (gB:Bool)=>
   bif (kI:Int)==b' then
   kr (.inl (true,ao))
   else
   bif decide (((IntKind.wrap .i64 (b'-a)):Int)<50) then
    kr (.inl (false,ao))
   else
    aA ao (IntKind.wrap .i64 (kI-1)) fun x6=>
    aA ao kI fun x7=>
    aA ao kI fun x8=>
    aA (bn ao kI (.agg (E.ex x6))) (IntKind.wrap .i64 (kI-1)) fun x9=>
    Bj E C a b' kI j (decide (((IntKind.wrap .i64 (kI-a)):Int)≥2)) (bn (bn ao kI (.agg (E.ex x6))) (IntKind.wrap .i64 (kI-1)) (.agg (E.ex x7))) (fun (aas:LV)=>
     bif decide (((IntKind.wrap .i64 (b'-kI)):Int)≥2) then
     (Loop (Eu E C a b' kI j) (IntKind.wrap .i64 (kI+1),aas)).bind (un fun (avj:Int) (alr:LV)=>
      kn (kI,IntKind.wrap .i64 (j+1),alr))
     else
     kn (kI,IntKind.wrap .i64 (j+1),aas)))
 else
  kr (.inr (i,j,decide ((j:Int)<5),ao))
noncomputable def vj (E:SE) (C:ae) (a b':Int):=un fun i=>un fun j ao=>xU E C a b' i j ao (fun y=>some (Sum.inl y)) (fun r=>some (Sum.inr r))
noncomputable def Kv (E:SE) (C:ae) (a b':Int) (ao:LV):Option LV:=
 (Loop (vj E C a b') (IntKind.wrap .i64 (a+1),0,ao)).bind (cf (un fun (Y5:Bool) (als:LV)=>
  some [.bool Y5,.list E.T als]) (un fun (avk:Int)=>un fun (avl:Int)=>un fun (Rv:Bool) (alu:LV)=>
  some [.bool false,.list E.T alu]))
noncomputable def Bk (E:SE) (C:ae) (a length Bl pg other:Int) (t45:Bool) (ao:LV) (Ev:Int) {β:Type} (kr:(Int)→Option β):Option β:=
 bif t45 then
  kr (IntKind.wrap .i64 (other-length))
 else
  kr other
noncomputable def xV (E:SE) (C:ae) (a length Bl pg:Int) (ao:LV) (Ev:Int) {β:Type} (kn:(Int × LV × Int)→Option β) (kr:(Int × Bool × LV × Int)→Option β):Option β:=
 bif decide ((pg:Int)≤(IntKind.wrap .i64 ((IntKind.wrap .i64 (a+(IntKind.wrap .i64 (2*(IntKind.wrap .i64 (Int.tdiv length 4))))))+1))) then
  (C Jh [.int .u64 Ev]).bind fun r2=>
  Bk E C a length Bl pg (IntKind.wrap .i64 (IntKind.wrap .u64 ((BitVec.ofInt (IntKind.bits .u64) ((V.nth r2 0).toInt)&&&BitVec.ofInt (IntKind.bits .u64) (IntKind.wrap .u64 (Bl-1))).toNat))) (decide (((IntKind.wrap .i64 (IntKind.wrap .u64 ((BitVec.ofInt (IntKind.bits .u64) ((V.nth r2 0).toInt)&&&BitVec.ofInt (IntKind.bits .u64) (IntKind.wrap .u64 (Bl-1))).toNat))):Int)≥length)) ao ((V.nth (r2.drop 1) 0).toInt) (fun (Sv:Int)=>
   aA ao (IntKind.wrap .i64 (a+Sv)) fun x4=>
   aA ao pg fun x5=>
   aA ao pg fun x6=>
   aA (bn ao pg (.agg (E.ex x4))) (IntKind.wrap .i64 (a+Sv)) fun x7=>
   kn (IntKind.wrap .i64 (pg+1),bn (bn ao pg (.agg (E.ex x4))) (IntKind.wrap .i64 (a+Sv)) (.agg (E.ex x5)),(V.nth (r2.drop 1) 0).toInt))
 else
  kr (pg,decide ((pg:Int)≤(IntKind.wrap .i64 ((IntKind.wrap .i64 (a+(IntKind.wrap .i64 (2*(IntKind.wrap .i64 (Int.tdiv length 4))))))+1))),ao,Ev)
noncomputable def Kw (E:SE) (C:ae) (a length Bl:Int):=un fun pg=>un fun ao Ev=>xV E C a length Bl pg ao Ev (fun y=>some (Sum.inl y)) (fun r=>some (Sum.inr r))
noncomputable def Kx (E:SE) (C:ae) (a b':Int) (ao:LV):Option LV:=
 bif decide (((IntKind.wrap .i64 (b'-a)):Int)≥8) then
  (C Jg [V.int .i64 (IntKind.wrap .i64 (b'-a))]).bind fun r1=>
  (Loop (Kw E C a (IntKind.wrap .i64 (b'-a)) ((V.nth r1 0).toInt)) (IntKind.wrap .i64 ((IntKind.wrap .i64 (a+(IntKind.wrap .i64 (2*(IntKind.wrap .i64 (Int.tdiv (IntKind.wrap .i64 (b'-a)) 4))))))-1),ao,IntKind.wrap .u64 (IntKind.wrap .i64 (b'-a)))).bind (un fun (avm:Int)=>un fun (o9:Bool)=>un fun (qk:LV) (avn:Int)=>
   some [.list E.T qk])
 else
  some [.list E.T ao]
noncomputable def Ky (E:SE) (C:ae) (data:LV) (a b' c dR:Int):Option LV:=
 (C (E.k 10) [.list E.T data,V.int .i64 a,V.int .i64 b',V.int .i64 dR]).bind fun r1=>
 (C (E.k 10) [.list E.T data,V.int .i64 ((V.nth (r1.drop 1) 0).toInt),V.int .i64 c,V.int .i64 ((V.nth (r1.drop 2) 0).toInt)]).bind fun r2=>
 (C (E.k 10) [.list E.T data,V.int .i64 ((V.nth r1 0).toInt),V.int .i64 ((V.nth r2 0).toInt),V.int .i64 ((V.nth (r2.drop 2) 0).toInt)]).bind fun r3=>
 some [V.int .i64 ((V.nth (r3.drop 1) 0).toInt),V.int .i64 ((V.nth (r3.drop 2) 0).toInt)]
noncomputable def Kz (E:SE) (C:ae) (data:LV) (a dR:Int):Option LV:=
 (C (E.k 8) [.list E.T data,V.int .i64 (IntKind.wrap .i64 (a-1)),V.int .i64 a,V.int .i64 (IntKind.wrap .i64 (a+1)),V.int .i64 dR]).bind fun r1=>
 some [V.int .i64 ((V.nth r1 0).toInt),V.int .i64 ((V.nth (r1.drop 1) 0).toInt)]
noncomputable def Ew (E:SE) (C:ae) (data:LV) (a b' dR:Int):Option LV:=
 (idx data b').bind fun x1=>
 (idx data a).bind fun x2=>
 (C E.cmp (E.ex x1++E.ex x2)).bind fun r3=>
 bif decide ((((V.nth r3 0).toInt):Int)<0) then
  some [V.int .i64 b',V.int .i64 a,V.int .i64 (IntKind.wrap .i64 (dR+1))]
 else
  some [V.int .i64 a,V.int .i64 b',V.int .i64 dR]
noncomputable def xW (E:SE) (C:ae) (data:LV) (i j k':Int) (t36:Bool) (dR:Int) {β:Type} (kr:(Int × Int × Int × Int)→Option β):Option β:=
 bif t36 then
  (C (E.k 9) [.list E.T data,V.int .i64 i,V.int .i64 dR]).bind fun r1=>
  (C (E.k 9) [.list E.T data,V.int .i64 j,V.int .i64 ((V.nth (r1.drop 1) 0).toInt)]).bind fun r2=>
  (C (E.k 9) [.list E.T data,V.int .i64 k',V.int .i64 ((V.nth (r2.drop 1) 0).toInt)]).bind fun r3=>
  kr ((V.nth r1 0).toInt,(V.nth r2 0).toInt,(V.nth r3 0).toInt,(V.nth (r3.drop 1) 0).toInt)
 else
  kr (i,j,k',dR)
noncomputable def xX (E:SE) (C:ae) (data:LV) (l i j k':Int) (t34:Bool) (dR:Int) {β:Type} (kr:(Int × Int)→Option β):Option β:=
 bif t34 then
  xW E C data i j k' (decide ((l:Int)≥50)) dR (un fun (kI:Int)=>un fun (j_5:Int)=>un fun (k_6:Int) (alv:Int)=>
   (C (E.k 8) [.list E.T data,V.int .i64 kI,V.int .i64 j_5,V.int .i64 k_6,V.int .i64 alv]).bind fun r8=>
   kr ((V.nth r8 0).toInt,(V.nth (r8.drop 1) 0).toInt))
 else
  kr (j,dR)
noncomputable def Ey (E:SE) (C:ae) (data:LV) (a b':Int):Option LV:=
 xX E C data (IntKind.wrap .i64 (b'-a)) (IntKind.wrap .i64 (a+(IntKind.wrap .i64 (1*(IntKind.wrap .i64 (Int.tdiv (IntKind.wrap .i64 (b'-a)) 4)))))) (IntKind.wrap .i64 (a+(IntKind.wrap .i64 (2*(IntKind.wrap .i64 (Int.tdiv (IntKind.wrap .i64 (b'-a)) 4)))))) (IntKind.wrap .i64 (a+(IntKind.wrap .i64 (3*(IntKind.wrap .i64 (Int.tdiv (IntKind.wrap .i64 (b'-a)) 4)))))) (decide (((IntKind.wrap .i64 (b'-a)):Int)≥8)) 0 (un fun (Sw:Int) (aat:Int)=>
  bif (aat:Int)==0 then
   some [V.int .i64 Sw,V.int .i64 1]
  else
   bif (aat:Int)==12 then
   some [V.int .i64 Sw,V.int .i64 2]
   else
   some [V.int .i64 Sw,V.int .i64 0])
noncomputable def vk (E:SE) (C:ae) (a b' gX:Int) (fB fW:Bool) (length:Int) (t39:Bool) (ao:LV) {β:Type} (kr:(Int × LV)→Option β):Option β:=
 bif t39 then
  (C (E.k 7) [V.int .i64 a,V.int .i64 b',.list E.T ao]).bind fun r3=>
  kr (IntKind.wrap .i64 (gX-1),(V.nth r3 0).toList)
 else
  kr (gX,ao)
noncomputable def vl (E:SE) (C:ae) (a b' gX:Int) (fB fW:Bool) (length pivot hint:Int) (t56:Bool) (ao:LV) {β:Type} (kr:(Int × Int × LV)→Option β):Option β:=
 bif t56 then
  (C (E.k 3) [V.int .i64 a,V.int .i64 b',.list E.T ao]).bind fun r7=>
  kr (IntKind.wrap .i64 ((IntKind.wrap .i64 (b'-1))-(IntKind.wrap .i64 (pivot-a))),1,(V.nth r7 0).toList)
 else
  kr (pivot,hint,ao)
noncomputable def mO (E:SE) (C:ae) (a b' gX:Int) (fB fW:Bool) (length pivot:Int) (t75:Bool) (ao:LV) {β:Type} (kr:((Bool × LV) ⊕ LV)→Option β):Option β:=
 bif t75 then
  (C (E.k 6) [V.int .i64 a,V.int .i64 b',.list E.T ao]).bind fun ew=>
  bif (V.nth ew 0).toBool then
  kr (.inl ((V.nth ew 0).toBool,(V.nth (ew.drop 1) 0).toList))
  else
  kr (.inr ((V.nth (ew.drop 1) 0).toList))
 else
  kr (.inr ao)
noncomputable def ph (E:SE) (C:ae) (a b' gX:Int) (fB fW:Bool) (ao:LV) {β:Type} (kn:(Int × Int × Int × Bool × Bool × LV)→Option β) (kr:LV→Option β):Option β:=
 bif decide (((IntKind.wrap .i64 (b'-a)):Int)≤12) then
  (C (E.k 0) [V.int .i64 a,V.int .i64 b',.list E.T ao]).bind fun r1=>
  kr ((V.nth r1 0).toList)
 else
  bif (gX:Int)==0 then
  (C (E.k 2) [V.int .i64 a,V.int .i64 b',.list E.T ao]).bind fun r2=>
  kr ((V.nth r2 0).toList)
  else
  vk E C a b' gX fB fW (IntKind.wrap .i64 (b'-a)) (!fB) ao (un fun (c9:Int) (Ez:LV)=>
   (C (E.k 11) [.list E.T Ez,V.int .i64 a,V.int .i64 b']).bind fun r6=>
   vl E C a b' c9 fB fW (IntKind.wrap .i64 (b'-a)) ((V.nth r6 0).toInt) ((V.nth (r6.drop 1) 0).toInt) ((((V.nth (r6.drop 1) 0).toInt):Int)==2) Ez (un fun (fX:Int)=>un fun (Sy:Int) (qk:LV)=>
    bif fB then
     bif fW then
     mO E C a b' c9 fB fW (IntKind.wrap .i64 (b'-a)) fX ((Sy:Int)==1) qk (cf (un fun (DT:Bool) (Sq:LV)=>
      kr Sq) (fun (EA:LV)=>
      bif decide ((a:Int)>0) then
       aA EA (IntKind.wrap .i64 (a-1)) fun rX=>
       aA EA fX fun ql=>
       (C E.cmp (E.ex rX++E.ex ql)).bind fun fC=>
       bif !(decide ((((V.nth fC 0).toInt):Int)<0)) then
       (C (E.k 5) [V.int .i64 a,V.int .i64 b',V.int .i64 fX,.list E.T EA]).bind fun Bm=>
       kn ((V.nth Bm 0).toInt,b',c9,fB,fW,(V.nth (Bm.drop 1) 0).toList)
       else
       (C (E.k 4) [V.int .i64 a,V.int .i64 b',V.int .i64 fX,.list E.T EA]).bind fun kJ=>
       bif decide (((IntKind.wrap .i64 (((V.nth kJ 0).toInt)-a)):Int)<(IntKind.wrap .i64 (b'-((V.nth kJ 0).toInt)))) then
        (C (E.k 12) [V.int .i64 a,V.int .i64 ((V.nth kJ 0).toInt),V.int .i64 c9,.list E.T ((V.nth (kJ.drop 2) 0).toList)]).bind fun nB=>
        kn (IntKind.wrap .i64 (((V.nth kJ 0).toInt)+1),b',c9,decide (((IntKind.wrap .i64 (((V.nth kJ 0).toInt)-a)):Int)≥(IntKind.wrap .i64 (Int.tdiv (IntKind.wrap .i64 (b'-a)) 8))),(V.nth (kJ.drop 1) 0).toBool,(V.nth nB 0).toList)
       else
        (C (E.k 12) [V.int .i64 (IntKind.wrap .i64 (((V.nth kJ 0).toInt)+1)),V.int .i64 b',V.int .i64 c9,.list E.T ((V.nth (kJ.drop 2) 0).toList)]).bind fun Sz=>
        kn (a,(V.nth kJ 0).toInt,c9,decide (((IntKind.wrap .i64 (b'-((V.nth kJ 0).toInt))):Int)≥(IntKind.wrap .i64 (Int.tdiv (IntKind.wrap .i64 (b'-a)) 8))),(V.nth (kJ.drop 1) 0).toBool,(V.nth Sz 0).toList)
      else
       (C (E.k 4) [V.int .i64 a,V.int .i64 b',V.int .i64 fX,.list E.T EA]).bind fun lV=>
       bif decide (((IntKind.wrap .i64 (((V.nth lV 0).toInt)-a)):Int)<(IntKind.wrap .i64 (b'-((V.nth lV 0).toInt)))) then
       (C (E.k 12) [V.int .i64 a,V.int .i64 ((V.nth lV 0).toInt),V.int .i64 c9,.list E.T ((V.nth (lV.drop 2) 0).toList)]).bind fun vm=>
       kn (IntKind.wrap .i64 (((V.nth lV 0).toInt)+1),b',c9,decide (((IntKind.wrap .i64 (((V.nth lV 0).toInt)-a)):Int)≥(IntKind.wrap .i64 (Int.tdiv (IntKind.wrap .i64 (b'-a)) 8))),(V.nth (lV.drop 1) 0).toBool,(V.nth vm 0).toList)
       else
       (C (E.k 12) [V.int .i64 (IntKind.wrap .i64 (((V.nth lV 0).toInt)+1)),V.int .i64 b',V.int .i64 c9,.list E.T ((V.nth (lV.drop 2) 0).toList)]).bind fun Bn=>
       kn (a,(V.nth lV 0).toInt,c9,decide (((IntKind.wrap .i64 (b'-((V.nth lV 0).toInt))):Int)≥(IntKind.wrap .i64 (Int.tdiv (IntKind.wrap .i64 (b'-a)) 8))),(V.nth (lV.drop 1) 0).toBool,(V.nth Bn 0).toList)))
     else
     mO E C a b' c9 fB fW (IntKind.wrap .i64 (b'-a)) fX false qk (cf (un fun (Y3:Bool) (alw:LV)=>
      kr alw) (fun (xI:LV)=>
      bif decide ((a:Int)>0) then
       aA xI (IntKind.wrap .i64 (a-1)) fun Sr=>
       aA xI fX fun Ss=>
       (C E.cmp (E.ex Sr++E.ex Ss)).bind fun Kq=>
       bif !(decide ((((V.nth Kq 0).toInt):Int)<0)) then
       (C (E.k 5) [V.int .i64 a,V.int .i64 b',V.int .i64 fX,.list E.T xI]).bind fun r31=>
       kn ((V.nth r31 0).toInt,b',c9,fB,fW,(V.nth (r31.drop 1) 0).toList)
       else
       (C (E.k 4) [V.int .i64 a,V.int .i64 b',V.int .i64 fX,.list E.T xI]).bind fun pj=>
       bif decide (((IntKind.wrap .i64 (((V.nth pj 0).toInt)-a)):Int)<(IntKind.wrap .i64 (b'-((V.nth pj 0).toInt)))) then
        (C (E.k 12) [V.int .i64 a,V.int .i64 ((V.nth pj 0).toInt),V.int .i64 c9,.list E.T ((V.nth (pj.drop 2) 0).toList)]).bind fun r33=>
        kn (IntKind.wrap .i64 (((V.nth pj 0).toInt)+1),b',c9,decide (((IntKind.wrap .i64 (((V.nth pj 0).toInt)-a)):Int)≥(IntKind.wrap .i64 (Int.tdiv (IntKind.wrap .i64 (b'-a)) 8))),(V.nth (pj.drop 1) 0).toBool,(V.nth r33 0).toList)
       else
        (C (E.k 12) [V.int .i64 (IntKind.wrap .i64 (((V.nth pj 0).toInt)+1)),V.int .i64 b',V.int .i64 c9,.list E.T ((V.nth (pj.drop 2) 0).toList)]).bind fun r34=>
        kn (a,(V.nth pj 0).toInt,c9,decide (((IntKind.wrap .i64 (b'-((V.nth pj 0).toInt))):Int)≥(IntKind.wrap .i64 (Int.tdiv (IntKind.wrap .i64 (b'-a)) 8))),(V.nth (pj.drop 1) 0).toBool,(V.nth r34 0).toList)
      else
       (C (E.k 4) [V.int .i64 a,V.int .i64 b',V.int .i64 fX,.list E.T xI]).bind fun pk=>
       bif decide (((IntKind.wrap .i64 (((V.nth pk 0).toInt)-a)):Int)<(IntKind.wrap .i64 (b'-((V.nth pk 0).toInt)))) then
       (C (E.k 12) [V.int .i64 a,V.int .i64 ((V.nth pk 0).toInt),V.int .i64 c9,.list E.T ((V.nth (pk.drop 2) 0).toList)]).bind fun r36=>
       kn (IntKind.wrap .i64 (((V.nth pk 0).toInt)+1),b',c9,decide (((IntKind.wrap .i64 (((V.nth pk 0).toInt)-a)):Int)≥(IntKind.wrap .i64 (Int.tdiv (IntKind.wrap .i64 (b'-a)) 8))),(V.nth (pk.drop 1) 0).toBool,(V.nth r36 0).toList)
       else
       (C (E.k 12) [V.int .i64 (IntKind.wrap .i64 (((V.nth pk 0).toInt)+1)),V.int .i64 b',V.int .i64 c9,.list E.T ((V.nth (pk.drop 2) 0).toList)]).bind fun r37=>
       kn (a,(V.nth pk 0).toInt,c9,decide (((IntKind.wrap .i64 (b'-((V.nth pk 0).toInt))):Int)≥(IntKind.wrap .i64 (Int.tdiv (IntKind.wrap .i64 (b'-a)) 8))),(V.nth (pk.drop 1) 0).toBool,(V.nth r37 0).toList)))
    else
     mO E C a b' c9 fB fW (IntKind.wrap .i64 (b'-a)) fX false qk (cf (un fun (Y8:Bool) (alx:LV)=>
      kr alx) (fun (qp:LV)=>
      bif decide ((a:Int)>0) then
      aA qp (IntKind.wrap .i64 (a-1)) fun Kt=>
      aA qp fX fun Su=>
      (C E.cmp (E.ex Kt++E.ex Su)).bind fun r43=>
      bif !(decide ((((V.nth r43 0).toInt):Int)<0)) then
       (C (E.k 5) [V.int .i64 a,V.int .i64 b',V.int .i64 fX,.list E.T qp]).bind fun r44=>
       kn ((V.nth r44 0).toInt,b',c9,fB,fW,(V.nth (r44.drop 1) 0).toList)
      else
       (C (E.k 4) [V.int .i64 a,V.int .i64 b',V.int .i64 fX,.list E.T qp]).bind fun pn=>
       bif decide (((IntKind.wrap .i64 (((V.nth pn 0).toInt)-a)):Int)<(IntKind.wrap .i64 (b'-((V.nth pn 0).toInt)))) then
       (C (E.k 12) [V.int .i64 a,V.int .i64 ((V.nth pn 0).toInt),V.int .i64 c9,.list E.T ((V.nth (pn.drop 2) 0).toList)]).bind fun r46=>
       kn (IntKind.wrap .i64 (((V.nth pn 0).toInt)+1),b',c9,decide (((IntKind.wrap .i64 (((V.nth pn 0).toInt)-a)):Int)≥(IntKind.wrap .i64 (Int.tdiv (IntKind.wrap .i64 (b'-a)) 8))),(V.nth (pn.drop 1) 0).toBool,(V.nth r46 0).toList)
       else
       (C (E.k 12) [V.int .i64 (IntKind.wrap .i64 (((V.nth pn 0).toInt)+1)),V.int .i64 b',V.int .i64 c9,.list E.T ((V.nth (pn.drop 2) 0).toList)]).bind fun SA=>
       kn (a,(V.nth pn 0).toInt,c9,decide (((IntKind.wrap .i64 (b'-((V.nth pn 0).toInt))):Int)≥(IntKind.wrap .i64 (Int.tdiv (IntKind.wrap .i64 (b'-a)) 8))),(V.nth (pn.drop 1) 0).toBool,(V.nth SA 0).toList)
      else
      (C (E.k 4) [V.int .i64 a,V.int .i64 b',V.int .i64 fX,.list E.T qp]).bind fun po=>
      bif decide (((IntKind.wrap .i64 (((V.nth po 0).toInt)-a)):Int)<(IntKind.wrap .i64 (b'-((V.nth po 0).toInt)))) then
       (C (E.k 12) [V.int .i64 a,V.int .i64 ((V.nth po 0).toInt),V.int .i64 c9,.list E.T ((V.nth (po.drop 2) 0).toList)]).bind fun r49=>
       kn (IntKind.wrap .i64 (((V.nth po 0).toInt)+1),b',c9,decide (((IntKind.wrap .i64 (((V.nth po 0).toInt)-a)):Int)≥(IntKind.wrap .i64 (Int.tdiv (IntKind.wrap .i64 (b'-a)) 8))),(V.nth (po.drop 1) 0).toBool,(V.nth r49 0).toList)
      else
       (C (E.k 12) [V.int .i64 (IntKind.wrap .i64 (((V.nth po 0).toInt)+1)),V.int .i64 b',V.int .i64 c9,.list E.T ((V.nth (po.drop 2) 0).toList)]).bind fun r50=>
       kn (a,(V.nth po 0).toInt,c9,decide (((IntKind.wrap .i64 (b'-((V.nth po 0).toInt))):Int)≥(IntKind.wrap .i64 (Int.tdiv (IntKind.wrap .i64 (b'-a)) 8))),(V.nth (po.drop 1) 0).toBool,(V.nth r50 0).toList)))))
noncomputable def aau (E:SE) (C:ae):=un fun a=>un fun b'=>un fun gX=>un fun fB=>un fun fW ao=>ph E C a b' gX fB fW ao (fun y=>some (Sum.inl y)) (fun r=>some (Sum.inr r))
noncomputable def KA (E:SE) (C:ae) (a b' gX:Int) (ao:LV):Option LV:=
 (Loop (aau E C) (a,b',gX,true,true,ao)).bind (fun (aly:LV)=>
  some [.list E.T aly])
noncomputable def KC (E:SE) (C:ae) (xs:LV):Option LV:=
 (C DE [.int .u64 (IntKind.wrap .u64 (xs.length:Int))]).bind fun r1=>
 (C (E.k 12) [V.int .i64 0,V.int .i64 (xs.length:Int),V.int .i64 ((V.nth r1 0).toInt),.list E.T xs]).bind fun r2=>
 some [.list E.T ((V.nth r2 0).toList)]
end Go.AM
set_option maxRecDepth 100000
namespace Go.AM
open Go.Proofs Go.Sort
class ax (α:Type) where
 E:SE
 enc:α→V
 cmp:α→α→Int
 re: ∀x,V.agg (E.ex (enc x))=enc x
 cs: ∀a b,CC E.cmp (E.ex (enc a)++E.ex (enc b))=some [.int .i64 (cmp a b)]
 SB:SWO (fun a b=>decide (cmp a b<0))
 SC: ∀{a b':Int} {ao:LV} {r:Option LV},Kj E CC a b' ao=r→CC (E.k 0) [.int .i64 a,.int .i64 b',.list E.T ao]=r
 SD: ∀{lo hi first:Int} {ao:LV} {r:Option LV},Kk E CC lo hi first ao=r→CC (E.k 1) [.int .i64 lo,.int .i64 hi,.int .i64 first,.list E.T ao]=r
 SF: ∀{a b':Int} {ao:LV} {r:Option LV},Kn E CC a b' ao=r→CC (E.k 2) [.int .i64 a,.int .i64 b',.list E.T ao]=r
 SG: ∀{a b':Int} {ao:LV} {r:Option LV},Ko E CC a b' ao=r→CC (E.k 3) [.int .i64 a,.int .i64 b',.list E.T ao]=r
 SH: ∀{a b' pivot:Int} {ao:LV} {r:Option LV},Kr E CC a b' pivot ao=r→CC (E.k 4) [.int .i64 a,.int .i64 b',.int .i64 pivot,.list E.T ao]=r
 SI: ∀{a b' pivot:Int} {ao:LV} {r:Option LV},Ku E CC a b' pivot ao=r→CC (E.k 5) [.int .i64 a,.int .i64 b',.int .i64 pivot,.list E.T ao]=r
 SJ: ∀{a b':Int} {ao:LV} {r:Option LV},Kv E CC a b' ao=r→CC (E.k 6) [.int .i64 a,.int .i64 b',.list E.T ao]=r
 SK: ∀{a b':Int} {ao:LV} {r:Option LV},Kx E CC a b' ao=r→CC (E.k 7) [.int .i64 a,.int .i64 b',.list E.T ao]=r
 SL: ∀{data:LV} {a b' c dR:Int} {r:Option LV},Ky E CC data a b' c dR=r→CC (E.k 8) [.list E.T data,.int .i64 a,.int .i64 b',.int .i64 c,.int .i64 dR]=r
 SM: ∀{data:LV} {a dR:Int} {r:Option LV},Kz E CC data a dR=r→CC (E.k 9) [.list E.T data,.int .i64 a,.int .i64 dR]=r
 KD: ∀{data:LV} {a b' dR:Int} {r:Option LV},Ew E CC data a b' dR=r→CC (E.k 10) [.list E.T data,.int .i64 a,.int .i64 b',.int .i64 dR]=r
 KE: ∀{data:LV} {a b':Int} {r:Option LV},Ey E CC data a b'=r→CC (E.k 11) [.list E.T data,.int .i64 a,.int .i64 b']=r
 SN: ∀{a b' gX:Int} {ao:LV} {r:Option LV},KA E CC a b' gX ao=r→CC (E.k 12) [.int .i64 a,.int .i64 b',.int .i64 gX,.list E.T ao]=r
 SO: ∀{xs:LV} {r:Option LV},KC E CC xs=r→CC (E.k 13) [.list E.T xs]=r
end Go.AM
set_option maxRecDepth 100000
set_option maxHeartbeats 4000000
namespace Go.AM
open Go.Proofs Go.Sort
variable {α:Type} [ax α]
def aH (a b:α):Bool:=decide (ax.cmp a b<0)
theorem vn (a b:α):(aH a b=true)=(ax.cmp a b<0):=by unfold aH;rw[dC]
theorem tG (a b:α):((!aH a b)=true)= ¬(ax.cmp a b<0):=by unfold aH;simp
abbrev eA (d:Array α):List V:=rV ax.enc d
theorem KF {β:Type} {d:Array α} {i:Nat} {k:Int} {v:V} {x:Option β} (h:i<d.size:=by omega):aA (bn (eA d) k v) (i:Int) (fun _=>x)=x:=by
 unfold aA bn;rw[nJ,iw,bQ,au,aF,au,aF,Int.toNat_natCast,cq (by rw[nJ,iw];exact h)];rfl
variable [Inhabited α]
theorem alz (a j:Nat) (d:Array α):insInner aH a (j+1) d=if j+1>a then (if ax.cmp d[j+1]! d[j]! <0 then insInner aH a j (swp d (j+1) j) else d) else d:=by
 rw[aar]
 by_cases h1:j+1>a
 ·rw[ai h1];simp only[h1,pA,ki,vn]
 ·rw[aj h1,aj (by simp[h1])]
theorem SP (hi first root:Nat) (d:Array α):siftDown aH hi first root d=
  if 2*root+1≥hi then d else
   if 2*root+2<hi then
    (if ax.cmp d[first+(2*root+1)]! d[first+(2*root+2)]! <0 then
     (if ax.cmp d[first+root]! d[first+(2*root+2)]! <0 then siftDown aH hi first (2*root+2) (swp d (first+root) (first+(2*root+2))) else d)
    else (if ax.cmp d[first+root]! d[first+(2*root+1)]! <0 then siftDown aH hi first (2*root+1) (swp d (first+root) (first+(2*root+1))) else d))
   else (if ax.cmp d[first+root]! d[first+(2*root+1)]! <0 then siftDown aH hi first (2*root+1) (swp d (first+root) (first+(2*root+1))) else d):=by
 rw[siftDown]
 by_cases h1:2*root+1≥hi
 ·rw[tU h1,ai h1]
 rw[dif_neg h1,aj h1]
 by_cases h2:2*root+2<hi
 ·rw[ai h2]
  by_cases h3:ax.cmp d[first+(2*root+1)]! d[first+(2*root+2)]! <0
  ·rw[ai h3,ai (by simp only[aT,dC,vn];exact ⟨h2,h3⟩)]
   simp only[tG]
   by_cases h4:ax.cmp d[first+root]! d[first+(2*root+2)]! <0
   ·rw[aj (pG h4),tU h2,ai h4]
   ·rw[ai h4,aj h4]
  ·rw[aj h3,aj (by simp only[aT,dC,vn];exact fun h=>h3 h.2)]
   simp only[tG]
   by_cases h4:ax.cmp d[first+root]! d[first+(2*root+1)]! <0
   ·rw[aj (pG h4),ai h4]
   ·rw[ai h4,aj h4]
 ·rw[aj h2,aj (by simp only[aT,dC,vn];exact fun h=>h2 h.1)]
  simp only[tG]
  by_cases h4:ax.cmp d[first+root]! d[first+(2*root+1)]! <0
  ·rw[aj (pG h4),ai h4]
  ·rw[ai h4,aj h4]
theorem aav {a b i:Nat}: ∀(j:Nat) (d:Array α),j<d.size→d.size<1152921504606846976→
  ∃j' t,Loop (A9 (ax.E α) CC a b i) ((j:Int),eA d)=some (j',t,eA (insInner aH a j d))
 | 0,d,hj,hs=>⟨(0:Nat),false,br (by
   simp (disch:=omega) only[A9,ve,un,au,aj]
   rfl)⟩
 | j+1,d,hj,hs=>by
  obtain ⟨j',t,ih⟩:=aav (a:=a) (b:=b) (i:=i) j (swp d (j+1) j) (by rw[size_swp];omega) (by rw[size_swp];omega)
  rw[alz]
  by_cases h1:j+1>a
  ·rw[ai h1]
   have e:A9 (ax.E α) CC a b i (((j+1:Nat):Int),eA d)=if ax.cmp d[j+1]! d[j]! <0 then some (.inl ((j:Int),eA (swp d (j+1) j))) else some (.inr (((j+1:Nat):Int),decide (ax.cmp d[j+1]! d[j]! <0),eA d)):=by
    simp (disch:=omega) only[A9,ve,un,au,bQ,gz,ai,aj,wrap64,eu,gW,Int.toNat_natCast,Option.bind_some,iw,iy,ax.re,gU,jD,iM,ax.cs,V.az,V.toInt_int,cond_true,cond_false,xE]
    rfl
   by_cases h2:ax.cmp d[j+1]! d[j]! <0
   ·rw[ai h2] at e⊢
    exact ⟨j',t,(bS e).trans ih⟩
   ·rw[aj h2] at e⊢
    exact ⟨_,_,br e⟩
  ·rw[aj h1]
   exact ⟨((j+1:Nat):Int),false,br (by
    simp (disch:=omega) only[A9,ve,un,au,aj])⟩
theorem alA {a b:Nat}: ∀(n i:Nat) (d:Array α),b-i=n→b≤d.size→d.size<1152921504606846976→
  ∃j' t,Loop (Ki (ax.E α) CC a b) ((i:Int),eA d)=some (j',t,eA (insOuter aH a b i d)):=by
 intro n
 induction n with
 | zero=>
  intro i d hn hb hs
  rw[insOuter,aD]
  exact ⟨(i:Int),false,br (by
   simp (disch:=omega) only[Ki,xF,un,vd,cond_false])⟩
 | succ n ih=>
  intro i d hn hb hs
  obtain ⟨j1,t1,h1⟩:=aav (a:=a) (b:=b) (i:=i) i d (by omega) hs
  obtain ⟨j',t,h2⟩:=ih (i+1) (insInner aH a i d) (by omega) (by rw[So];omega) (by rw[So];omega)
  rw[insOuter,aF]
  refine ⟨j',t,(bS ?_).trans h2⟩
  simp (disch:=omega) only[Ki,xF,un,au,ai,h1,Option.bind_some,eu,wrap64]
theorem aaw {a b:Nat} {d:Array α} (hb:b≤d.size) (hs:d.size<1152921504606846976) (ha:a<1152921504606846976):
  CC ((ax.E α).k 0) [.int .i64 (a:Int),.int .i64 (b:Int),.list (ax.E α).T (eA d)]=some [.list (ax.E α).T (eA (insertionSort aH d a b))]:=by
 refine ax.SC ?_
 unfold Kj
 obtain ⟨j',t,h⟩:=alA (a:=a) (b:=b) _ (a+1) d rfl hb hs
 simp (disch:=omega) only[eu,wrap64]
 rw[h]
 rfl
theorem alB (hi first:Nat): ∀(n root:Nat) (d:Array α),hi-root≤n→root<1152921504606846976→first+hi≤d.size→d.size<1152921504606846976→
  (∃x y z,Loop (qm (ax.E α) CC hi first) ((root:Int),eA d)=some (.inl (x,y,z,eA (siftDown aH hi first root d))))∨
  (∃x y z,Loop (qm (ax.E α) CC hi first) ((root:Int),eA d)=some (.inr (x,y,z,eA (siftDown aH hi first root d)))):=by
 intro n
 induction n with
 | zero=>
  intro root d hn hr hb hs
  rw[SP,aF]
  exact .inl ⟨(root:Int),((root*2+1:Nat):Int),true,br (by
   simp (disch:=omega) only[qm,rW,un,Eh,eu,wrap64];rw[pf (by omega)];rfl)⟩
 | succ n ih=>
  intro root d hn hr hb hs
  by_cases h1:2*root+1≥hi
  ·rw[SP,ai h1]
   exact .inl ⟨(root:Int),((root*2+1:Nat):Int),true,br (by
    simp (disch:=omega) only[qm,rW,un,Eh,eu,wrap64];rw[pf (by omega)];rfl)⟩
  ·have go: ∀c:Nat,c<hi→root<c→(qm (ax.E α) CC hi first ((root:Int),eA d)=
      if ax.cmp d[first+root]! d[first+c]! <0 then some (.inl ((c:Int),eA (swp d (first+root) (first+c)))) else some (.inr (.inr ((root:Int),(c:Int),true,eA d))))→
     siftDown aH hi first root d=(if ax.cmp d[first+root]! d[first+c]! <0 then siftDown aH hi first c (swp d (first+root) (first+c)) else d)→
     ((∃x y z,Loop (qm (ax.E α) CC hi first) ((root:Int),eA d)=some (.inl (x,y,z,eA (siftDown aH hi first root d))))∨
     (∃x y z,Loop (qm (ax.E α) CC hi first) ((root:Int),eA d)=some (.inr (x,y,z,eA (siftDown aH hi first root d))))):=by
    intro c hc hrc e1 e2
    rw[e2]
    by_cases h3:ax.cmp d[first+root]! d[first+c]! <0
    ·rw[ai h3] at e1
     rw[ai h3,bS e1]
     exact ih c _ (by omega) (by omega) (by rw[size_swp];omega) (by rw[size_swp];omega)
    ·rw[aj h3] at e1
     rw[aj h3,br e1]
     exact .inr ⟨_,_,_,rfl⟩
   have e0:=SP hi first root d
   rw[aj h1] at e0
   by_cases h2:2*root+2<hi
   ·rw[ai h2] at e0
    by_cases h3:ax.cmp d[first+(2*root+1)]! d[first+(2*root+2)]! <0
    ·rw[ai h3] at e0
     refine go (2*root+2) (by omega) (by omega) ?_ e0
     rw[l9 2 root] at h3
     simp (disch:=omega) only[qm,rW,un,Eh,eu,gW,wrap64]
     rw[au,aD,au,aF]
     simp (disch:=omega) only[tD,au,bQ,gz,ai,aj,wrap64,eu,gW,Int.toNat_natCast,Option.bind_some,iw,iy,ax.re,gU,jD,iM,ax.cs,V.az,V.toInt_int,cond_true,cond_false,l9 2 root,pf]
     by_cases h4:ax.cmp d[first+root]! d[first+(root*2+2)]! <0
     ·simp only[h4,cL];rfl
     ·simp only[h4,ga];rfl
    ·rw[aj h3] at e0
     refine go (2*root+1) (by omega) (by omega) ?_ e0
     rw[l9 2 root] at h3
     simp (disch:=omega) only[qm,rW,un,Eh,eu,gW,wrap64]
     rw[au,aD,au,aF]
     simp (disch:=omega) only[tD,au,bQ,gz,ai,aj,wrap64,eu,gW,Int.toNat_natCast,Option.bind_some,iw,iy,ax.re,gU,jD,iM,ax.cs,V.az,V.toInt_int,cond_true,cond_false,l9 2 root,vd]
     by_cases h4:ax.cmp d[first+root]! d[first+(root*2+1)]! <0
     ·simp only[h4,cL];rfl
     ·simp only[h4,ga];rfl
   ·rw[aj h2] at e0
    refine go (2*root+1) (by omega) (by omega) ?_ e0
    simp (disch:=omega) only[qm,rW,un,Eh,eu,gW,wrap64]
    rw[au,aD,au,aD]
    simp (disch:=omega) only[tD,au,bQ,gz,ai,aj,wrap64,eu,gW,Int.toNat_natCast,Option.bind_some,iw,iy,ax.re,gU,jD,iM,ax.cs,V.az,V.toInt_int,cond_true,cond_false,l9 2 root]
    by_cases h4:ax.cmp d[first+root]! d[first+(root*2+1)]! <0
    ·simp only[h4,cL];rfl
    ·simp only[h4,ga];rfl
theorem aax {lo hi first:Nat} {d:Array α} (hl:lo<1152921504606846976) (hb:first+hi≤d.size) (hs:d.size<1152921504606846976):
  CC ((ax.E α).k 1) [.int .i64 (lo:Int),.int .i64 (hi:Int),.int .i64 (first:Int),.list (ax.E α).T (eA d)]=some [.list (ax.E α).T (eA (siftDown aH hi first lo d))]:=by
 refine ax.SD ?_
 unfold Kk
 rcases alB hi first _ lo d (bC _) hl hb hs with ⟨x,y,z,h⟩|⟨x,y,z,h⟩
 ·rw[h];rfl
 ·rw[h];rfl
theorem aay {hi first:Nat}: ∀(k:Nat) (d:Array α),k<1152921504606846976→first+hi≤d.size→d.size<1152921504606846976→
  ∃x y,Loop (Kl (ax.E α) CC first 0 hi) ((k:Int)-1,eA d)=some (x,y,eA (heapBuild aH hi first k d))
 | 0,d,hk,hb,hs=>⟨-1,false,br (by
   simp (disch:=omega) only[Kl,xJ,un,au,aj]
   rfl)⟩
 | k+1,d,hk,hb,hs=>by
  obtain ⟨x,y,ih⟩:=aay (hi:=hi) (first:=first) k (siftDown aH hi first k d) (by omega) (by rw[Ei _ _ _ _ _ (bC _)];omega) (by rw[Ei _ _ _ _ _ (bC _)];omega)
  refine ⟨x,y,(bS ?_).trans ih⟩
  simp (disch:=omega) only[Kl,xJ,un,au,ai,xE,aax,Option.bind_some,V.az,V.bK,wrap64]
theorem aaz {first:Nat}: ∀(k:Nat) (d:Array α),k<1152921504606846976→first+k≤d.size→d.size<1152921504606846976→
  ∃x y,Loop (Km (ax.E α) CC first 0) ((k:Int)-1,eA d)=some (x,y,eA (heapPop aH first k d))
 | 0,d,hk,hb,hs=>⟨-1,false,br (by
   simp (disch:=omega) only[Km,xK,un,au,aj]
   rfl)⟩
 | k+1,d,hk,hb,hs=>by
  obtain ⟨x,y,ih⟩:=aaz (first:=first) k (siftDown aH k first 0 (swp d first (first+k))) (by omega) (by rw[Ei _ _ _ _ _ (bC _),size_swp];omega) (by rw[Ei _ _ _ _ _ (bC _),size_swp];omega)
  refine ⟨x,y,(bS ?_).trans ih⟩
  have mq:=aax (lo:=0) (hi:=k) (first:=first) (d:=swp d first (first+k)) (by omega) (by rw[size_swp];omega) (by rw[size_swp];omega)
  unfold swp at mq⊢
  rw[show ((0:Nat):Int)=0 from rfl] at mq
  simp (disch:=omega) only[Km,xK,un,xE,au,bQ,gz,ai,aj,wrap64,eu,gW,Int.toNat_natCast,Option.bind_some,iw,iy,ax.re,gU,jD,iM,ax.cs,V.az,V.toInt_int,cond_true,cond_false]
  rw[mq]
  simp (disch:=omega) only[Option.bind_some,V.az,V.bK,wrap64]
theorem alC {a b:Nat} {d:Array α} (gg:a<b) (hb:b≤d.size) (hs:d.size<1152921504606846976):
  CC ((ax.E α).k 2) [.int .i64 (a:Int),.int .i64 (b:Int),.list (ax.E α).T (eA d)]=some [.list (ax.E α).T (eA (heapSort aH d a b))]:=by
 refine ax.SF ?_
 unfold Kn
 obtain ⟨x,y,h1⟩:=aay (hi:=b-a) (first:=a) ((b-a-1)/2+1) d (by omega) (by omega) hs
 obtain ⟨x2,y2,h2⟩:=aaz (first:=a) (b-a) (heapBuild aH (b-a) a ((b-a-1)/2+1) d) (by omega) (by rw[Sp];omega) (by rw[Sp];omega)
 have e1:((((b-a-1)/2+1:Nat):Int)-1)=Int.tdiv (((b-a:Nat):Int)-1) 2:=by
  rw[Int.tdiv_eq_ediv_of_nonneg (by omega)]
  omega
 rw[e1] at h1
 simp (disch:=omega) only[oq,wrap64]
 rw[h1]
 simp only[Option.bind_some,un]
 rw[h2]
 rfl
theorem alD: ∀(n i j:Nat) (d:Array α),j-i≤n→j<d.size→d.size<1152921504606846976→
  ∃x y z,Loop (El (ax.E α) CC) ((i:Int),(j:Int),eA d)=some (x,y,z,eA (reverseLoop i j d)):=by
 intro n
 induction n with
 | zero=>
  intro i j d hn hj hs
  rw[reverseLoop,aD]
  exact ⟨(i:Int),(j:Int),false,br (by
   simp (disch:=omega) only[El,vf,un,vd,cond_false])⟩
 | succ n ih=>
  intro i j d hn hj hs
  rw[reverseLoop]
  by_cases h:i<j
  ·rw[ai h]
   obtain ⟨x,y,z,h2⟩:=ih (i+1) (j-1) (swp d i j) (by omega) (by rw[size_swp];omega) (by rw[size_swp];omega)
   refine ⟨x,y,z,(bS ?_).trans h2⟩
   simp (disch:=omega) only[El,vf,un,au,bQ,gz,ai,aj,wrap64,eu,gW,Int.toNat_natCast,Option.bind_some,iw,iy,ax.re,gU,jD,iM,ax.cs,V.az,V.toInt_int,cond_true,cond_false,lU]
   rfl
  ·rw[aj h]
   exact ⟨(i:Int),(j:Int),false,br (by
    simp (disch:=omega) only[El,vf,un,vd,cond_false])⟩
theorem alE {a b:Nat} {d:Array α} (gg:a<b) (hb:b≤d.size) (hs:d.size<1152921504606846976):
  CC ((ax.E α).k 3) [.int .i64 (a:Int),.int .i64 (b:Int),.list (ax.E α).T (eA d)]=some [.list (ax.E α).T (eA (reverseRange d a b))]:=by
 refine ax.SG ?_
 unfold Ko
 obtain ⟨x,y,z,h⟩:=alD _ a (b-1) d (bC _) (by omega) hs
 simp (disch:=omega) only[lU,wrap64]
 rw[h]
 rfl
variable {α:Type} [Inhabited α] [ax α]
theorem KG (d:Array α) (b i:Nat):scanSorted aH d b i=if i<b then (if ax.cmp d[i]! d[i-1]! <0 then i else scanSorted aH d b (i+1)) else i:=by
 conv=>lhs;rw[scanSorted]
 by_cases h:i<b
 ·rw[ai h];simp only[h,pA,ki,tG]
  by_cases h2:ax.cmp d[i]! d[i-1]! <0
  ·rw[aj (pG h2),ai h2]
  ·rw[ai h2,aj h2]
 ·rw[aj h,aj (by simp[h])]
theorem aaA (j:Nat) (d:Array α):shiftDown aH (j+1) d=if ax.cmp d[j+1]! d[j]! <0 then shiftDown aH j (swp d (j+1) j) else d:=by
 conv=>lhs;rw[shiftDown]
 simp only[tG]
 by_cases h2:ax.cmp d[j+1]! d[j]! <0
 ·rw[aj (pG h2),ai h2]
 ·rw[ai h2,aj h2]
theorem KH (b j:Nat) (d:Array α):shiftUp aH b j d=if j<b then (if ax.cmp d[j]! d[j-1]! <0 then shiftUp aH b (j+1) (swp d j (j-1)) else d) else d:=by
 conv=>lhs;rw[shiftUp]
 simp only[tG]
 by_cases h:j<b
 ·rw[ai h,ai h]
  by_cases h2:ax.cmp d[j]! d[j-1]! <0
  ·rw[aj (pG h2),ai h2]
  ·rw[ai h2,aj h2]
 ·rw[aj h,aj h]
theorem alF {a:Nat}: ∀(n i j:Nat) (d:Array α),j+1-i≤n→(partLoop aH a i j d).2.size=d.size∧(partLoop aH a i j d).1≤j:=by
 intro n
 induction n with
 | zero=>
  intro i j d hn
  have h1:=scanUp_ge (fun x=>aH x d[a]!) d j i
  have h2:=scanDown_le (fun x=> !aH x d[a]!) d (scanUp (fun x=>aH x d[a]!) d j i) j
  rw[partLoop_eq,aF]
  exact ⟨rfl,h2⟩
 | succ n ih=>
  intro i j d hn
  rw[partLoop_eq]
  have h1:=scanUp_ge (fun x=>aH x d[a]!) d j i
  have h2:=scanDown_le (fun x=> !aH x d[a]!) d (scanUp (fun x=>aH x d[a]!) d j i) j
  split
  ·exact ⟨rfl,h2⟩
  ·obtain ⟨h3,h4⟩:=ih (scanUp (fun x=>aH x d[a]!) d j i+1) (scanDown (fun x=> !aH x d[a]!) d (scanUp (fun x=>aH x d[a]!) d j i) j-1) (swp d (scanUp (fun x=>aH x d[a]!) d j i) (scanDown (fun x=> !aH x d[a]!) d (scanUp (fun x=>aH x d[a]!) d j i) j)) (by omega)
   exact ⟨by rw[h3,size_swp],by omega⟩
theorem lW {β:Type} {d:Array α} {i:Nat} {f:V→Option β} (h:i<d.size:=by omega):aA (eA d) (i:Int) f=f (ax.enc (d[i]!)):=by
 unfold aA;rw[iw,bQ,au,aF,au,aF,Int.toNat_natCast,iy h];rfl
theorem alG {a j:Nat} {d:Array α} (ha:a<d.size) (hj:j<d.size) (hs:d.size<1152921504606846976): ∀(n i:Nat),j+1-i=n→i≤d.size→
  ∃t,Loop (Em (ax.E α) CC a j (eA d)) (i:Int)=some (((scanUp (fun x=>aH x d[a]!) d j i:Nat):Int),t):=by
 intro n
 induction n with
 | zero=>
  intro i hn hi
  rw[A8,aD]
  exact ⟨false,br (by simp (disch:=omega) only[Em,xL,au,aj])⟩
 | succ n ih=>
  intro i hn hi
  obtain ⟨t,h⟩:=ih (i+1) (by omega) (by omega)
  rw[A8,aF]
  have e:Em (ax.E α) CC a j (eA d) (i:Int)=if ax.cmp d[i]! d[a]! <0 then some (.inl ((i+1:Nat):Int)) else some (.inr ((i:Int),decide (ax.cmp d[i]! d[a]! <0))):=by
   simp (disch:=omega) only[Em,xL,au,bQ,gz,ai,aj,wrap64,eu,gW,Int.toNat_natCast,Option.bind_some,iw,iy,ax.re,gU,jD,iM,ax.cs,V.az,V.toInt_int,cond_true,cond_false]
  simp only[vn]
  by_cases h2:ax.cmp d[i]! d[a]! <0
  ·rw[ai h2] at e
   rw[ai h2]
   exact ⟨t,(bS e).trans h⟩
  ·rw[aj h2] at e
   rw[aj h2]
   exact ⟨_,br e⟩
theorem aaB {a j:Nat} {d:Array α} (ha:a<d.size) (hj:j<d.size) (hs:d.size<1152921504606846976): ∀(n i:Nat),j+1-i=n→i≤d.size→
  ∃t,Loop (En (ax.E α) CC a j (eA d)) (i:Int)=some (((scanUp (fun x=>aH x d[a]!) d j i:Nat):Int),t):=by
 intro n
 induction n with
 | zero=>
  intro i hn hi
  rw[A8,aD]
  exact ⟨false,br (by simp (disch:=omega) only[En,xM,au,aj])⟩
 | succ n ih=>
  intro i hn hi
  obtain ⟨t,h⟩:=ih (i+1) (by omega) (by omega)
  rw[A8,aF]
  have e:En (ax.E α) CC a j (eA d) (i:Int)=if ax.cmp d[i]! d[a]! <0 then some (.inl ((i+1:Nat):Int)) else some (.inr ((i:Int),decide (ax.cmp d[i]! d[a]! <0))):=by
   simp (disch:=omega) only[En,xM,au,bQ,gz,ai,aj,wrap64,eu,gW,Int.toNat_natCast,Option.bind_some,iw,iy,ax.re,gU,jD,iM,ax.cs,V.az,V.toInt_int,cond_true,cond_false]
  simp only[vn]
  by_cases h2:ax.cmp d[i]! d[a]! <0
  ·rw[ai h2] at e
   rw[ai h2]
   exact ⟨t,(bS e).trans h⟩
  ·rw[aj h2] at e
   rw[aj h2]
   exact ⟨_,br e⟩
theorem aaC {a i:Nat} {d:Array α} (ha:a<d.size) (hi:1≤i) (hs:d.size<1152921504606846976): ∀(j:Nat),j<d.size→
  ∃t,Loop (Bd (ax.E α) CC a i (eA d)) (j:Int)=some (((scanDown (fun x=> !aH x d[a]!) d i j:Nat):Int),t)
 | 0,hj=>⟨false,br (by simp (disch:=omega) only[Bd,vg,au,aj];rfl)⟩
 | j+1,hj=>by
  obtain ⟨t,h⟩:=aaC ha hi hs j (by omega)
  rw[Sn]
  by_cases h1:i≤j+1
  ·rw[ai h1]
   have e:Bd (ax.E α) CC a i (eA d) ((j+1:Nat):Int)=if ax.cmp d[j+1]! d[a]! <0 then some (.inr (((j+1:Nat):Int),!decide (ax.cmp d[j+1]! d[a]! <0))) else some (.inl (j:Int)):=by
    simp (disch:=omega) only[Bd,vg,au,bQ,gz,ai,aj,wrap64,eu,gW,Int.toNat_natCast,Option.bind_some,iw,iy,ax.re,gU,jD,iM,ax.cs,V.az,V.toInt_int,cond_true,cond_false,xE]
   simp only[tG]
   by_cases h2:ax.cmp d[j+1]! d[a]! <0
   ·rw[ai h2] at e
    rw[aj (pG h2)]
    exact ⟨_,br e⟩
   ·rw[aj h2] at e
    rw[ai h2]
    exact ⟨t,(bS e).trans h⟩
  ·rw[aj h1]
   exact ⟨false,br (by simp (disch:=omega) only[Bd,vg,au,aj])⟩
theorem qq {a i:Nat} {d:Array α} (ha:a<d.size) (hi:1≤i) (hs:d.size<1152921504606846976): ∀(j:Nat),j<d.size→
  ∃t,Loop (Be (ax.E α) CC a i (eA d)) (j:Int)=some (((scanDown (fun x=> !aH x d[a]!) d i j:Nat):Int),t)
 | 0,hj=>⟨false,br (by simp (disch:=omega) only[Be,vh,au,aj];rfl)⟩
 | j+1,hj=>by
  obtain ⟨t,h⟩:=qq ha hi hs j (by omega)
  rw[Sn]
  by_cases h1:i≤j+1
  ·rw[ai h1]
   have e:Be (ax.E α) CC a i (eA d) ((j+1:Nat):Int)=if ax.cmp d[j+1]! d[a]! <0 then some (.inr (((j+1:Nat):Int),!decide (ax.cmp d[j+1]! d[a]! <0))) else some (.inl (j:Int)):=by
    simp (disch:=omega) only[Be,vh,au,bQ,gz,ai,aj,wrap64,eu,gW,Int.toNat_natCast,Option.bind_some,iw,iy,ax.re,gU,jD,iM,ax.cs,V.az,V.toInt_int,cond_true,cond_false,xE]
   simp only[tG]
   by_cases h2:ax.cmp d[j+1]! d[a]! <0
   ·rw[ai h2] at e
    rw[aj (pG h2)]
    exact ⟨_,br e⟩
   ·rw[aj h2] at e
    rw[ai h2]
    exact ⟨t,(bS e).trans h⟩
  ·rw[aj h1]
   exact ⟨false,br (by simp (disch:=omega) only[Be,vh,au,aj])⟩
theorem aaD {a j:Nat} {d:Array α} (ha:a<d.size) (hj:j<d.size) (hs:d.size<1152921504606846976): ∀(n i:Nat),j+1-i=n→i≤d.size→
  ∃t,Loop (Er (ax.E α) CC a j (eA d)) (i:Int)=some (((scanUp (fun x=> !aH d[a]! x) d j i:Nat):Int),t):=by
 intro n
 induction n with
 | zero=>
  intro i hn hi
  rw[A8,aD]
  exact ⟨false,br (by simp (disch:=omega) only[Er,xP,au,aj])⟩
 | succ n ih=>
  intro i hn hi
  obtain ⟨t,h⟩:=ih (i+1) (by omega) (by omega)
  rw[A8,aF]
  have e:Er (ax.E α) CC a j (eA d) (i:Int)=if ax.cmp d[a]! d[i]! <0 then some (.inr ((i:Int),!decide (ax.cmp d[a]! d[i]! <0))) else some (.inl ((i+1:Nat):Int)):=by
   simp (disch:=omega) only[Er,xP,au,bQ,gz,ai,aj,wrap64,eu,gW,Int.toNat_natCast,Option.bind_some,iw,iy,ax.re,gU,jD,iM,ax.cs,V.az,V.toInt_int,cond_true,cond_false]
  simp only[tG]
  by_cases h2:ax.cmp d[a]! d[i]! <0
  ·rw[ai h2] at e
   rw[aj (pG h2)]
   exact ⟨_,br e⟩
  ·rw[aj h2] at e
   rw[ai h2]
   exact ⟨t,(bS e).trans h⟩
theorem SQ {a i:Nat} {d:Array α} (ha:a<d.size) (hi:1≤i) (hs:d.size<1152921504606846976): ∀(j:Nat),j<d.size→
  ∃t,Loop (Bh (ax.E α) CC a i (eA d)) (j:Int)=some (((scanDown (fun x=>aH d[a]! x) d i j:Nat):Int),t)
 | 0,hj=>⟨false,br (by simp (disch:=omega) only[Bh,vi,au,aj];rfl)⟩
 | j+1,hj=>by
  obtain ⟨t,h⟩:=SQ ha hi hs j (by omega)
  rw[Sn]
  by_cases h1:i≤j+1
  ·rw[ai h1]
   have e:Bh (ax.E α) CC a i (eA d) ((j+1:Nat):Int)=if ax.cmp d[a]! d[j+1]! <0 then some (.inl (j:Int)) else some (.inr (((j+1:Nat):Int),decide (ax.cmp d[a]! d[j+1]! <0))):=by
    simp (disch:=omega) only[Bh,vi,au,bQ,gz,ai,aj,wrap64,eu,gW,Int.toNat_natCast,Option.bind_some,iw,iy,ax.re,gU,jD,iM,ax.cs,V.az,V.toInt_int,cond_true,cond_false,xE]
   simp only[vn]
   by_cases h2:ax.cmp d[a]! d[j+1]! <0
   ·rw[ai h2] at e
    rw[ai h2]
    exact ⟨t,(bS e).trans h⟩
   ·rw[aj h2] at e
    rw[aj h2]
    exact ⟨_,br e⟩
  ·rw[aj h1]
   exact ⟨false,br (by simp (disch:=omega) only[Bh,vi,au,aj])⟩
theorem alH {a:Nat}: ∀(n i j:Nat) (d:Array α),j+1-i≤n→1≤i→i≤d.size→a<d.size→j<d.size→d.size<1152921504606846976→
  ∃x z,Loop (Bf (ax.E α) CC a) ((i:Int),(j:Int),eA d)=some (x,(((partLoop aH a i j d).1:Nat):Int),z,eA (partLoop aH a i j d).2):=by
 intro n
 induction n with
 | zero=>
  intro i j d hn h1 h2 ha hj hs
  obtain ⟨t3,e3⟩:=aaB (a:=a) ha hj hs _ i rfl h2
  have g1:=scanUp_ge (fun x=>aH x d[a]!) d j i
  have g2:=scanDown_le (fun x=> !aH x d[a]!) d (scanUp (fun x=>aH x d[a]!) d j i) j
  obtain ⟨t4,e4⟩:=qq (a:=a) (i:=scanUp (fun x=>aH x d[a]!) d j i) ha (by omega) hs j hj
  rw[partLoop_eq,aF]
  refine ⟨((scanUp (fun x=>aH x d[a]!) d j i:Nat):Int),true,br ?_⟩
  simp only[Bf,xN,un]
  rw[e3]
  simp only[Option.bind_some,un]
  rw[e4]
  simp (disch:=omega) only[Option.bind_some,un,pf,cond_true]
 | succ n ih=>
  intro i j d hn h1 h2 ha hj hs
  obtain ⟨t3,e3⟩:=aaB (a:=a) ha hj hs _ i rfl h2
  have g1:=scanUp_ge (fun x=>aH x d[a]!) d j i
  have g2:=scanDown_le (fun x=> !aH x d[a]!) d (scanUp (fun x=>aH x d[a]!) d j i) j
  obtain ⟨t4,e4⟩:=qq (a:=a) (i:=scanUp (fun x=>aH x d[a]!) d j i) ha (by omega) hs j hj
  rw[partLoop_eq]
  have f:Bf (ax.E α) CC a ((i:Int),(j:Int),eA d)=Bf (ax.E α) CC a ((i:Int),(j:Int),eA d):=rfl
  conv at f=>rhs;simp only[Bf,xN,un];rw[e3];simp only[Option.bind_some,un];rw[e4];simp only[Option.bind_some,un]
  generalize fv:scanUp (fun x=>aH x d[a]!) d j i=i2 at*
  generalize jq:scanDown (fun x=> !aH x d[a]!) d i2 j=j2 at*
  by_cases h:i2>j2
  ·rw[ai h]
   refine ⟨(i2:Int),true,br (f.trans ?_)⟩
   simp (disch:=omega) only[Option.bind_some,pf,cond_true]
  ·rw[aj h]
   obtain ⟨x,z,e⟩:=ih (i2+1) (j2-1) (swp d i2 j2) (by omega) (by omega) (by rw[size_swp];omega) (by rw[size_swp];omega) (by rw[size_swp];omega) (by rw[size_swp];omega)
   refine ⟨x,z,(bS (f.trans ?_)).trans e⟩
   simp (disch:=omega) only[au,bQ,gz,ai,aj,wrap64,eu,gW,Int.toNat_natCast,Option.bind_some,iw,iy,ax.re,gU,jD,iM,ax.cs,V.az,V.toInt_int,cond_true,cond_false,lU]
   rfl
theorem alI (d:Array α) (a b pivot:Nat):partition aH d a b pivot=
  if scanUp (fun x=>aH x (swp d a pivot)[a]!) (swp d a pivot) (b-1) (a+1)>scanDown (fun x=> !aH x (swp d a pivot)[a]!) (swp d a pivot) (scanUp (fun x=>aH x (swp d a pivot)[a]!) (swp d a pivot) (b-1) (a+1)) (b-1) then
   (scanDown (fun x=> !aH x (swp d a pivot)[a]!) (swp d a pivot) (scanUp (fun x=>aH x (swp d a pivot)[a]!) (swp d a pivot) (b-1) (a+1)) (b-1),true,swp (swp d a pivot) (scanDown (fun x=> !aH x (swp d a pivot)[a]!) (swp d a pivot) (scanUp (fun x=>aH x (swp d a pivot)[a]!) (swp d a pivot) (b-1) (a+1)) (b-1)) a)
  else
   ((partLoop aH a (scanUp (fun x=>aH x (swp d a pivot)[a]!) (swp d a pivot) (b-1) (a+1)+1) (scanDown (fun x=> !aH x (swp d a pivot)[a]!) (swp d a pivot) (scanUp (fun x=>aH x (swp d a pivot)[a]!) (swp d a pivot) (b-1) (a+1)) (b-1)-1) (swp (swp d a pivot) (scanUp (fun x=>aH x (swp d a pivot)[a]!) (swp d a pivot) (b-1) (a+1)) (scanDown (fun x=> !aH x (swp d a pivot)[a]!) (swp d a pivot) (scanUp (fun x=>aH x (swp d a pivot)[a]!) (swp d a pivot) (b-1) (a+1)) (b-1)))).1,false,
    swp (partLoop aH a (scanUp (fun x=>aH x (swp d a pivot)[a]!) (swp d a pivot) (b-1) (a+1)+1) (scanDown (fun x=> !aH x (swp d a pivot)[a]!) (swp d a pivot) (scanUp (fun x=>aH x (swp d a pivot)[a]!) (swp d a pivot) (b-1) (a+1)) (b-1)-1) (swp (swp d a pivot) (scanUp (fun x=>aH x (swp d a pivot)[a]!) (swp d a pivot) (b-1) (a+1)) (scanDown (fun x=> !aH x (swp d a pivot)[a]!) (swp d a pivot) (scanUp (fun x=>aH x (swp d a pivot)[a]!) (swp d a pivot) (b-1) (a+1)) (b-1)))).2
    (partLoop aH a (scanUp (fun x=>aH x (swp d a pivot)[a]!) (swp d a pivot) (b-1) (a+1)+1) (scanDown (fun x=> !aH x (swp d a pivot)[a]!) (swp d a pivot) (scanUp (fun x=>aH x (swp d a pivot)[a]!) (swp d a pivot) (b-1) (a+1)) (b-1)-1) (swp (swp d a pivot) (scanUp (fun x=>aH x (swp d a pivot)[a]!) (swp d a pivot) (b-1) (a+1)) (scanDown (fun x=> !aH x (swp d a pivot)[a]!) (swp d a pivot) (scanUp (fun x=>aH x (swp d a pivot)[a]!) (swp d a pivot) (b-1) (a+1)) (b-1)))).1 a):=rfl
theorem Bo (d:Array α) (i j:Nat):eA ((d.setIfInBounds i d[j]!).setIfInBounds j d[i]!)=eA (swp d i j):=rfl
theorem alJ {a b pivot:Nat} {d:Array α} (hp:pivot<b) (gg:a<b) (hb:b≤d.size) (hs:d.size<1152921504606846976):
  CC ((ax.E α).k 4) [.int .i64 (a:Int),.int .i64 (b:Int),.int .i64 (pivot:Int),.list (ax.E α).T (eA d)]=
   some [.int .i64 ((partition aH d a b pivot).1:Int),.bool (partition aH d a b pivot).2.1,.list (ax.E α).T (eA (partition aH d a b pivot).2.2)]:=by
 refine ax.SH ?_
 unfold Kr
 have z1:(swp d a pivot).size=d.size:=size_swp ..
 obtain ⟨t1,e1⟩:=alG (a:=a) (j:=b-1) (d:=swp d a pivot) (by omega) (by omega) (by omega) _ (a+1) rfl (by omega)
 have g1:=scanUp_ge (fun x=>aH x (swp d a pivot)[a]!) (swp d a pivot) (b-1) (a+1)
 have g2:=scanDown_le (fun x=> !aH x (swp d a pivot)[a]!) (swp d a pivot) (scanUp (fun x=>aH x (swp d a pivot)[a]!) (swp d a pivot) (b-1) (a+1)) (b-1)
 obtain ⟨t2,e2⟩:=aaC (a:=a) (i:=scanUp (fun x=>aH x (swp d a pivot)[a]!) (swp d a pivot) (b-1) (a+1)) (d:=swp d a pivot) (by omega) (by omega) (by omega) (b-1) (by omega)
 have e0:=alI d a b pivot
 rw[lW (i:=pivot),lW (i:=a),lW (i:=a),KF (i:=pivot)]
 simp only[ax.re,Int.toNat_natCast,gU,Bo]
 simp (disch:=omega) only[lU,eu,wrap64]
 rw[e1]
 simp only[Option.bind_some,un]
 rw[e2]
 simp only[Option.bind_some,un]
 generalize fv:scanUp (fun x=>aH x (swp d a pivot)[a]!) (swp d a pivot) (b-1) (a+1)=i2 at*
 generalize jq:scanDown (fun x=> !aH x (swp d a pivot)[a]!) (swp d a pivot) i2 (b-1)=j2 at*
 generalize swp d a pivot=d1 at*
 by_cases h:i2>j2
 ·rw[ai h] at e0
  rw[e0,au,aF]
  rw[lW (i:=a),lW (i:=j2)];rw[lW (i:=j2),KF (i:=a)]
  simp only[ax.re,Int.toNat_natCast,gU,Bo]
 ·rw[aj h] at e0
  rw[e0,au,aD]
  have z2:(swp d1 i2 j2).size=d1.size:=size_swp ..
  obtain ⟨x,z,e5⟩:=alH (a:=a) _ (i2+1) (j2-1) (swp d1 i2 j2) (bC _) (by omega) (by omega) (by omega) (by omega) (by omega)
  obtain ⟨q1,q2⟩:=alF (a:=a) _ (i2+1) (j2-1) (swp d1 i2 j2) (bC _)
  rw[lW (i:=j2),lW (i:=i2)];rw[lW (i:=i2),KF (i:=j2)]
  simp only[ax.re,Int.toNat_natCast,gU,Bo]
  simp (disch:=omega) only[lU,eu,wrap64]
  rw[e5]
  generalize partLoop aH a (i2+1) (j2-1) (swp d1 i2 j2)=r at*
  simp only[Option.bind_some,un]
  rw[lW (i:=a),lW (i:=r.1)];rw[lW (i:=r.1),KF (i:=a)]
  simp only[ax.re,Int.toNat_natCast,gU,Bo]
theorem alK {a:Nat}: ∀(n i j:Nat) (d:Array α),j+1-i≤n→1≤i→i≤d.size→a<d.size→j<d.size→d.size<1152921504606846976→
  ∃x z,Loop (Bi (ax.E α) CC a) ((i:Int),(j:Int),eA d)=some ((((partEqLoop aH a i j d).1:Nat):Int),x,z,eA (partEqLoop aH a i j d).2):=by
 intro n
 induction n with
 | zero=>
  intro i j d hn h1 h2 ha hj hs
  obtain ⟨t3,e3⟩:=aaD (a:=a) ha hj hs _ i rfl h2
  have g1:=scanUp_ge (fun x=> !aH d[a]! x) d j i
  have g2:=scanDown_le (fun x=>aH d[a]! x) d (scanUp (fun x=> !aH d[a]! x) d j i) j
  obtain ⟨t4,e4⟩:=SQ (a:=a) (i:=scanUp (fun x=> !aH d[a]! x) d j i) ha (by omega) hs j hj
  rw[partEqLoop_eq,aF]
  refine ⟨((scanDown (fun x=>aH d[a]! x) d (scanUp (fun x=> !aH d[a]! x) d j i) j:Nat):Int),true,br ?_⟩
  simp only[Bi,xQ,un]
  rw[e3]
  simp only[Option.bind_some,un]
  rw[e4]
  simp (disch:=omega) only[Option.bind_some,un,pf,cond_true]
 | succ n ih=>
  intro i j d hn h1 h2 ha hj hs
  obtain ⟨t3,e3⟩:=aaD (a:=a) ha hj hs _ i rfl h2
  have g1:=scanUp_ge (fun x=> !aH d[a]! x) d j i
  have g2:=scanDown_le (fun x=>aH d[a]! x) d (scanUp (fun x=> !aH d[a]! x) d j i) j
  obtain ⟨t4,e4⟩:=SQ (a:=a) (i:=scanUp (fun x=> !aH d[a]! x) d j i) ha (by omega) hs j hj
  rw[partEqLoop_eq]
  have f:Bi (ax.E α) CC a ((i:Int),(j:Int),eA d)=Bi (ax.E α) CC a ((i:Int),(j:Int),eA d):=rfl
  conv at f=>rhs;simp only[Bi,xQ,un];rw[e3];simp only[Option.bind_some,un];rw[e4];simp only[Option.bind_some,un]
  generalize fv:scanUp (fun x=> !aH d[a]! x) d j i=i2 at*
  generalize jq:scanDown (fun x=>aH d[a]! x) d i2 j=j2 at*
  by_cases h:i2>j2
  ·rw[ai h]
   refine ⟨(j2:Int),true,br (f.trans ?_)⟩
   simp (disch:=omega) only[Option.bind_some,pf,cond_true]
  ·rw[aj h]
   obtain ⟨x,z,e⟩:=ih (i2+1) (j2-1) (swp d i2 j2) (by omega) (by omega) (by rw[size_swp];omega) (by rw[size_swp];omega) (by rw[size_swp];omega) (by rw[size_swp];omega)
   refine ⟨x,z,(bS (f.trans ?_)).trans e⟩
   simp (disch:=omega) only[au,bQ,gz,ai,aj,wrap64,eu,gW,Int.toNat_natCast,Option.bind_some,iw,iy,ax.re,gU,jD,iM,ax.cs,V.az,V.toInt_int,cond_true,cond_false,lU]
   rfl
theorem alL {a b pivot:Nat} {d:Array α} (hp:pivot<b) (gg:a<b) (hb:b≤d.size) (hs:d.size<1152921504606846976):
  CC ((ax.E α).k 5) [.int .i64 (a:Int),.int .i64 (b:Int),.int .i64 (pivot:Int),.list (ax.E α).T (eA d)]=
   some [.int .i64 ((partitionEqual aH d a b pivot).1:Int),.list (ax.E α).T (eA (partitionEqual aH d a b pivot).2)]:=by
 refine ax.SI ?_
 unfold Ku
 have z1:(swp d a pivot).size=d.size:=size_swp ..
 obtain ⟨x,z,e⟩:=alK (a:=a) _ (a+1) (b-1) (swp d a pivot) (bC _) (by omega) (by omega) (by omega) (by omega) (by omega)
 simp (disch:=omega) only[au,bQ,ai,iw,iy,Int.toNat_natCast,Option.bind_some,ax.re,gU,jD,iM,lU,eu,wrap64,Bo]
 rw[e]
 rfl
theorem alM {a b j:Nat} {d:Array α} (hb:b≤d.size) (hs:d.size<1152921504606846976): ∀(n i:Nat),b-i=n→1≤i→i≤b→
  ∃t,Loop (Es (ax.E α) CC a b j (eA d)) (i:Int)=some (((scanSorted aH d b i:Nat):Int),t):=by
 intro n
 induction n with
 | zero=>
  intro i hn h1 hi
  rw[KG,aD]
  exact ⟨false,br (by simp (disch:=omega) only[Es,xR,au,aj])⟩
 | succ n ih=>
  intro i hn h1 hi
  obtain ⟨t,h⟩:=ih (i+1) (by omega) (by omega) (by omega)
  rw[KG,aF]
  have e:Es (ax.E α) CC a b j (eA d) (i:Int)=if ax.cmp d[i]! d[i-1]! <0 then some (.inr ((i:Int),!decide (ax.cmp d[i]! d[i-1]! <0))) else some (.inl ((i+1:Nat):Int)):=by
   simp (disch:=omega) only[Es,xR,lU,au,bQ,gz,ai,aj,wrap64,eu,gW,Int.toNat_natCast,Option.bind_some,iw,iy,ax.re,gU,jD,iM,ax.cs,V.az,V.toInt_int,cond_true,cond_false]
  by_cases h2:ax.cmp d[i]! d[i-1]! <0
  ·rw[ai h2] at e⊢
   exact ⟨_,br e⟩
  ·rw[aj h2] at e⊢
   exact ⟨t,(bS e).trans h⟩
theorem aaE: ∀(j:Nat) (d:Array α),(shiftDown aH j d).size=d.size
 | 0,_=>rfl
 | j+1,d=>by
  rw[aaA]
  split
  ·rw[aaE j,size_swp]
  ·rfl
theorem alN {b:Nat}: ∀(n j:Nat) (d:Array α),b-j=n→(shiftUp aH b j d).size=d.size:=by
 intro n
 induction n with
 | zero=>intro j d h;rw[KH,aD]
 | succ n ih=>
  intro j d h
  rw[KH,aF]
  split
  ·rw[ih _ _ (by omega),size_swp]
  ·rfl
theorem aaF {a b i k:Nat}: ∀(j:Nat) (d:Array α),j<d.size→d.size<1152921504606846976→
  ∃t,Loop (Et (ax.E α) CC a b i k) ((j:Int),eA d)=some (t,eA (shiftDown aH j d))
 | 0,d,hj,hs=>⟨(0:Nat),br (by
   simp (disch:=omega) only[Et,xS,un,au,aj]
   rfl)⟩
 | j+1,d,hj,hs=>by
  obtain ⟨t,ih⟩:=aaF (a:=a) (b:=b) (i:=i) (k:=k) j (swp d (j+1) j) (by rw[size_swp];omega) (by rw[size_swp];omega)
  rw[aaA]
  have e:Et (ax.E α) CC a b i k (((j+1:Nat):Int),eA d)=if ax.cmp d[j+1]! d[j]! <0 then some (.inl ((j:Int),eA (swp d (j+1) j))) else some (.inr (((j+1:Nat):Int),eA d)):=by
   simp (disch:=omega) only[Et,xS,un,au,bQ,gz,ai,aj,wrap64,eu,gW,Int.toNat_natCast,Option.bind_some,iw,iy,ax.re,gU,jD,iM,ax.cs,V.az,V.toInt_int,cond_true,cond_false,xE]
   rfl
  by_cases h2:ax.cmp d[j+1]! d[j]! <0
  ·rw[ai h2] at e⊢
   exact ⟨t,(bS e).trans ih⟩
  ·rw[aj h2] at e⊢
   exact ⟨_,br e⟩
theorem alO {a b i k:Nat}: ∀(n j:Nat) (d:Array α),b-j=n→1≤j→j≤b→b≤d.size→d.size<1152921504606846976→
  ∃t,Loop (Eu (ax.E α) CC a b i k) ((j:Int),eA d)=some (t,eA (shiftUp aH b j d)):=by
 intro n
 induction n with
 | zero=>
  intro j d hn h1 hj hb hs
  rw[KH,aD]
  exact ⟨(j:Int),br (by
   simp (disch:=omega) only[Eu,xT,un,au,aj])⟩
 | succ n ih=>
  intro j d hn h1 hj hb hs
  obtain ⟨t,h⟩:=ih (j+1) (swp d j (j-1)) (by omega) (by omega) (by omega) (by rw[size_swp];omega) (by rw[size_swp];omega)
  rw[KH,aF]
  have e:Eu (ax.E α) CC a b i k ((j:Int),eA d)=if ax.cmp d[j]! d[j-1]! <0 then some (.inl (((j+1:Nat):Int),eA (swp d j (j-1)))) else some (.inr ((j:Int),eA d)):=by
   simp (disch:=omega) only[Eu,xT,un,lU,au,bQ,gz,ai,aj,wrap64,eu,gW,Int.toNat_natCast,Option.bind_some,iw,iy,ax.re,gU,jD,iM,ax.cs,V.az,V.toInt_int,cond_true,cond_false]
   rfl
  by_cases h2:ax.cmp d[j]! d[j-1]! <0
  ·rw[ai h2] at e⊢
   exact ⟨t,(bS e).trans h⟩
  ·rw[aj h2] at e⊢
   exact ⟨_,br e⟩
theorem alP {d:Array α} {b:Nat}: ∀(n i:Nat),b-i=n→i≤b→i≤scanSorted aH d b i∧scanSorted aH d b i≤b:=by
 intro n
 induction n with
 | zero=>intro i hn hi;rw[KG,aD];omega
 | succ n ih=>
  intro i hn hi
  rw[KG,aF]
  obtain ⟨h1,h2⟩:=ih (i+1) (by omega) (by omega)
  split<;>omega
theorem alQ {a b:Nat}: ∀(s i:Nat) (d:Array α),s≤5→a<i→i≤b→b≤d.size→d.size<1152921504606846976→
  (Loop (vj (ax.E α) CC a b) ((i:Int),((5-s:Nat):Int),eA d)=some (.inl ((partialIns aH a b s i d).2,eA (partialIns aH a b s i d).1)))∨
  (∃x y z,(partialIns aH a b s i d).2=false∧Loop (vj (ax.E α) CC a b) ((i:Int),((5-s:Nat):Int),eA d)=some (.inr (x,y,z,eA (partialIns aH a b s i d).1))):=by
 intro s
 induction s with
 | zero=>
  intro i d hs5 hi SR hb hs
  refine .inr ⟨(i:Int),((5:Nat):Int),false,rfl,br ?_⟩
  simp (disch:=omega) only[vj,xU,un,vd,cond_false]
  rfl
 | succ s ih=>
  intro i d hs5 hi SR hb hs
  obtain ⟨t1,e1⟩:=alM (a:=a) (j:=5-(s+1)) hb hs _ i rfl (by omega) SR
  obtain ⟨q1,q2⟩:=alP (d:=d) _ i rfl SR
  rw[partialIns_succ]
  have f:vj (ax.E α) CC a b ((i:Int),((5-(s+1):Nat):Int),eA d)=vj (ax.E α) CC a b ((i:Int),((5-(s+1):Nat):Int),eA d):=rfl
  conv at f=>rhs;simp only[vj,xU,un];rw[au,aF,e1];simp only[Option.bind_some,un]
  generalize scanSorted aH d b i=k at*
  by_cases h1:k=b
  ·rw[ai h1]
   left
   refine br (f.trans ?_)
   rw[dv,aF]
  ·rw[aj h1]
   by_cases h2:b-a<50
   ·rw[ai h2]
    left
    refine br (f.trans ?_)
    rw[dv,aD,bB,au,aF]
   ·rw[aj h2]
    have z1:(swp d k (k-1)).size=d.size:=size_swp ..
    have z2:(fixDown aH a k (swp d k (k-1))).size=d.size:=by
     unfold fixDown
     split
     ·rw[aaE,z1]
     ·exact z1
    have z3:(fixUp aH b k (fixDown aH a k (swp d k (k-1)))).size=d.size:=by
     unfold fixUp
     split
     ·rw[alN _ _ _ rfl,z2]
     ·exact z2
    obtain ⟨t2,e2⟩:=aaF (a:=a) (b:=b) (i:=k) (k:=5-(s+1)) (k-1) (swp d k (k-1)) (by omega) (by omega)
    obtain ⟨t4,e4⟩:=alO (a:=a) (b:=b) (i:=k) (k:=5-(s+1)) _ (k+1) (fixDown aH a k (swp d k (k-1))) rfl (by omega) (by omega) (by omega) (by omega)
    have e5:vj (ax.E α) CC a b ((i:Int),((5-(s+1):Nat):Int),eA d)=some (.inl ((k:Int),((5-s:Nat):Int),eA (fixUp aH b k (fixDown aH a k (swp d k (k-1)))))):=by
     refine f.trans ?_
     rw[dv,aD,bB,au,aD]
     simp (disch:=omega) only[au,bQ,ai,iw,iy,Int.toNat_natCast,Option.bind_some,ax.re,gU,jD,iM,lU,eu,oq,wrap64,Bo,Bj]
     rw[show 5-(s+1)+1=5-s by omega]
     unfold fixDown at e4⊢
     unfold fixUp
     have c1:(((k-a:Nat):Int)≥2)=(k-a≥2):=propext (by omega)
     have c2:(((b-k:Nat):Int)≥2)=(b-k≥2):=propext (by omega)
     simp only[c1,c2]
     by_cases g1:k-a≥2
     ·by_cases g2:b-k≥2
      ·simp only[g1,g2,cL,e2,Option.bind_some,un] at e4⊢
       rw[e4]
       rfl
      ·simp only[g1,g2,cL,ga,e2,Option.bind_some,un]
     ·by_cases g2:b-k≥2
      ·simp only[g1,g2,cL,ga] at e4⊢
       rw[e4]
       rfl
      ·exact absurd (show b-k≥2 by omega) g2
    rw[bS e5]
    exact ih k _ (by omega) (by omega) (by omega) (by omega) (by omega)
theorem aaG {a b:Nat} {d:Array α} (gg:a<b) (hb:b≤d.size) (hs:d.size<1152921504606846976):
  CC ((ax.E α).k 6) [.int .i64 (a:Int),.int .i64 (b:Int),.list (ax.E α).T (eA d)]=
   some [.bool (partialInsertionSort aH d a b).2,.list (ax.E α).T (eA (partialInsertionSort aH d a b).1)]:=by
 refine ax.SJ ?_
 unfold Kv
 simp (disch:=omega) only[eu,wrap64]
 rcases alQ (a:=a) (b:=b) 5 (a+1) d (bC _) (by omega) (by omega) hb hs with h|⟨x,y,z,h0,h⟩
 ·rw[show ((5-5:Nat):Int)=0 from rfl] at h
  rw[h]
  rfl
 ·rw[show ((5-5:Nat):Int)=0 from rfl] at h
  rw[h]
  unfold partialInsertionSort
  rw[h0]
  rfl
end Go.AM
set_option maxRecDepth 100000
namespace Go.AM
open Go.Proofs
noncomputable def aaH (C:ae) (ka:Int):Option LV:=
 some [.int .u64 (IntKind.wrap .u64 ((BitVec.ofInt (IntKind.bits .u64) (IntKind.wrap .u64 ((BitVec.ofInt (IntKind.bits .u64) (IntKind.wrap .u64 ((BitVec.ofInt (IntKind.bits .u64) ka ^^^ BitVec.ofInt (IntKind.bits .u64) (IntKind.wrap .u64 (ka*2^(min (13:Int).toNat (IntKind.bits .u64))))).toNat)) ^^^ BitVec.ofInt (IntKind.bits .u64) (Int.fdiv (IntKind.wrap .u64 ((BitVec.ofInt (IntKind.bits .u64) ka ^^^ BitVec.ofInt (IntKind.bits .u64) (IntKind.wrap .u64 (ka*2^(min (13:Int).toNat (IntKind.bits .u64))))).toNat)) (2^(min (7:Int).toNat (IntKind.bits .u64))))).toNat)) ^^^ BitVec.ofInt (IntKind.bits .u64) (IntKind.wrap .u64 ((IntKind.wrap .u64 ((BitVec.ofInt (IntKind.bits .u64) (IntKind.wrap .u64 ((BitVec.ofInt (IntKind.bits .u64) ka ^^^ BitVec.ofInt (IntKind.bits .u64) (IntKind.wrap .u64 (ka*2^(min (13:Int).toNat (IntKind.bits .u64))))).toNat)) ^^^ BitVec.ofInt (IntKind.bits .u64) (Int.fdiv (IntKind.wrap .u64 ((BitVec.ofInt (IntKind.bits .u64) ka ^^^ BitVec.ofInt (IntKind.bits .u64) (IntKind.wrap .u64 (ka*2^(min (13:Int).toNat (IntKind.bits .u64))))).toNat)) (2^(min (7:Int).toNat (IntKind.bits .u64))))).toNat))*2^(min (17:Int).toNat (IntKind.bits .u64))))).toNat)),.int .u64 (IntKind.wrap .u64 ((BitVec.ofInt (IntKind.bits .u64) (IntKind.wrap .u64 ((BitVec.ofInt (IntKind.bits .u64) (IntKind.wrap .u64 ((BitVec.ofInt (IntKind.bits .u64) ka ^^^ BitVec.ofInt (IntKind.bits .u64) (IntKind.wrap .u64 (ka*2^(min (13:Int).toNat (IntKind.bits .u64))))).toNat)) ^^^ BitVec.ofInt (IntKind.bits .u64) (Int.fdiv (IntKind.wrap .u64 ((BitVec.ofInt (IntKind.bits .u64) ka ^^^ BitVec.ofInt (IntKind.bits .u64) (IntKind.wrap .u64 (ka*2^(min (13:Int).toNat (IntKind.bits .u64))))).toNat)) (2^(min (7:Int).toNat (IntKind.bits .u64))))).toNat)) ^^^ BitVec.ofInt (IntKind.bits .u64) (IntKind.wrap .u64 ((IntKind.wrap .u64 ((BitVec.ofInt (IntKind.bits .u64) (IntKind.wrap .u64 ((BitVec.ofInt (IntKind.bits .u64) ka ^^^ BitVec.ofInt (IntKind.bits .u64) (IntKind.wrap .u64 (ka*2^(min (13:Int).toNat (IntKind.bits .u64))))).toNat)) ^^^ BitVec.ofInt (IntKind.bits .u64) (Int.fdiv (IntKind.wrap .u64 ((BitVec.ofInt (IntKind.bits .u64) ka ^^^ BitVec.ofInt (IntKind.bits .u64) (IntKind.wrap .u64 (ka*2^(min (13:Int).toNat (IntKind.bits .u64))))).toNat)) (2^(min (7:Int).toNat (IntKind.bits .u64))))).toNat))*2^(min (17:Int).toNat (IntKind.bits .u64))))).toNat))]
theorem alR {ka:Int} {r:Option LV} (h:aaH CC ka=r):CC Jh [.int .u64 ka]=r:=aV (L:=aW) ar h
noncomputable def aaI (C:ae) (length:Int):Option LV:=
 (C DE [.int .u64 (IntKind.wrap .u64 length)]).bind fun r1=>
 bif decide (0≤((V.nth r1 0).toInt)) then
  some [.int .u64 (IntKind.wrap .u64 (1*2^(min ((V.nth r1 0).toInt).toNat (IntKind.bits .u64))))]
 else none
theorem alS {length:Int} {r:Option LV} (h:aaI CC length=r):CC Jg [V.int .i64 length]=r:=aV (L:=aW) ar h
noncomputable def aaJ (C:ae) (x:Int):Option LV:=
 (C Jc [.int .u64 x]).bind fun r1=>
 some [V.int .i64 ((V.nth r1 0).toInt)]
theorem alT {x:Int} {r:Option LV} (h:aaJ CC x=r):CC DE [.int .u64 x]=r:=aV (L:=aW) ar h
noncomputable def xY (C:ae) (x n:Int) (t4:Bool) {β:Type} (kr:(Int × Int)→Option β):Option β:=
 bif t4 then
  kr (Int.fdiv x (2^(min (32:Int).toNat (IntKind.bits .u64))),32)
 else
  kr (x,n)
noncomputable def xZ (C:ae) (x n:Int) (t8:Bool) {β:Type} (kr:(Int × Int)→Option β):Option β:=
 bif t8 then
  kr (Int.fdiv x (2^(min (16:Int).toNat (IntKind.bits .u64))),IntKind.wrap .i64 (n+16))
 else
  kr (x,n)
noncomputable def aaK (C:ae):bI:=gR 79 Qr [[0,0]] (@xY C) (gR 143 Qs [[0,0]] (@xZ C) aW)
theorem alU (C:ae):ba C (aaK C) 106 (Cd 4 [1,0,1,0] [1,0,1,1] 106):=gQ Qr [[0,0]] (@xY C) (aK ar) (aK ar)
theorem alV (C:ae):ba C (aaK C) 106 (Cd 8 [1,1,0,1,0] [1,1,0,1,1] 106):=gQ Qs [[0,0]] (@xZ C) (aK ar) (aK ar)
noncomputable def alW (C:ae) (x:Int):Option LV:=
 xY C x 0 (decide ((x:Int)≥4294967296)) (un fun (vo:Int) (gY:Int)=>
  xZ C vo gY (decide ((vo:Int)≥65536)) (un fun (EB:Int) (iz:Int)=>
   bif decide ((EB:Int)≥256) then
    (bif decide (0≤(IntKind.wrap .u8 (Int.fdiv EB (2^(min (8:Int).toNat (IntKind.bits .u64)))))) then (([0,1,2,2,3,3,3,3,4,4,4,4,4,4,4,4,5,5,5,5,5,5,5,5,5,5,5,5,5,5,5,5,6,6,6,6,6,6,6,6,6,6,6,6,6,6,6,6,6,6,6,6,6,6,6,6,6,6,6,6,6,6,6,6,7,7,7,7,7,7,7,7,7,7,7,7,7,7,7,7,7,7,7,7,7,7,7,7,7,7,7,7,7,7,7,7,7,7,7,7,7,7,7,7,7,7,7,7,7,7,7,7,7,7,7,7,7,7,7,7,7,7,7,7,7,7,7,7,8,8,8,8,8,8,8,8,8,8,8,8,8,8,8,8,8,8,8,8,8,8,8,8,8,8,8,8,8,8,8,8,8,8,8,8,8,8,8,8,8,8,8,8,8,8,8,8,8,8,8,8,8,8,8,8,8,8,8,8,8,8,8,8,8,8,8,8,8,8,8,8,8,8,8,8,8,8,8,8,8,8,8,8,8,8,8,8,8,8,8,8,8,8,8,8,8,8,8,8,8,8,8,8,8,8,8,8,8,8,8,8,8,8,8,8,8,8,8,8,8,8,8,8,8,8,8,8]:List UInt8)[(IntKind.wrap .u8 (Int.fdiv EB (2^(min (8:Int).toNat (IntKind.bits .u64)))):Int).toNat]?).map fun b=>V.int .u8 b.toNat else none).bind fun x5=>
    some [V.int .i64 (IntKind.wrap .i64 ((IntKind.wrap .i64 (iz+8))+(IntKind.wrap .i64 x5.toInt)))]
   else
    (bif decide (0≤(IntKind.wrap .u8 EB)) then (([0,1,2,2,3,3,3,3,4,4,4,4,4,4,4,4,5,5,5,5,5,5,5,5,5,5,5,5,5,5,5,5,6,6,6,6,6,6,6,6,6,6,6,6,6,6,6,6,6,6,6,6,6,6,6,6,6,6,6,6,6,6,6,6,7,7,7,7,7,7,7,7,7,7,7,7,7,7,7,7,7,7,7,7,7,7,7,7,7,7,7,7,7,7,7,7,7,7,7,7,7,7,7,7,7,7,7,7,7,7,7,7,7,7,7,7,7,7,7,7,7,7,7,7,7,7,7,7,8,8,8,8,8,8,8,8,8,8,8,8,8,8,8,8,8,8,8,8,8,8,8,8,8,8,8,8,8,8,8,8,8,8,8,8,8,8,8,8,8,8,8,8,8,8,8,8,8,8,8,8,8,8,8,8,8,8,8,8,8,8,8,8,8,8,8,8,8,8,8,8,8,8,8,8,8,8,8,8,8,8,8,8,8,8,8,8,8,8,8,8,8,8,8,8,8,8,8,8,8,8,8,8,8,8,8,8,8,8,8,8,8,8,8,8,8,8,8,8,8,8,8,8,8,8,8,8]:List UInt8)[(IntKind.wrap .u8 EB:Int).toNat]?).map fun b=>V.int .u8 b.toNat else none).bind fun x6=>
    some [V.int .i64 (IntKind.wrap .i64 (iz+(IntKind.wrap .i64 x6.toInt)))]))
theorem aaL {x:Int} {r:Option LV} (h:alW CC x=r):CC Jc [.int .u64 x]=r:=aV (aZ (alU CC) (aZ (alV CC) ar)) h
end Go.AM
set_option maxRecDepth 100000
set_option maxHeartbeats 4000000
namespace Go.AM
open Go.Proofs Go.Sort
variable {α:Type} [ax α]
theorem aaM (a b:α):(aH a b=false)= ¬(ax.cmp a b<0):=by rw[←vn];simp
theorem Bp:SWO (aH (α:=α)):=ax.SB
variable [Inhabited α]
def KI:List UInt8:=([0,1,2,2,3,3,3,3,4,4,4,4,4,4,4,4,5,5,5,5,5,5,5,5,5,5,5,5,5,5,5,5,6,6,6,6,6,6,6,6,6,6,6,6,6,6,6,6,6,6,6,6,6,6,6,6,6,6,6,6,6,6,6,6,7,7,7,7,7,7,7,7,7,7,7,7,7,7,7,7,7,7,7,7,7,7,7,7,7,7,7,7,7,7,7,7,7,7,7,7,7,7,7,7,7,7,7,7,7,7,7,7,7,7,7,7,7,7,7,7,7,7,7,7,7,7,7,7,8,8,8,8,8,8,8,8,8,8,8,8,8,8,8,8,8,8,8,8,8,8,8,8,8,8,8,8,8,8,8,8,8,8,8,8,8,8,8,8,8,8,8,8,8,8,8,8,8,8,8,8,8,8,8,8,8,8,8,8,8,8,8,8,8,8,8,8,8,8,8,8,8,8,8,8,8,8,8,8,8,8,8,8,8,8,8,8,8,8,8,8,8,8,8,8,8,8,8,8,8,8,8,8,8,8,8,8,8,8,8,8,8,8,8,8,8,8,8,8,8,8,8,8,8,8,8,8]:List UInt8)
theorem alX:(List.range 256).all (fun y=>match KI[y]? with|some b=>decide (b.toNat≤8)&&(Nat.beq y 0||(decide (1≤b.toNat)&&decide (2^(b.toNat-1)≤y)))|none=>false)=true:=by decide+kernel
theorem aaN {y:Nat} (h:y<256): ∃b,KI[y]? =some b∧b.toNat≤8∧(0<y→1≤b.toNat∧2^(b.toNat-1)≤y):=by
 have:=gn.1 alX y (yV.2 h)
 cases hb:KI[y]? with
 | none=>rw[hb] at this;cases this
 | some b=>
  rw[hb] at this
  simp only[aT,nL,dC] at this
  refine ⟨b,rfl,this.1,fun hy=> ?_⟩
  rcases this.2 with h2|h2
  ·have:=BO h2;omega
  ·exact h2
theorem SS {y t k:Nat} (h:2^(t-1)≤y/2^k) (ht:1≤t):2^(t+k-1)≤y:=by
 have e:t+k-1=(t-1)+k:=by omega
 rw[e,Nat.pow_add]
 exact jb (eC _ h) (Nat.div_mul_le_self _ _)
noncomputable def Bq (y n:Int):Option (List V):=
(bif decide ((y:Int)≥256) then
    (bif decide (0≤(IntKind.wrap .u8 (Int.fdiv y (2^(min (8:Int).toNat (IntKind.bits .u64)))))) then (([0,1,2,2,3,3,3,3,4,4,4,4,4,4,4,4,5,5,5,5,5,5,5,5,5,5,5,5,5,5,5,5,6,6,6,6,6,6,6,6,6,6,6,6,6,6,6,6,6,6,6,6,6,6,6,6,6,6,6,6,6,6,6,6,7,7,7,7,7,7,7,7,7,7,7,7,7,7,7,7,7,7,7,7,7,7,7,7,7,7,7,7,7,7,7,7,7,7,7,7,7,7,7,7,7,7,7,7,7,7,7,7,7,7,7,7,7,7,7,7,7,7,7,7,7,7,7,7,8,8,8,8,8,8,8,8,8,8,8,8,8,8,8,8,8,8,8,8,8,8,8,8,8,8,8,8,8,8,8,8,8,8,8,8,8,8,8,8,8,8,8,8,8,8,8,8,8,8,8,8,8,8,8,8,8,8,8,8,8,8,8,8,8,8,8,8,8,8,8,8,8,8,8,8,8,8,8,8,8,8,8,8,8,8,8,8,8,8,8,8,8,8,8,8,8,8,8,8,8,8,8,8,8,8,8,8,8,8,8,8,8,8,8,8,8,8,8,8,8,8,8,8,8,8,8,8]:List UInt8)[(IntKind.wrap .u8 (Int.fdiv y (2^(min (8:Int).toNat (IntKind.bits .u64)))):Int).toNat]?).map fun b=>V.int .u8 b.toNat else none).bind fun x5=>
    some [V.int .i64 (IntKind.wrap .i64 ((IntKind.wrap .i64 (n+8))+(IntKind.wrap .i64 x5.toInt)))]
   else
    (bif decide (0≤(IntKind.wrap .u8 y)) then (([0,1,2,2,3,3,3,3,4,4,4,4,4,4,4,4,5,5,5,5,5,5,5,5,5,5,5,5,5,5,5,5,6,6,6,6,6,6,6,6,6,6,6,6,6,6,6,6,6,6,6,6,6,6,6,6,6,6,6,6,6,6,6,6,7,7,7,7,7,7,7,7,7,7,7,7,7,7,7,7,7,7,7,7,7,7,7,7,7,7,7,7,7,7,7,7,7,7,7,7,7,7,7,7,7,7,7,7,7,7,7,7,7,7,7,7,7,7,7,7,7,7,7,7,7,7,7,7,8,8,8,8,8,8,8,8,8,8,8,8,8,8,8,8,8,8,8,8,8,8,8,8,8,8,8,8,8,8,8,8,8,8,8,8,8,8,8,8,8,8,8,8,8,8,8,8,8,8,8,8,8,8,8,8,8,8,8,8,8,8,8,8,8,8,8,8,8,8,8,8,8,8,8,8,8,8,8,8,8,8,8,8,8,8,8,8,8,8,8,8,8,8,8,8,8,8,8,8,8,8,8,8,8,8,8,8,8,8,8,8,8,8,8,8,8,8,8,8,8,8,8,8,8,8,8,8]:List UInt8)[(IntKind.wrap .u8 y:Int).toNat]?).map fun b=>V.int .u8 b.toNat else none).bind fun x6=>
    some [V.int .i64 (IntKind.wrap .i64 (n+(IntKind.wrap .i64 x6.toInt)))])
theorem alY {x:Nat} (h:x<2^64): ∃L:Nat,CC Jc [.int .u64 (x:Int)]=some [.int .i64 (L:Int)]∧L≤64∧(0<x→1≤L∧2^(L-1)≤x):=by
 have last: ∀y n:Nat,y<65536→n≤48→∃t:Nat,
   Bq (y:Int) (n:Int)=some [V.int .i64 ((n+t:Nat):Int)]∧t≤16∧(0<y→1≤t∧2^(t-1)≤y):=by
  intro y n hy hn
  unfold Bq
  rw[show ([0,1,2,2,3,3,3,3,4,4,4,4,4,4,4,4,5,5,5,5,5,5,5,5,5,5,5,5,5,5,5,5,6,6,6,6,6,6,6,6,6,6,6,6,6,6,6,6,6,6,6,6,6,6,6,6,6,6,6,6,6,6,6,6,7,7,7,7,7,7,7,7,7,7,7,7,7,7,7,7,7,7,7,7,7,7,7,7,7,7,7,7,7,7,7,7,7,7,7,7,7,7,7,7,7,7,7,7,7,7,7,7,7,7,7,7,7,7,7,7,7,7,7,7,7,7,7,7,8,8,8,8,8,8,8,8,8,8,8,8,8,8,8,8,8,8,8,8,8,8,8,8,8,8,8,8,8,8,8,8,8,8,8,8,8,8,8,8,8,8,8,8,8,8,8,8,8,8,8,8,8,8,8,8,8,8,8,8,8,8,8,8,8,8,8,8,8,8,8,8,8,8,8,8,8,8,8,8,8,8,8,8,8,8,8,8,8,8,8,8,8,8,8,8,8,8,8,8,8,8,8,8,8,8,8,8,8,8,8,8,8,8,8,8,8,8,8,8,8,8,8,8,8,8,8,8]:List UInt8)=KI from rfl]
  by_cases h1:y≥256
  ·have e:Int.fdiv (y:Int) (2^(min (8:Int).toNat (IntKind.bits .u64)))=((y/2^8:Nat):Int):=AE (m:=8) (by omega)
   obtain ⟨b,hb,b1,b2⟩:=aaN (y:=y/2^8) (by omega)
   refine ⟨b.toNat+8,?_,by omega,fun _=> ?_⟩
   ·rw[e,au,aF,IM (by omega) (by omega),au,aF,Int.toNat_natCast,hb]
    simp only[Option.map_some,Option.bind_some,V.toInt_int]
    simp (disch:=omega) only[wrap64]
    congr 3
    omega
   ·obtain ⟨b3,b4⟩:=b2 (by omega)
    exact ⟨by omega,SS b4 b3⟩
  ·obtain ⟨b,hb,b1,b2⟩:=aaN (y:=y) (by omega)
   refine ⟨b.toNat,?_,by omega,b2⟩
   rw[au,aD,IM (by omega) (by omega),au,aF,Int.toNat_natCast,hb]
   simp (disch:=omega) only[Option.map_some,Option.bind_some,V.toInt_int,wrap64]
   congr 3
 have mid: ∀y n:Nat,y<4294967296→n≤32→∃t:Nat,∀F:Int→Int→Option (List V),
   (∀y n:Nat,y<65536→n≤48→∃t:Nat,F (y:Int) (n:Int)=some [V.int .i64 ((n+t:Nat):Int)]∧t≤16∧(0<y→1≤t∧2^(t-1)≤y))→
   ∃t:Nat,xZ CC (y:Int) (n:Int) (decide (((y:Int):Int)≥65536)) (un F)=some [V.int .i64 ((n+t:Nat):Int)]∧t≤32∧(0<y→1≤t∧2^(t-1)≤y):=by
  intro y n hy hn
  refine ⟨0,fun F hF=> ?_⟩
  unfold xZ
  by_cases h1:y≥65536
  ·have e:Int.fdiv (y:Int) (2^(min (16:Int).toNat (IntKind.bits .u64)))=((y/2^16:Nat):Int):=AE (m:=16) (by omega)
   rw[au,aF,e,bB]
   obtain ⟨t,h2,h3,h4⟩:=hF (y/2^16) (n+16) (by omega) (by omega)
   refine ⟨t+16,?_,by omega,fun _=> ?_⟩
   ·rw[show ((n:Int)+16)=((n+16:Nat):Int) by omega]
    simp only[un]
    rw[h2]
    congr 3
    omega
   ·obtain ⟨b3,b4⟩:=h4 (by omega)
    exact ⟨by omega,SS b4 b3⟩
  ·rw[au,aD]
   obtain ⟨t,h2,h3,h4⟩:=hF y n (by omega) (by omega)
   exact ⟨t,h2,by omega,h4⟩
 by_cases h1:x≥4294967296
 ·have e:Int.fdiv (x:Int) (2^(min (32:Int).toNat (IntKind.bits .u64)))=((x/2^32:Nat):Int):=AE (m:=32) (by omega)
  obtain ⟨_,hm⟩:=mid (x/2^32) 32 (by omega) (by omega)
  obtain ⟨t,h2,h3,h4⟩:=hm Bq last
  refine ⟨32+t,aaL ?_,by omega,fun _=> ?_⟩
  ·show xY CC (x:Int) 0 (decide (((x:Int):Int)≥4294967296)) (un fun (vo:Int) (gY:Int)=>xZ CC vo gY (decide ((vo:Int)≥65536)) (un Bq))=_
   unfold xY
   rw[au,aF,e]
   exact h2
  ·obtain ⟨b3,b4⟩:=h4 (by omega)
   rw[Nat.add_comm 32 t]
   exact ⟨by omega,SS b4 b3⟩
 ·obtain ⟨_,hm⟩:=mid x 0 (by omega) (by omega)
  obtain ⟨t,h2,h3,h4⟩:=hm Bq last
  refine ⟨t,aaL ?_,by omega,h4⟩
  show xY CC (x:Int) 0 (decide (((x:Int):Int)≥4294967296)) (un fun (vo:Int) (gY:Int)=>xZ CC vo gY (decide ((vo:Int)≥65536)) (un Bq))=_
  unfold xY
  rw[au,aD]
  rw[je] at h2
  exact h2
theorem aaO {x:Nat} (h:x<2^64): ∃L:Nat,CC DE [.int .u64 (x:Int)]=some [.int .i64 (L:Int)]∧L≤64∧(0<x→1≤L∧2^(L-1)≤x):=by
 obtain ⟨L,h1,h2⟩:=alY h
 refine ⟨L,alT ?_,h2⟩
 unfold aaJ
 rw[h1]
 rfl
theorem alZ {x:Nat} (h0:0<x) (h:x<1152921504606846976): ∃M:Nat,CC Jg [.int .i64 (x:Int)]=some [.int .u64 (M:Int)]∧1≤M∧M≤2*x:=by
 obtain ⟨L,h1,h2,h3⟩:=aaO (x:=x) (by omega)
 obtain ⟨h4,h5⟩:=h3 h0
 have e:2^L=2*2^(L-1):=by
  obtain ⟨k,rfl⟩: ∃k,L=k+1:=⟨L-1,by omega⟩
  rw[Nat.pow_succ];simp only[yS];omega
 have hL:L<64:=by
  by_cases hx:L<64
  ·exact hx
  ·have:2^63≤2^(L-1):=ue (by omega) (by omega)
   omega
 refine ⟨2^L,alS ?_,pF (by simp),by omega⟩
 unfold aaI
 rw[rM (A:=x) (by omega),h1]
 simp only[Option.bind_some,V.az,V.toInt_int]
 rw[au,aF,Int.toNat_natCast,AD hL]
theorem al0 (r:Int): ∃R:Nat,CC Jh [.int .u64 r]=some [.int .u64 (R:Int),.int .u64 (R:Int)]∧R<2^64:=by
 have h: ∀n:Int,∃R:Nat,IntKind.wrap .u64 n=(R:Int)∧R<2^64:=fun n=>⟨(IntKind.wrap .u64 n).toNat,by rw[wrap_u64];omega,by rw[wrap_u64];omega⟩
 obtain ⟨R,h1,h2⟩:=h _
 exact ⟨R,alR (by unfold aaH;rw[h1]),h2⟩
theorem KJ {d:Array α} {i:Nat} (h:i<d.size):idx (eA d) (i:Int)=some (ax.enc (d[i]!)):=by rw[lP,iy h]
theorem SU {d:Array α} {a b:Nat} {s:Int} (ha:a<d.size) (hb:b<d.size): ∃(x y:Nat) (s':Int),CC ((ax.E α).k 10) [.list (ax.E α).T (eA d),.int .i64 (a:Int),.int .i64 (b:Int),.int .i64 s]=some [.int .i64 (x:Int),.int .i64 (y:Int),.int .i64 s']∧(x=a∧y=b∨x=b∧y=a):=by
 by_cases h:ax.cmp d[b]! d[a]! <0
 ·refine ⟨b,a,_,ax.KD (by unfold Ew;rw[KJ hb,KJ ha];simp only[Option.bind_some,ax.re,ax.cs,V.az,V.toInt_int];rw[au,ai h]),.inr ⟨rfl,rfl⟩⟩
 ·refine ⟨a,b,_,ax.KD (by unfold Ew;rw[KJ hb,KJ ha];simp only[Option.bind_some,ax.re,ax.cs,V.az,V.toInt_int];rw[au,aj h]),.inl ⟨rfl,rfl⟩⟩
theorem SV {d:Array α} {a b c:Nat} {s:Int} (ha:a<d.size) (hb:b<d.size) (hc:c<d.size): ∃(m:Nat) (s':Int),CC ((ax.E α).k 8) [.list (ax.E α).T (eA d),.int .i64 (a:Int),.int .i64 (b:Int),.int .i64 (c:Int),.int .i64 s]=some [.int .i64 (m:Int),.int .i64 s']∧(m=a∨m=b∨m=c):=by
 obtain ⟨x1,y1,s1,e1,o1⟩:=SU (s:=s) ha hb
 obtain ⟨x2,y2,s2,e2,o2⟩:=SU (d:=d) (a:=y1) (b:=c) (s:=s1) (by omega) hc
 obtain ⟨x3,y3,s3,e3,o3⟩:=SU (d:=d) (a:=x1) (b:=x2) (s:=s2) (by omega) (by omega)
 refine ⟨y3,s3,ax.SL ?_,by omega⟩
 unfold Ky
 rw[e1]
 simp only[Option.bind_some,V.az,V.td,V.toInt_int,dx,dk]
 rw[e2]
 simp only[Option.bind_some,V.az,V.td,V.toInt_int,dx,dk]
 rw[e3]
 rfl
theorem SW {d:Array α} {a:Nat} {s:Int} (h1:1≤a) (ha:a+1<d.size) (hs:d.size<1152921504606846976): ∃(m:Nat) (s':Int),CC ((ax.E α).k 9) [.list (ax.E α).T (eA d),.int .i64 (a:Int),.int .i64 s]=some [.int .i64 (m:Int),.int .i64 s']∧a≤m+1∧m≤a+1:=by
 obtain ⟨m,s',e,o⟩:=SV (d:=d) (a:=a-1) (b:=a) (c:=a+1) (s:=s) (by omega) (by omega) (by omega)
 refine ⟨m,s',ax.SM ?_,by omega,by omega⟩
 unfold Kz
 simp (disch:=omega) only[lU,eu,wrap64]
 rw[e]
 rfl
theorem SY (n:Nat):Int.tdiv (n:Int) 4=((n/4:Nat):Int):=by
 have:=divC n 4
 exact this
theorem mulC (k n:Nat):((k:Nat):Int)*(n:Int)=((k*n:Nat):Int):=(Int.natCast_mul k n).symm
theorem al1 {d:Array α} {a b:Nat} (gg:a+12<b) (hb:b≤d.size) (hs:d.size<1152921504606846976): ∃(p:Nat) (h:Int),CC ((ax.E α).k 11) [.list (ax.E α).T (eA d),.int .i64 (a:Int),.int .i64 (b:Int)]=some [.int .i64 (p:Int),.int .i64 h]∧a≤p∧p<b:=by
 have fin: ∀(p:Nat) (s:Int),∃h:Int,(bif (s:Int)==0 then some [V.int .i64 (p:Int),V.int .i64 1] else bif (s:Int)==12 then some [V.int .i64 (p:Int),V.int .i64 2] else some [V.int .i64 (p:Int),V.int .i64 0])=some [V.int .i64 (p:Int),V.int .i64 h]:=by
  intro p s
  rw[dv]
  split
  ·exact ⟨1,rfl⟩
  ·rw[dv]
   split
   ·exact ⟨2,rfl⟩
   ·exact ⟨0,rfl⟩
 have e1:IntKind.wrap .i64 ((b:Int)-(a:Int))=((b-a:Nat):Int):=by rw[oq (by omega),bB]
 have e2:IntKind.wrap .i64 (Int.tdiv ((b-a:Nat):Int) 4)=(((b-a)/4:Nat):Int):=by rw[SY,bB]
 have e3: ∀k:Nat,k≤3→IntKind.wrap .i64 ((a:Int)+IntKind.wrap .i64 ((k:Int)*(((b-a)/4:Nat):Int)))=((a+k*((b-a)/4):Nat):Int):=by
  intro k hk
  have kA:k*((b-a)/4)≤3*((b-a)/4):=eC _ hk
  simp (disch:=omega) only[mulC,wrap64,gW]
 have SZ:=e3 1 (by omega)
 have vp:=e3 2 (by omega)
 have S3:=e3 3 (by omega)
 rw[show ((1:Nat):Int)=1 from rfl] at SZ
 rw[show ((2:Nat):Int)=2 from rfl] at vp
 rw[show ((3:Nat):Int)=3 from rfl] at S3
 by_cases h50:b-a≥50
 ·obtain ⟨m1,s1,q1,r1⟩:=SW (d:=d) (a:=a+1*((b-a)/4)) (s:=0) (by omega) (by omega) hs
  obtain ⟨m2,s2,q2,r2⟩:=SW (d:=d) (a:=a+2*((b-a)/4)) (s:=s1) (by omega) (by omega) hs
  obtain ⟨m3,s3,q3,r3⟩:=SW (d:=d) (a:=a+3*((b-a)/4)) (s:=s2) (by omega) (by omega) hs
  obtain ⟨m,s,q,r⟩:=SV (d:=d) (a:=m1) (b:=m2) (c:=m3) (s:=s3) (by omega) (by omega) (by omega)
  obtain ⟨h,hf⟩:=fin m s
  refine ⟨m,h,ax.KE ?_,by omega,by omega⟩
  unfold Ey xX xW
  rw[e1,e2,SZ,vp,S3,pf (by omega),cond_true,pf (by omega),cond_true,q1]
  simp only[Option.bind_some,V.az,V.td,V.toInt_int,dx,dk]
  rw[q2]
  simp only[Option.bind_some,V.az,V.td,V.toInt_int,dx,dk]
  rw[q3]
  simp only[Option.bind_some,V.az,V.td,V.toInt_int,dx,dk,un]
  rw[q]
  exact hf
 ·obtain ⟨m,s,q,r⟩:=SV (d:=d) (a:=a+1*((b-a)/4)) (b:=a+2*((b-a)/4)) (c:=a+3*((b-a)/4)) (s:=0) (by omega) (by omega) (by omega)
  obtain ⟨h,hf⟩:=fin m s
  refine ⟨m,h,ax.KE ?_,by omega,by omega⟩
  unfold Ey xX xW
  rw[e1,e2,SZ,vp,S3,pf (by omega),cond_true,vd (by omega),cond_false]
  simp only[un]
  rw[q]
  exact hf
theorem al2 {a b M:Nat} (hM1:1≤M) (hM:M≤2*(b-a)) (h8:8≤b-a) (hB:b<1152921504606846976): ∀(n i:Nat) (d:Array α) (r:Int),a+2*((b-a)/4)+2-i=n→a≤i→b≤d.size→d.size<1152921504606846976→
  ∃x y z R,Loop (Kw (ax.E α) CC a (b-a:Nat) M) ((i:Int),eA d,r)=some (x,y,eA R,z)∧PermIn a b d R:=by
 have e2:IntKind.wrap .i64 (Int.tdiv ((b-a:Nat):Int) 4)=(((b-a)/4:Nat):Int):=by rw[SY,bB]
 have vp:IntKind.wrap .i64 ((a:Int)+IntKind.wrap .i64 (2*(((b-a)/4:Nat):Int)))=((a+2*((b-a)/4):Nat):Int):=by
  have:=mulC 2 ((b-a)/4)
  rw[show ((2:Nat):Int)=2 from rfl] at this
  rw[this]
  simp (disch:=omega) only[wrap64,gW]
 intro n
 induction n with
 | zero=>
  intro i d r hn hi hb hs
  refine ⟨(i:Int),false,r,d,br ?_,permIn_refl _ _ _⟩
  simp only[Kw,xV,un]
  rw[e2,vp,eu,bB,vd (by omega),cond_false]
 | succ n ih=>
  intro i d r hn hi hb hs
  obtain ⟨R1,q1,q2⟩:=al0 r
  obtain ⟨o,ho,oP⟩: ∃o:Nat,(o=if R1&&&(M-1)≥b-a then (R1&&&(M-1))-(b-a) else R1&&&(M-1))∧o<b-a:=by
   refine ⟨_,rfl,?_⟩
   have:R1&&&(M-1)≤M-1:=Nat.and_le_right
   split<;>omega
  have hand:R1&&&(M-1)≤M-1:=Nat.and_le_right
  have hP:=swp_permIn (α:=α) d a b i (a+o) hi (by omega) (by omega) (by omega) hb
  obtain ⟨x,y,z,R,e,hR⟩:=ih (i+1) (swp d i (a+o)) (R1:Int) (by omega) (by omega) (by rw[size_swp];exact hb) (by rw[size_swp];exact hs)
  refine ⟨x,y,z,R,(bS ?_).trans e,permIn_trans _ _ _ a b hP hR⟩
  simp only[Kw,xV,un]
  rw[e2,vp,eu,wrap64 (x:=((a+2*((b-a)/4)+1:Nat):Int)) (by omega) (by omega),pf (by omega),cond_true,q1]
  simp only[Option.bind_some,V.az,V.td,V.toInt_int,dx,dk]
  have e5:IntKind.wrap .u64 ((M:Int)-1)=((M-1:Nat):Int):=by rw[lU hM1,rM (by omega)]
  rw[e5,u64_and q2 (by omega),wrap64 (x:=((R1&&&(M-1):Nat):Int)) (by omega) (by omega)]
  have fin: ∀k:Int,k=(o:Int)→(bif (decide (0≤(IntKind.wrap .i64 ((a:Int)+k))))&&(decide ((IntKind.wrap .i64 ((a:Int)+k))<((eA d).length:Int))) then
   ((eA d)[(IntKind.wrap .i64 ((a:Int)+k):Int).toNat]?).bind fun x4=>
   bif (decide (0≤(i:Int)))&&(decide ((i:Int)<((eA d).length:Int))) then
    ((eA d)[((i:Int):Int).toNat]?).bind fun x5=>
    bif (decide (0≤(i:Int)))&&(decide ((i:Int)<((eA d).length:Int))) then
    ((eA d)[((i:Int):Int).toNat]?).bind fun x6=>
    bif (decide (0≤(IntKind.wrap .i64 ((a:Int)+k))))&&(decide ((IntKind.wrap .i64 ((a:Int)+k))<(((eA d).set (((i:Int):Int).toNat) (.agg ((ax.E α).ex x4))).length:Int))) then
     (((eA d).set (((i:Int):Int).toNat) (.agg ((ax.E α).ex x4)))[(IntKind.wrap .i64 ((a:Int)+k):Int).toNat]?).bind fun x7=>
     some (.inl (IntKind.wrap .i64 ((i:Int)+1),((eA d).set (((i:Int):Int).toNat) (.agg ((ax.E α).ex x4))).set ((IntKind.wrap .i64 ((a:Int)+k):Int).toNat) (.agg ((ax.E α).ex x5)),(R1:Int)))
    else none
    else none
   else none
   else none:Option ((Int × List V × Int) ⊕ (Int × Bool × List V × Int)))=some (.inl (((i+1:Nat):Int),eA (swp d i (a+o)),(R1:Int))):=by
   intro k hk
   subst hk
   simp (disch:=omega) only[au,bQ,gz,ai,aj,wrap64,eu,gW,Int.toNat_natCast,Option.bind_some,iw,iy,ax.re,gU,jD,iM,ax.cs,V.az,V.toInt_int,cond_true,cond_false]
   rfl
  unfold Bk
  by_cases h:R1&&&(M-1)≥b-a
  ·rw[ai h] at ho
   rw[pf (by omega),cond_true]
   exact fin _ (by rw[oq (by omega),bB];omega)
  ·rw[aj h] at ho
   rw[vd (by omega),cond_false]
   exact fin _ (by omega)
theorem al3 {a b:Nat} {d:Array α} (gg:a+12<b) (hb:b≤d.size) (hs:d.size<1152921504606846976): ∃R,CC ((ax.E α).k 7) [.int .i64 (a:Int),.int .i64 (b:Int),.list (ax.E α).T (eA d)]=some [.list (ax.E α).T (eA R)]∧PermIn a b d R:=by
 obtain ⟨M,q1,q2,q3⟩:=alZ (x:=b-a) (by omega) (by omega)
 have e1:IntKind.wrap .i64 ((b:Int)-(a:Int))=((b-a:Nat):Int):=by rw[oq (by omega),bB]
 have e2:IntKind.wrap .i64 (Int.tdiv ((b-a:Nat):Int) 4)=(((b-a)/4:Nat):Int):=by rw[SY,bB]
 have vp:IntKind.wrap .i64 ((a:Int)+IntKind.wrap .i64 (2*(((b-a)/4:Nat):Int)))=((a+2*((b-a)/4):Nat):Int):=by
  have:=mulC 2 ((b-a)/4)
  rw[show ((2:Nat):Int)=2 from rfl] at this
  rw[this]
  simp (disch:=omega) only[wrap64,gW]
 obtain ⟨x,y,z,R,e,hR⟩:=al2 (a:=a) (b:=b) (M:=M) q2 q3 (by omega) (by omega) _ (a+2*((b-a)/4)-1) d (IntKind.wrap .u64 ((b-a:Nat):Int)) rfl (by omega) hb hs
 refine ⟨R,ax.SK ?_,hR⟩
 unfold Kx
 rw[e1,au,aF,q1]
 simp only[Option.bind_some,V.az,V.toInt_int]
 rw[e2,vp,lU (by omega),wrap64 (x:=((a+2*((b-a)/4)-1:Nat):Int)) (by omega) (by omega),e]
 rfl
noncomputable def vq (E:SE) (C:ae) (a b':Int) (fB fW:Bool) (c9 fX:Int) (qn:List V) {β:Type} (kn:(Int × Int × Int × Bool × Bool × (List V))→Option β):Option β:=
      bif decide ((a:Int)>0) then
       aA qn (IntKind.wrap .i64 (a-1)) fun tE=>
       aA qn fX fun xG=>
        (C E.cmp (E.ex tE++E.ex xG)).bind fun Bc=>
        bif !(decide ((((V.nth Bc 0).toInt):Int)<0)) then
        (C (E.k 5) [.int .i64 a,.int .i64 b',.int .i64 fX,.list E.T qn]).bind fun Br=>
        kn ((V.nth Br 0).toInt,b',c9,fB,fW,(V.nth (Br.drop 1) 0).toList)
        else
        (C (E.k 4) [.int .i64 a,.int .i64 b',.int .i64 fX,.list E.T qn]).bind fun fC=>
        bif decide (((IntKind.wrap .i64 (((V.nth fC 0).toInt)-a)):Int)<(IntKind.wrap .i64 (b'-((V.nth fC 0).toInt)))) then
         (C (E.k 12) [.int .i64 a,.int .i64 ((V.nth fC 0).toInt),.int .i64 c9,.list E.T ((V.nth (fC.drop 2) 0).toList)]).bind fun Bm=>
         kn (IntKind.wrap .i64 (((V.nth fC 0).toInt)+1),b',c9,decide (((IntKind.wrap .i64 (((V.nth fC 0).toInt)-a)):Int)≥(IntKind.wrap .i64 (Int.tdiv (IntKind.wrap .i64 (b'-a)) 8))),(V.nth (fC.drop 1) 0).toBool,(V.nth Bm 0).toList)
        else
         (C (E.k 12) [.int .i64 (IntKind.wrap .i64 (((V.nth fC 0).toInt)+1)),.int .i64 b',.int .i64 c9,.list E.T ((V.nth (fC.drop 2) 0).toList)]).bind fun kJ=>
         kn (a,(V.nth fC 0).toInt,c9,decide (((IntKind.wrap .i64 (b'-((V.nth fC 0).toInt))):Int)≥(IntKind.wrap .i64 (Int.tdiv (IntKind.wrap .i64 (b'-a)) 8))),(V.nth (fC.drop 1) 0).toBool,(V.nth kJ 0).toList)
      else
       (C (E.k 4) [.int .i64 a,.int .i64 b',.int .i64 fX,.list E.T qn]).bind fun nB=>
       bif decide (((IntKind.wrap .i64 (((V.nth nB 0).toInt)-a)):Int)<(IntKind.wrap .i64 (b'-((V.nth nB 0).toInt)))) then
       (C (E.k 12) [.int .i64 a,.int .i64 ((V.nth nB 0).toInt),.int .i64 c9,.list E.T ((V.nth (nB.drop 2) 0).toList)]).bind fun Sz=>
       kn (IntKind.wrap .i64 (((V.nth nB 0).toInt)+1),b',c9,decide (((IntKind.wrap .i64 (((V.nth nB 0).toInt)-a)):Int)≥(IntKind.wrap .i64 (Int.tdiv (IntKind.wrap .i64 (b'-a)) 8))),(V.nth (nB.drop 1) 0).toBool,(V.nth Sz 0).toList)
       else
       (C (E.k 12) [.int .i64 (IntKind.wrap .i64 (((V.nth nB 0).toInt)+1)),.int .i64 b',.int .i64 c9,.list E.T ((V.nth (nB.drop 2) 0).toList)]).bind fun lV=>
       kn (a,(V.nth nB 0).toInt,c9,decide (((IntKind.wrap .i64 (b'-((V.nth nB 0).toInt))):Int)≥(IntKind.wrap .i64 (Int.tdiv (IntKind.wrap .i64 (b'-a)) 8))),(V.nth (nB.drop 1) 0).toBool,(V.nth lV 0).toList)
theorem KK (E:SE) (C:ae) (a b' gX:Int) (fB fW:Bool) (ao:List V) {β:Type} (kn:(Int × Int × Int × Bool × Bool × (List V))→Option β) (kr:(List V)→Option β):
  ph E C a b' gX fB fW ao kn kr=
 bif decide (((IntKind.wrap .i64 (b'-a)):Int)≤12) then
  (C (E.k 0) [.int .i64 a,.int .i64 b',.list E.T ao]).bind fun r1=>
  kr ((V.nth r1 0).toList)
 else
  bif (gX:Int)==0 then
  (C (E.k 2) [.int .i64 a,.int .i64 b',.list E.T ao]).bind fun r2=>
  kr ((V.nth r2 0).toList)
  else
  vk E C a b' gX fB fW (IntKind.wrap .i64 (b'-a)) (!fB) ao (un fun (c9:Int) (Ez:List V)=>
   (C (E.k 11) [.list E.T Ez,.int .i64 a,.int .i64 b']).bind fun r6=>
   vl E C a b' c9 fB fW (IntKind.wrap .i64 (b'-a)) ((V.nth r6 0).toInt) ((V.nth (r6.drop 1) 0).toInt) ((((V.nth (r6.drop 1) 0).toInt):Int)==2) Ez (un fun (fX:Int)=>un fun (Sy:Int) (qk:List V)=>
    bif fB then
     bif fW then
     mO E C a b' c9 fB fW (IntKind.wrap .i64 (b'-a)) fX ((Sy:Int)==1) qk (cf (un fun (Ru:Bool) (S4:List V)=>
      kr S4) (fun (qn:List V)=>vq E C a b' fB fW c9 fX qn kn))
     else
     mO E C a b' c9 fB fW (IntKind.wrap .i64 (b'-a)) fX false qk (cf (un fun (JP:Bool) (al4:List V)=>
      kr al4) (fun (al5:List V)=>vq E C a b' fB fW c9 fX al5 kn))
    else
     mO E C a b' c9 fB fW (IntKind.wrap .i64 (b'-a)) fX false qk (cf (un fun (ah5:Bool) (al6:List V)=>
      kr al6) (fun (al7:List V)=>vq E C a b' fB fW c9 fX al7 kn)))):=rfl
section
variable {a b:Nat} {lim:Int} {wb wp:Bool}
theorem al8 {d:Array α} (gg:a+12<b) (hb:b≤d.size) (hs:d.size<1152921504606846976) (len:Int) (t:Bool): ∃(l1:Int) (d1:Array α),PermIn a b d d1∧∀(β:Type) (kr:(Int × List V)→Option β),vk (ax.E α) CC a b lim wb wp len t (eA d) kr=kr (l1,eA d1):=by
 cases t with
 | true=>
  obtain ⟨R,e,hR⟩:=al3 gg hb hs
  refine ⟨IntKind.wrap .i64 (lim-1),R,hR,fun β kr=> ?_⟩
  unfold vk
  rw[cond_true,e]
  rfl
 | false=>exact ⟨lim,d,permIn_refl _ _ _,fun β kr=>rfl⟩
theorem al9 {d:Array α} (gg:a+12<b) (hb:b≤d.size) (hs:d.size<1152921504606846976) (len h:Int) (t:Bool) {p:Nat} (h1:a≤p) (h2:p<b): ∃(p2:Nat) (h2:Int) (d1:Array α),a≤p2∧p2<b∧PermIn a b d d1∧∀(β:Type) (kr:(Int × Int × List V)→Option β),vl (ax.E α) CC a b lim wb wp len p h t (eA d) kr=kr ((p2:Int),h2,eA d1):=by
 cases t with
 | true=>
  refine ⟨b-1-(p-a),1,reverseRange d a b,by omega,by omega,reverseRange_holds d a b (by omega) hb,fun β kr=> ?_⟩
  unfold vl
  rw[cond_true,alE (by omega) hb hs]
  simp (disch:=omega) only[Option.bind_some,V.az,V.bK,lU,oq,wrap64]
 | false=>exact ⟨p,h,d,h1,h2,permIn_refl _ _ _,fun β kr=>rfl⟩
theorem ama {d:Array α} (gg:a+12<b) (hb:b≤d.size) (hs:d.size<1152921504606846976) (hB:Below aH a b d) (len p:Int) (t:Bool): ∃d1:Array α,PermIn a b d d1∧
  ((∀(β:Type) (kr:((Bool × List V) ⊕ List V)→Option β),mO (ax.E α) CC a b lim wb wp len p t (eA d) kr=kr (.inr (eA d1)))∨
  (SortedIn aH a b d1∧∀(β:Type) (kr:((Bool × List V) ⊕ List V)→Option β),mO (ax.E α) CC a b lim wb wp len p t (eA d) kr=kr (.inl (true,eA d1)))):=by
 cases t with
 | true=>
  have hp:=partialInsertionSort_holds (lt:=aH) Bp d a b (by omega) hb hB
  refine ⟨_,hp.1,?_⟩
  cases h:(partialInsertionSort aH d a b).2 with
  | true=>
   refine .inr ⟨hp.2 h,fun β kr=> ?_⟩
   unfold mO
   rw[cond_true,aaG (by omega) hb hs,h]
   rfl
  | false=>
   refine .inl fun β kr=> ?_
   unfold mO
   rw[cond_true,aaG (by omega) hb hs,h]
   rfl
 | false=>exact ⟨d,permIn_refl _ _ _,.inl fun β kr=>rfl⟩
end
def KL (a b:Nat) (d:Array α):Prop:= ∀(lim:Int) (wb wp:Bool),∃R,Loop (aau (ax.E α) CC) ((a:Int),(b:Int),lim,wb,wp,eA d)=some (eA R)∧PermIn a b d R∧SortedIn aH a b R
theorem KL.call {a b:Nat} {d:Array α} (h:KL a b d) (lim:Int): ∃R,CC ((ax.E α).k 12) [.int .i64 (a:Int),.int .i64 (b:Int),.int .i64 lim,.list (ax.E α).T (eA d)]=some [.list (ax.E α).T (eA R)]∧PermIn a b d R∧SortedIn aH a b R:=by
 obtain ⟨R,e,h1,h2⟩:=h lim true true
 refine ⟨R,ax.SN ?_,h1,h2⟩
 unfold KA
 rw[e]
 rfl
theorem amb {a b p:Nat} {d:Array α} (gg:a+12<b) (hb:b≤d.size) (hs:d.size<1152921504606846976) (hB:Below aH a b d) (h1:a≤p) (h2:p<b)
  (ih: ∀(a2 b2:Nat) (d2:Array α),b2-a2<b-a→a2≤b2→b2≤d2.size→d2.size<1152921504606846976→Below aH a2 b2 d2→KL a2 b2 d2) (wb wp:Bool) (lim:Int):
  ∃(a2 b2:Nat) (ya yb:Bool) (d2:Array α),b2-a2<b-a∧a2≤b2∧b2≤d2.size∧d2.size<1152921504606846976∧Below aH a2 b2 d2∧
   (∀R,PermIn a2 b2 d2 R→SortedIn aH a2 b2 R→PermIn a b d R∧SortedIn aH a b R)∧
   ∀(β:Type) (kn:(Int × Int × Int × Bool × Bool × (List V))→Option β),vq (ax.E α) CC a b wb wp lim p (eA d) kn=kn ((a2:Int),(b2:Int),lim,ya,yb,eA d2):=by
 have part: ∃(a2 b2:Nat) (ya yb:Bool) (d2:Array α),b2-a2<b-a∧a2≤b2∧b2≤d2.size∧d2.size<1152921504606846976∧Below aH a2 b2 d2∧
   (∀R,PermIn a2 b2 d2 R→SortedIn aH a2 b2 R→PermIn a b d R∧SortedIn aH a b R)∧
   ∀(β:Type) (kn:(Int × Int × Int × Bool × Bool × (List V))→Option β),
    ((CC ((ax.E α).k 4) [.int .i64 (a:Int),.int .i64 (b:Int),.int .i64 (p:Int),.list (ax.E α).T (eA d)]).bind fun fC=>
        bif decide (((IntKind.wrap .i64 (((V.nth fC 0).toInt)-(a:Int))):Int)<(IntKind.wrap .i64 ((b:Int)-((V.nth fC 0).toInt)))) then
         (CC ((ax.E α).k 12) [.int .i64 (a:Int),.int .i64 ((V.nth fC 0).toInt),.int .i64 lim,.list (ax.E α).T ((V.nth (fC.drop 2) 0).toList)]).bind fun Bm=>
         kn (IntKind.wrap .i64 (((V.nth fC 0).toInt)+1),(b:Int),lim,decide (((IntKind.wrap .i64 (((V.nth fC 0).toInt)-(a:Int))):Int)≥(IntKind.wrap .i64 (Int.tdiv (IntKind.wrap .i64 ((b:Int)-(a:Int))) 8))),(V.nth (fC.drop 1) 0).toBool,(V.nth Bm 0).toList)
        else
         (CC ((ax.E α).k 12) [.int .i64 (IntKind.wrap .i64 (((V.nth fC 0).toInt)+1)),.int .i64 (b:Int),.int .i64 lim,.list (ax.E α).T ((V.nth (fC.drop 2) 0).toList)]).bind fun kJ=>
         kn ((a:Int),(V.nth fC 0).toInt,lim,decide (((IntKind.wrap .i64 ((b:Int)-((V.nth fC 0).toInt))):Int)≥(IntKind.wrap .i64 (Int.tdiv (IntKind.wrap .i64 ((b:Int)-(a:Int))) 8))),(V.nth (fC.drop 1) 0).toBool,(V.nth kJ 0).toList))=kn ((a2:Int),(b2:Int),lim,ya,yb,eA d2):=by
  obtain ⟨mid,ap,d4,hx⟩: ∃mid ap d4,partition aH d a b p=(mid,ap,d4):=⟨_,_,_,rfl⟩
  obtain ⟨g1,g2,qs,hBa,hBr,amc,amd⟩:=round_part Bp (partition_holds aH) h1 h2 hb hB hx
  have hc:=alJ (a:=a) (b:=b) (pivot:=p) (d:=d) h2 (by omega) hb hs
  rw[hx] at hc
  by_cases hl:mid-a<b-mid
  ·obtain ⟨L,e,l1,l2⟩:=(ih a mid d4 (by omega) g1 (by rw[qs];omega) (by rw[qs];exact hs) hBa).call lim
   obtain ⟨S5,EC⟩:=amc _ l1 l2
   refine ⟨mid+1,b,decide (((IntKind.wrap .i64 ((mid:Int)-(a:Int))):Int)≥(IntKind.wrap .i64 (Int.tdiv (IntKind.wrap .i64 ((b:Int)-(a:Int))) 8))),ap,L,by omega,by omega,by rw[l1.1,qs];exact hb,by rw[l1.1,qs];exact hs,S5,EC,fun β kn=> ?_⟩
   ·rw[hc]
    simp only[Option.bind_some,V.az,V.td,V.toInt_int,V.cm,V.bK,dx,dk]
    rw[au,ai (by rw[oq g1,oq (by omega),wrap64 (by omega) (by omega),wrap64 (by omega) (by omega)];omega),e]
    simp only[Option.bind_some,V.az,V.bK]
    rw[eu,wrap64 (x:=((mid+1:Nat):Int)) (by omega) (by omega)]
  ·obtain ⟨L,e,l1,l2⟩:=(ih (mid+1) b d4 (by omega) (by omega) (by rw[qs];exact hb) (by rw[qs];exact hs) hBr).call lim
   obtain ⟨S5,EC⟩:=amd _ l1 l2
   refine ⟨a,mid,decide (((IntKind.wrap .i64 ((b:Int)-(mid:Int))):Int)≥(IntKind.wrap .i64 (Int.tdiv (IntKind.wrap .i64 ((b:Int)-(a:Int))) 8))),ap,L,by omega,by omega,by rw[l1.1,qs];omega,by rw[l1.1,qs];exact hs,S5,EC,fun β kn=> ?_⟩
   ·rw[hc]
    simp only[Option.bind_some,V.az,V.td,V.toInt_int,V.cm,V.bK,dx,dk]
    rw[au,aj (by rw[oq g1,oq (by omega),wrap64 (by omega) (by omega),wrap64 (by omega) (by omega)];omega),eu,wrap64 (x:=((mid+1:Nat):Int)) (by omega) (by omega),e]
    simp only[Option.bind_some,V.az,V.bK]
 by_cases ha:0<a
 ·by_cases hc:ax.cmp d[a-1]! d[p]! <0
  ·obtain ⟨a2,b2,ya,yb,d2,q1,q2,q3,q4,q5,q6,q7⟩:=part
   refine ⟨a2,b2,ya,yb,d2,q1,q2,q3,q4,q5,q6,fun β kn=> ?_⟩
   rw[←q7 β kn]
   unfold vq
   rw[au,aF,lU ha,bB,lW (i:=a-1),lW (i:=p)]
   simp only[ax.re,ax.cs,Option.bind_some,V.az,V.toInt_int]
   rw[gz,au,ai hc]
  ·obtain ⟨mid,d4,hx⟩: ∃mid d4,partitionEqual aH d a b p=(mid,d4):=⟨_,_,rfl⟩
   obtain ⟨g1,Mv,qs,hB4,EC⟩:=round_eq Bp (partitionEqual_holds aH) ha h1 h2 hb hB (by rw[aaM];exact hc) hx
   have he:=alL (a:=a) (b:=b) (pivot:=p) (d:=d) h2 (by omega) hb hs
   rw[hx] at he
   refine ⟨mid,b,wb,wp,d4,by omega,Mv,by rw[qs];exact hb,by rw[qs];exact hs,hB4,EC,fun β kn=> ?_⟩
   unfold vq
   rw[au,aF,lU ha,bB,lW (i:=a-1),lW (i:=p)]
   simp only[ax.re,ax.cs,Option.bind_some,V.az,V.toInt_int]
   rw[gz,au,aj hc,he]
   rfl
 ·obtain ⟨a2,b2,ya,yb,d2,q1,q2,q3,q4,q5,q6,q7⟩:=part
  refine ⟨a2,b2,ya,yb,d2,q1,q2,q3,q4,q5,q6,fun β kn=> ?_⟩
  rw[←q7 β kn]
  unfold vq
  rw[au,aD]
theorem ame: ∀(n a b:Nat) (d:Array α),b-a≤n→a≤b→b≤d.size→d.size<1152921504606846976→Below aH a b d→KL a b d:=by
 intro n
 induction n with
 | zero=>
  intro a b d hn gg hb hs hB lim wb wp
  have hi:=insertionSort_holds (lt:=aH) Bp d a b gg hb
  refine ⟨_,br ?_,hi⟩
  show ph (ax.E α) CC a b lim wb wp (eA d) (fun y=>some (Sum.inl y)) (fun r=>some (Sum.inr r))=_
  rw[KK,au,ai (by rw[oq gg,wrap64 (by omega) (by omega)];omega),aaw hb hs (by omega)]
  rfl
 | succ n ih=>
  intro a b d hn gg hb hs hB lim wb wp
  by_cases AU:b-a≤12
  ·have hi:=insertionSort_holds (lt:=aH) Bp d a b gg hb
   refine ⟨_,br ?_,hi⟩
   show ph (ax.E α) CC a b lim wb wp (eA d) (fun y=>some (Sum.inl y)) (fun r=>some (Sum.inr r))=_
   rw[KK,au,ai (by rw[oq gg,wrap64 (by omega) (by omega)];omega),aaw hb hs (by omega)]
   rfl
  ·have ED:a+12<b:=by omega
   have uN: ¬(((IntKind.wrap .i64 ((b:Int)-(a:Int))):Int)≤12):=by rw[oq gg,bB];omega
   by_cases h0:lim=0
   ·have hi:=heapSort_holds (lt:=aH) Bp d a b gg hb
    refine ⟨_,br ?_,hi⟩
    show ph (ax.E α) CC a b lim wb wp (eA d) (fun y=>some (Sum.inl y)) (fun r=>some (Sum.inr r))=_
    rw[KK,au,aj uN,dv,ai h0,alC (by omega) hb hs]
    rfl
   ·obtain ⟨l1,d1,s1,k1⟩:=al8 (lim:=lim) (wb:=wb) (wp:=wp) ED hb hs (IntKind.wrap .i64 ((b:Int)-(a:Int))) (!wb)
    have b1:b≤d1.size:=by rw[s1.1];exact hb
    have z1:d1.size<1152921504606846976:=by rw[s1.1];exact hs
    obtain ⟨p,h,c1,p1,p2⟩:=al1 ED b1 z1
    obtain ⟨q,h2,d2,q1,q2,s2,k2⟩:=al9 (lim:=l1) (wb:=wb) (wp:=wp) ED b1 z1 (IntKind.wrap .i64 ((b:Int)-(a:Int))) h (h==2) p1 p2
    have b2:b≤d2.size:=by rw[s2.1];exact b1
    have z2:d2.size<1152921504606846976:=by rw[s2.1];exact z1
    have B2:Below aH a b d2:=(hB.perm hb s1).perm b1 s2
    obtain ⟨t,ht⟩: ∃t:Bool,t=(bif wb then (bif wp then (h2==1) else false) else false):=⟨_,rfl⟩
    obtain ⟨d3,s3,k3⟩:=ama (lim:=l1) (wb:=wb) (wp:=wp) ED b2 z2 B2 (IntKind.wrap .i64 ((b:Int)-(a:Int))) (q:Int) t
    have b3:b≤d3.size:=by rw[s3.1];exact b2
    have z3:d3.size<1152921504606846976:=by rw[s3.1];exact z2
    have B3:Below aH a b d3:=B2.perm b2 s3
    have P3:PermIn a b d d3:=permIn_trans _ _ _ a b (permIn_trans _ _ _ a b s1 s2) s3
    have step: ∀(β:Type) (kn:(Int × Int × Int × Bool × Bool × (List V))→Option β) (kr:(List V)→Option β),ph (ax.E α) CC a b lim wb wp (eA d) kn kr=
      mO (ax.E α) CC a b l1 wb wp (IntKind.wrap .i64 ((b:Int)-(a:Int))) (q:Int) t (eA d2) (cf (un fun (Ru:Bool) (S4:List V)=>kr S4) (fun (qn:List V)=>vq (ax.E α) CC a b wb wp l1 q qn kn)):=by
     intro β kn kr
     rw[KK,au,aj uN,dv,aj h0,k1]
     simp only[un]
     rw[c1]
     simp only[Option.bind_some,V.az,V.td,V.toInt_int,dx,dk]
     rw[k2]
     simp only[un]
     rw[ht]
     cases wb
     ·rfl
     ·cases wp
      ·rfl
      ·rfl
    rcases k3 with k3|⟨k3s,k3⟩
    ·obtain ⟨a4,b4,wb4,wp4,d4,r1,r2,r3,r4,r5,r6,r7⟩:=amb ED b3 z3 B3 q1 q2 (fun a2 b2 d2 aR h1 h2 h3 h4=>ih a2 b2 d2 (by omega) h1 h2 h3 h4) wb wp l1
     obtain ⟨R,e,e1,e2⟩:=ih a4 b4 d4 (by omega) r2 r3 r4 r5 l1 wb4 wp4
     obtain ⟨f1,f2⟩:=r6 R e1 e2
     refine ⟨R,(bS ?_).trans e,permIn_trans _ _ _ a b P3 f1,f2⟩
     show ph (ax.E α) CC a b lim wb wp (eA d) (fun y=>some (Sum.inl y)) (fun r=>some (Sum.inr r))=_
     rw[step,k3]
     exact r7 _ (fun y=>some (Sum.inl y))
    ·refine ⟨d3,br ?_,P3,k3s⟩
     show ph (ax.E α) CC a b lim wb wp (eA d) (fun y=>some (Sum.inl y)) (fun r=>some (Sum.inr r))=_
     rw[step,k3]
     rfl
theorem aaP (l:List α) (hs:l.length<1152921504606846976): ∃R:List α,CC ((ax.E α).k 13) [.list (ax.E α).T (l.map ax.enc)]=some [.list (ax.E α).T (R.map ax.enc)]∧R.Perm l∧R.Pairwise (fun x y=> ¬ax.cmp y x<0):=by
 obtain ⟨L,e1,_⟩:=aaO (x:=l.length) (by omega)
 obtain ⟨R,e2,h1,h2⟩:=(ame _ 0 l.toArray.size l.toArray (bC _) (fS _) (bC _) (by simpa using hs) (.inl rfl)).call (L:Int)
 have bw:R.size=l.length:=by rw[h1.1];simp
 refine ⟨R.toList,ax.SO ?_,?_,?_⟩
 ·unfold KC
  rw[bc,rM (A:=l.length) (by omega),e1]
  simp only[Option.bind_some,V.az,V.toInt_int]
  have e3:eA l.toArray=l.map ax.enc:=by simp[rV]
  rw[e3,show ((l.toArray.size:Nat):Int)=(l.length:Int) by simp,show ((0:Nat):Int)=0 from rfl] at e2
  rw[e2]
  rfl
 ·have h3:=h1.2.2
  rw[show l.toArray.size=R.size from h1.1.symm,Array.extract_size,h1.1,Array.extract_size] at h3
  exact h3
 ·rw[uc]
  intro i j hi hj sY
  have h3:=h2 i j (fS _) sY (by simpa[←bw] using hj)
  rw[aaM] at h3
  have dX:i<R.size:=by simpa using hi
  have gO:j<R.size:=by simpa using hj
  rw[getElem!_pos R i dX,getElem!_pos R j gO] at h3
  simpa using h3
end Go.AM
set_option maxRecDepth 100000
namespace Go.AM.SX
open Go.Proofs Ex
structure XE where
 e:Ex
 ok:e.Ok
instance:Inhabited XE:=⟨⟨.node 0 0 [],.node (by omega) (by omega) (by simp) (by simp)⟩⟩
namespace XE
def enc (x:XE):V:=x.e.enc
theorem bW (x:XE):(x.enc.cell 0).toInt=x.e.op:=Go.AM.bW x.e
theorem bX (x:XE):(x.enc.cell 1).toInt=x.e.letter:=Go.AM.bX x.e
theorem bY (x:XE):(x.enc.cell 2).toList=x.e.kids.map Ex.enc:=Go.AM.bY x.e
theorem re (x:XE):V.agg [.int .i64 x.e.op,.int .i64 x.e.letter,.list ag (x.e.kids.map Ex.enc)]=x.enc:=(Ex.ja x.e).symm
end XE
def EE (a b:XE):Int:=cmp a.e b.e
theorem amf (a b:XE):CC bP [.int .i64 a.e.op,.int .i64 a.e.letter,.list ag (a.e.kids.map Ex.enc),.int .i64 b.e.op,.int .i64 b.e.letter,.list ag (b.e.kids.map Ex.enc)]=some [.int .i64 (EE a b)]:=
 JR a.e a.ok b.e b.ok
def XE.lt (a b:XE):Prop:=EE a b<0
theorem XE.lt_irrefl (a:XE): ¬a.lt a:=by unfold XE.lt EE;rw[DW];omega
theorem amg {a b c:Ex} (h1:cmp a b<0) (h2:cmp b c<0):cmp a c<0:=by
 have h3:=RD a b c (by omega) (by omega)
 refine Decidable.byContradiction fun h=> ?_
 have h0:cmp a c=0:=by omega
 have:=xo a c h0
 subst this
 have:=u3 a b
 omega
theorem XE.lt_trans {a b c:XE} (h1:a.lt b) (h2:b.lt c):a.lt c:=amg h1 h2
theorem XE.amh {a b c:XE} (h1: ¬a.lt b) (h2: ¬b.lt c): ¬a.lt c:=by
 unfold XE.lt EE at*
 have a1:=u3 a.e b.e
 have a2:=u3 b.e c.e
 have a3:=u3 a.e c.e
 have:=RD c.e b.e a.e (by omega) (by omega)
 omega
end Go.AM.SX
set_option maxRecDepth 100000
namespace Go.AM
open Go.Proofs
noncomputable def b9:SE:=⟨ag,bP,fun x1=>[V.int .i64 ((x1.cell 0).toInt),V.int .i64 ((x1.cell 1).toInt),.list ag ((x1.cell 2).toList)],fun k=>[Oz,OK,OA,OD,OG,OF,OE,OB,OM,OL,OO,OC,On,xb].getD k 0⟩
noncomputable def aaQ (C:ae):bI:=bu 65 Qx [false,false,false,true,true] [[1,2,3,0,0,0]] (@ve b9 C) (bu 17 Qy [false,false,true,true] [[1,2,0,0,0]] (@xF b9 C) aW)
theorem ami (C:ae):ba C (aaQ C) 127 (Lp [1,0,0,1,0,0,1,0,0] 127):=bt Qx [false,false,false,true,true] [[1,2,3,0,0,0]] (@ve b9 C) (aK ar)
theorem amj (C:ae):ba C (aaQ C) 127 (Lp [1,0,0] 127):=bt Qy [false,false,true,true] [[1,2,0,0,0]] (@xF b9 C) (aK (aZ (ami C) ar))
theorem amk {a b':Int} {ao:LV} {r:Option LV} (h:Kj b9 CC a b' ao=r):CC Oz [V.int .i64 a,V.int .i64 b',.list ag ao]=r:=aV (aZ (amj CC) ar) h
noncomputable def aaR (C:ae):bI:=gR 655 QW [[1,2,3,0,6]] (@tD b9 C) (bu 17 QX [false,false,true,true] [[1,2,0,0,0,0],[1,2,0,0,0,0]] (@rW b9 C) aW)
theorem aml (C:ae):ba C (aaR C) 152 (Cd 40 [1,0,0,0,1,1,0,1,0] [1,0,0,0,1,1,0,1,1] 152):=gQ QW [[1,2,3,0,6]] (@tD b9 C) (aK ar) (aK ar)
theorem amm (C:ae):ba C (aaR C) 152 (Lp [1,0,0] 152):=bt QX [false,false,true,true] [[1,2,0,0,0,0],[1,2,0,0,0,0]] (@rW b9 C) (aK (aZ (aml C) ar))
theorem amn {lo hi first:Int} {ao:LV} {r:Option LV} (h:Kk b9 CC lo hi first ao=r):CC OK [V.int .i64 lo,V.int .i64 hi,V.int .i64 first,.list ag ao]=r:=aV (aZ (amm CC) ar) h
noncomputable def aaS (C:ae):bI:=bu 65 Qz [false,false,false,true,true] [[1,2,3,0,0,0]] (@xJ b9 C) (bu 129 QA [false,false,true,true] [[1,2,0,0,0]] (@xK b9 C) aW)
theorem amo (C:ae):ba C (aaS C) 128 (Lp [1,1,1,0,1,0,0] 128):=bt Qz [false,false,false,true,true] [[1,2,3,0,0,0]] (@xJ b9 C) (aK ar)
theorem amp (C:ae):ba C (aaS C) 128 (Lp [1,1,1,1,1,0,0] 128):=bt QA [false,false,true,true] [[1,2,0,0,0]] (@xK b9 C) (aK ar)
theorem amq {a b':Int} {ao:LV} {r:Option LV} (h:Kn b9 CC a b' ao=r):CC OA [V.int .i64 a,V.int .i64 b',.list ag ao]=r:=aV (aZ (amo CC) (aZ (amp CC) ar)) h
noncomputable def amr (C:ae):bI:=bu 33 QF [true,true,true] [[0,0,0,0]] (@vf b9 C) aW
theorem ams (C:ae):ba C (amr C) 131 (Lp [1,1,0,0] 131):=bt QF [true,true,true] [[0,0,0,0]] (@vf b9 C) (aK ar)
theorem amt {a b':Int} {ao:LV} {r:Option LV} (h:Ko b9 CC a b' ao=r):CC OD [V.int .i64 a,V.int .i64 b',.list ag ao]=r:=aV (aZ (ams CC) ar) h
noncomputable def EF (C:ae):bI:=bu 49 QO [false,true,false,false] [[1,0,3,0,4]] (@xL b9 C) (bu 81 QP [false,false,true,false] [[1,2,0,0,4]] (@vg b9 C) (bu 209 QQ [false,true,false,false] [[1,0,3,0,4]] (@xM b9 C) (bu 241 QR [false,false,true,false] [[1,2,0,0,4]] (@vh b9 C) (bu 210 QS [false,true,true,true] [[1,0,0,0,0]] (@xN b9 C) aW))))
theorem amu (C:ae):ba C (EF C) 134 (Lp [1,1,1,0,0,0] 134):=bt QO [false,true,false,false] [[1,0,3,0,4]] (@xL b9 C) (aK ar)
theorem amv (C:ae):ba C (EF C) 134 (Lp [1,1,1,1,0,0,0] 134):=bt QP [false,false,true,false] [[1,2,0,0,4]] (@vg b9 C) (aK ar)
theorem amw (C:ae):ba C (EF C) 134 (Lp [1,1,1,1,1,1,1,1,1,0,0,0,0,0,0,0] 134):=bt QQ [false,true,false,false] [[1,0,3,0,4]] (@xM b9 C) (aK ar)
theorem amx (C:ae):ba C (EF C) 134 (Lp [1,1,1,1,1,1,1,1,1,0,0,0,0,1,0,0,0] 134):=bt QR [false,false,true,false] [[1,2,0,0,4]] (@vh b9 C) (aK ar)
theorem amy (C:ae):ba C (EF C) 134 (Lp [1,1,1,1,1,1,1,1,1,0,0,0] 134):=bt QS [false,true,true,true] [[1,0,0,0,0]] (@xN b9 C) (aK (aZ (amw C) (aZ (amx C) ar)))
theorem amz {a b' pivot:Int} {ao:LV} {r:Option LV} (h:Kr b9 CC a b' pivot ao=r):CC OG [V.int .i64 a,V.int .i64 b',V.int .i64 pivot,.list ag ao]=r:=aV (aZ (amu CC) (aZ (amv CC) (aZ (amy CC) ar))) h
noncomputable def S6 (C:ae):bI:=bu 49 QL [false,true,false,false] [[1,0,3,0,4]] (@xP b9 C) (bu 81 QM [false,false,true,false] [[1,2,0,0,4]] (@vi b9 C) (bu 50 QN [false,true,true,true] [[1,0,0,0,0]] (@xQ b9 C) aW))
theorem amA (C:ae):ba C (S6 C) 133 (Lp [1,1,1,0,0,0,0,0,0,0] 133):=bt QL [false,true,false,false] [[1,0,3,0,4]] (@xP b9 C) (aK ar)
theorem amB (C:ae):ba C (S6 C) 133 (Lp [1,1,1,0,0,0,0,1,0,0,0] 133):=bt QM [false,false,true,false] [[1,2,0,0,4]] (@vi b9 C) (aK ar)
theorem amC (C:ae):ba C (S6 C) 133 (Lp [1,1,1,0,0,0] 133):=bt QN [false,true,true,true] [[1,0,0,0,0]] (@xQ b9 C) (aK (aZ (amA C) (aZ (amB C) ar)))
theorem amD {a b' pivot:Int} {ao:LV} {r:Option LV} (h:Ku b9 CC a b' pivot ao=r):CC OF [V.int .i64 a,V.int .i64 b',V.int .i64 pivot,.list ag ao]=r:=aV (aZ (amC CC) ar) h
noncomputable def EG (C:ae):bI:=bu 81 QG [false,false,true,false,false] [[1,2,0,4,0,5]] (@xR b9 C) (bu 225 QH [false,false,false,false,true,true] [[1,2,3,4,0,0]] (@xS b9 C) (gR 1055 QI [[1,2,3,4,0]] (@Bj b9 C) (bu 321 QJ [false,false,false,false,true,true] [[1,2,3,4,0,0]] (@xT b9 C) (bu 49 QK [false,false,true,true,true] [[0,0],[1,2,0,0,0,0]] (@xU b9 C) aW))))
theorem amE (C:ae):ba C (EG C) 132 (Lp [1,1,0,1,0,0,1,0,0,0,0,0] 132):=bt QG [false,false,true,false,false] [[1,2,0,4,0,5]] (@xR b9 C) (aK ar)
theorem amF (C:ae):ba C (EG C) 132 (Lp [1,1,0,1,0,0,1,0,0,1,1,1,1,0,1,0,1,0,0] 132):=bt QH [false,false,false,false,true,true] [[1,2,3,4,0,0]] (@xS b9 C) (aK ar)
theorem amG (C:ae):ba C (EG C) 132 (Cd 65 [1,1,0,1,0,0,1,0,0,1,1,1,1,0,1,0] [1,1,0,1,0,0,1,0,0,1,1,1,1,0,1,1] 132):=gQ QI [[1,2,3,4,0]] (@Bj b9 C) (aK (aZ (amF C) ar)) (aK ar)
theorem amH (C:ae):ba C (EG C) 132 (Lp [1,1,0,1,0,0,1,0,0,1,1,1,1,1,1,0,1,0,0] 132):=bt QJ [false,false,false,false,true,true] [[1,2,3,4,0,0]] (@xT b9 C) (aK ar)
theorem amI (C:ae):ba C (EG C) 132 (Lp [1,1,0,1,0,0] 132):=bt QK [false,false,true,true,true] [[0,0],[1,2,0,0,0,0]] (@xU b9 C) (aK (aZ (amE C) (aZ (amG C) (aZ (amH C) ar))))
theorem amJ {a b':Int} {ao:LV} {r:Option LV} (h:Kv b9 CC a b' ao=r):CC OE [V.int .i64 a,V.int .i64 b',.list ag ao]=r:=aV (aZ (amI CC) ar) h
noncomputable def aaT (C:ae):bI:=gR 735 QB [[1,2,3,4,0,7,8]] (@Bk b9 C) (bu 81 QC [false,false,false,true,true,true] [[1,2,3,0,0,0,0]] (@xV b9 C) aW)
theorem amK (C:ae):ba C (aaT C) 129 (Cd 45 [1,1,0,1,1,1,0,0,1,0,0,1,0,1,0] [1,1,0,1,1,1,0,0,1,0,0,1,0,1,1] 129):=gQ QB [[1,2,3,4,0,7,8]] (@Bk b9 C) (aK ar) (aK ar)
theorem amL (C:ae):ba C (aaT C) 129 (Lp [1,1,0,1,1,1,0,0] 129):=bt QC [false,false,false,true,true,true] [[1,2,3,0,0,0,0]] (@xV b9 C) (aK (aZ (amK C) ar))
theorem amM {a b':Int} {ao:LV} {r:Option LV} (h:Kx b9 CC a b' ao=r):CC OB [V.int .i64 a,V.int .i64 b',.list ag ao]=r:=aV (aZ (amL CC) ar) h
theorem amN {data:LV} {a b' c dR:Int} {r:Option LV} (h:Ky b9 CC data a b' c dR=r):CC OM [.list ag data,V.int .i64 a,V.int .i64 b',V.int .i64 c,V.int .i64 dR]=r:=aV (L:=aW) ar h
theorem amO {data:LV} {a dR:Int} {r:Option LV} (h:Kz b9 CC data a dR=r):CC OL [.list ag data,V.int .i64 a,V.int .i64 dR]=r:=aV (L:=aW) ar h
theorem amP {data:LV} {a b' dR:Int} {r:Option LV} (h:Ew b9 CC data a b' dR=r):CC OO [.list ag data,V.int .i64 a,V.int .i64 b',V.int .i64 dR]=r:=aV (L:=aW) ar h
noncomputable def aaU (C:ae):bI:=gR 591 QD [[1,0,0,0,0]] (@xW b9 C) (gR 559 QE [[0,0]] (@xX b9 C) aW)
theorem amQ (C:ae):ba C (aaU C) 130 (Cd 36 [1,1,1,1,1,1,0,1,0,0,1,0] [1,1,1,1,1,1,0,1,0,0,1,1] 130):=gQ QD [[1,0,0,0,0]] (@xW b9 C) (aK ar) (aK ar)
theorem amR (C:ae):ba C (aaU C) 130 (Cd 34 [1,1,1,1,1,1,0,1,0] [1,1,1,1,1,1,0,1,1] 130):=gQ QE [[0,0]] (@xX b9 C) (aK (aZ (amQ C) ar)) (aK ar)
theorem amS {data:LV} {a b':Int} {r:Option LV} (h:Ey b9 CC data a b'=r):CC OC [.list ag data,V.int .i64 a,V.int .i64 b']=r:=aV (aZ (amR CC) ar) h
noncomputable def KM (C:ae):bI:=gR 639 P0 [[1,2,0,4,5,6,0]] (@vk b9 C) (gR 911 P1 [[1,2,3,4,5,6,0,0,0]] (@vl b9 C) (gR 1215 P2 [[1,2,3,4,5,6,7,0,0],[1,2,3,4,5,6,7,0]] (@mO b9 C) (bu 33 P4 [true,true,true,true,true,true] [[0]] (@ph b9 C) aW)))
theorem amT (C:ae):ba C (KM C) 95 (Cd 39 [1,1,0,0,0,1,1,1,0,1,0] [1,1,0,0,0,1,1,1,0,1,1] 95):=gQ P0 [[1,2,0,4,5,6,0]] (@vk b9 C) (aK ar) (aK ar)
theorem amU (C:ae):ba C (KM C) 95 (Cd 56 [1,1,0,0,0,1,1,1,1,1,0,1,0] [1,1,0,0,0,1,1,1,1,1,0,1,1] 95):=gQ P1 [[1,2,3,4,5,6,0,0,0]] (@vl b9 C) (aK ar) (aK ar)
theorem amV (C:ae):ba C (KM C) 95 (Cd 75 [1,1,0,0,0,1,1,1,1,1,1,0,1,0] [1,1,0,0,0,1,1,1,1,1,1,0,1,1] 95):=gQ P2 [[1,2,3,4,5,6,7,0,0],[1,2,3,4,5,6,7,0]] (@mO b9 C) (aK ar) (aK ar)
theorem amW (C:ae):ba C (KM C) 95 (Lp [1,1,0,0] 95):=bt P4 [true,true,true,true,true,true] [[0]] (@ph b9 C) (aK (aZ (amT C) (aZ (amU C) (aZ (amV C) ar))))
theorem amX {a b' gX:Int} {ao:LV} {r:Option LV} (h:KA b9 CC a b' gX ao=r):CC On [V.int .i64 a,V.int .i64 b',V.int .i64 gX,.list ag ao]=r:=aV (aZ (amW CC) ar) h
theorem amY {xs:LV} {r:Option LV} (h:KC b9 CC xs=r):CC xb [.list ag xs]=r:=aV (L:=aW) ar h
end Go.AM
set_option maxRecDepth 100000
namespace Go.AM.SX
open Go.Proofs Go.Sort
noncomputable abbrev amZ:ax XE where
 E:=b9
 enc:=XE.enc
 cmp:=EE
 re x:=by simp only[b9,XE.bW,XE.bX,XE.bY];exact XE.re x
 cs a b:=by simp only[b9,XE.bW,XE.bX,XE.bY];exact amf a b
 SB:=⟨fun x=>by rw[y6];exact XE.lt_irrefl x,fun x y z=>by simp only[dC];exact XE.lt_trans,fun x y z=>by simp only[y6];exact XE.amh⟩
 SC:=amk
 SD:=amn
 SF:=amq
 SG:=amt
 SH:=amz
 SI:=amD
 SJ:=amJ
 SK:=amM
 SL:=amN
 SM:=amO
 KD:=amP
 KE:=amS
 SN:=amX
 SO:=amY
theorem am0 (l:List XE) (hs:l.length<1152921504606846976): ∃R:List XE,CC xb [.list ag (l.map XE.enc)]=some [.list ag (R.map XE.enc)]∧R.Perm l∧R.Pairwise (fun x y=> ¬y.lt x):=by
 obtain ⟨R,h1,h2,h3⟩:= @aaP XE amZ _ l hs
 exact ⟨R,h1,h2,h3⟩
end Go.AM.SX
set_option maxRecDepth 100000
namespace Go.AM
open Go.Proofs
noncomputable def Bs (C:ae) (qt mP:Nat) (k' eI:Int) (ss:LV) {β:Type} (kn:(Int × Int × LV)→Option β) (kr:(Int × Int × Bool × LV)→Option β):Option β:=
 bif decide ((eI:Int)<(mP:Int)) then
  bif (decide (0≤eI))&&(decide (eI<(mP:Int))) then
  (ss[qt+((eI:Int).toNat)]?).bind fun x4=>
  bif (decide (0≤(IntKind.wrap .i64 (eI-1))))&&(decide ((IntKind.wrap .i64 (eI-1))<(mP:Int))) then
   (ss[qt+((IntKind.wrap .i64 (eI-1):Int).toNat)]?).bind fun x5=>
   (C rH [V.int .i64 ((x4.cell 0).toInt),V.int .i64 ((x4.cell 1).toInt),.list ag ((x4.cell 2).toList),V.int .i64 ((x5.cell 0).toInt),V.int .i64 ((x5.cell 1).toInt),.list ag ((x5.cell 2).toList)]).bind fun r6=>
   bif !((V.nth r6 0).toBool) then
   bif (decide (0≤eI))&&(decide (eI<(mP:Int))) then
    (ss[qt+((eI:Int).toNat)]?).bind fun x7=>
    aA ss k' fun x8=>
    kn (IntKind.wrap .i64 (k'+1),IntKind.wrap .i64 (eI+1),bn ss k' (.agg [V.int .i64 ((x7.cell 0).toInt),V.int .i64 ((x7.cell 1).toInt),.list ag ((x7.cell 2).toList)]))
   else none
   else
   kn (k',IntKind.wrap .i64 (eI+1),ss)
  else none
  else none
 else
  kr (k',eI,decide ((eI:Int)<(mP:Int)),ss)
noncomputable def yc (C:ae) (qt mP:Nat):=un fun k'=>un fun eI ss=>Bs C qt mP k' eI ss (fun y=>some (Sum.inl y)) (fun r=>some (Sum.inr r))
noncomputable def Bt (C:ae) (ss:LV) (k':Int) {β:Type} (kn:Int→Option β) (kr:(LV ⊕ (Int × Bool))→Option β):Option β:=
 bif decide ((k':Int)<(ss.length:Int)) then
  aA ss k' fun x1=>
  aA ss (IntKind.wrap .i64 (k'-1)) fun x2=>
  (C rH [V.int .i64 ((x1.cell 0).toInt),V.int .i64 ((x1.cell 1).toInt),.list ag ((x1.cell 2).toList),V.int .i64 ((x2.cell 0).toInt),V.int .i64 ((x2.cell 1).toInt),.list ag ((x2.cell 2).toList)]).bind fun r3=>
  bif (V.nth r3 0).toBool then
  bif (decide (0≤k'))&&(decide (k'≤(ss.length:Int))) then
   (Loop (yc C ((k':Int).toNat) (ss.length-((k':Int).toNat))) (k',1,ss)).bind (un fun (fY:Int)=>un fun (am1:Int)=>un fun (tu:Bool) (kb:LV)=>
    bif (decide (0≤fY))&&(decide (fY≤(kb.length:Int))) then
    bif (decide (0≤fY))&&(decide (fY≤((kb.take ((fY:Int).toNat)++(List.replicate (kb.length-((fY:Int).toNat)) (V.agg [V.int .i64 0,V.int .i64 0,.list ag ([]:LV)])++kb.drop (((fY:Int).toNat)+(kb.length-((fY:Int).toNat))))).length:Int))) then
     kr (.inl ((kb.take ((fY:Int).toNat)++(List.replicate (kb.length-((fY:Int).toNat)) (V.agg [V.int .i64 0,V.int .i64 0,.list ag ([]:LV)])++kb.drop (((fY:Int).toNat)+(kb.length-((fY:Int).toNat))))).take ((fY:Int).toNat)))
    else none
    else none)
  else none
  else
  kn (IntKind.wrap .i64 (k'+1))
 else
  kr (.inr (k',decide ((k':Int)<(ss.length:Int))))
noncomputable def yd (C:ae) (ss:LV):=fun k'=>Bt C ss k' (fun y=>some (Sum.inl y)) (fun r=>some (Sum.inr r))
noncomputable def aaV (C:ae):bI:=bu 145 Rf [true,false,false,true,true] [[0,2,3,0,0,0]] (@Bs C) (bu 65 Rg [true,false] [[0],[0,0,2]] (@Bt C) aW)
theorem am2 (C:ae):ba C (aaV C) 203 (Lp [1,1,0,1,0,0,1,0,0,1,0,1,0,1,0,0] 203):=bt Rf [true,false,false,true,true] [[0,2,3,0,0,0]] (@Bs C) (aK ar)
theorem am3 (C:ae):ba C (aaV C) 203 (Lp [1,1,0,1,0,0] 203):=bt Rg [true,false] [[0],[0,0,2]] (@Bt C) (aK (aZ (am2 C) ar))
noncomputable def KN (C:ae) (ss:LV):Option LV:=
 bif decide (((ss.length:Int):Int)<2) then
  some [V.bool true,.list ag ss]
 else
  (Loop (yd C ss) 1).bind (cf (fun (S7:LV)=>
   some [V.bool false,.list ag S7]) (un fun (am4:Int) (xm:Bool)=>
   some [V.bool true,.list ag ss]))
theorem S8 {ss:LV} {r:Option LV} (h:KN CC ss=r):CC OV [.list ag ss]=r:=aV (aZ (am3 CC) ar) h
noncomputable def aaW (C:ae) (pb:LV):Option LV:=
 (C xb [.list ag pb]).bind fun r1=>
 (C OV [.list ag ((V.nth r1 0).toList)]).bind fun r2=>
 bif (V.nth r2 0).toBool then
  some [V.bool true,.list ag ((V.nth (r2.drop 1) 0).toList)]
 else
  some [V.bool false,.list ag ((V.nth (r2.drop 1) 0).toList)]
theorem am5 {pb:LV} {r:Option LV} (h:aaW CC pb=r):CC xg [.list ag pb]=r:=aV (L:=aW) ar h
noncomputable def aaX (C:ae) (mE mF:Int) (nx:LV) (mG mH:Int) (ny:LV):Option LV:=
 (C bP [V.int .i64 mE,V.int .i64 mF,.list ag nx,V.int .i64 mG,V.int .i64 mH,.list ag ny]).bind fun r1=>
 some [.bool ((((V.nth r1 0).toInt):Int)==0)]
theorem am6 {mE mF:Int} {nx:LV} {mG mH:Int} {ny:LV} {r:Option LV} (h:aaX CC mE mF nx mG mH ny=r):CC rH [V.int .i64 mE,V.int .i64 mF,.list ag nx,V.int .i64 mG,V.int .i64 mH,.list ag ny]=r:=aV (L:=aW) ar h
end Go.AM
set_option maxRecDepth 100000
namespace Go.AM
open Go.Proofs Ex
def nC (prev:Ex):List Ex→List Ex
 | []=>[]
 | x::l=>if cmp x prev=0 then nC x l else x::nC x l
def eh:List Ex→List Ex
 | []=>[]
 | x::l=>x::nC x l
theorem aaY: ∀(m:List Ex) (prev x:Ex),nC prev (m++[x])=nC prev m++(if cmp x ((prev::m).getD m.length aS)=0 then [] else [x])
 | [],prev,x=>by simp only[List.nil_append,nC,List.length_nil,GP]
 | y::m,prev,x=>by
  have ih:=aaY m y x
  simp only[List.cons_append,nC,List.length_cons,GS]
  split
  ·exact ih
  ·rw[ih];rfl
theorem KO {l:List Ex} {p:Nat} (h1:1≤p) (h2:p<l.length):eh (l.take (p+1))=eh (l.take p)++(if cmp (l.getD p aS) (l.getD (p-1) aS)=0 then [] else [l.getD p aS]):=by
 match l,p,h1,h2 with
 | y::l,p+1,_,h2=>
  simp only[List.length_cons] at h2
  rw[List.take_succ_cons,List.take_succ_cons,eh,eh,iX (by omega),aaY]
  simp only[GS,fb,yS]
  rw[show min p l.length=p by omega]
  have:(y::l.take p).getD p aS=(y::l).getD p aS:=by
   match p with
   | 0=>rfl
   | q+1=>simp only[GS];rw[ud,ud,fT (by omega)]
  rw[this];rfl
theorem aaZ: ∀(m:List Ex) (prev:Ex),(prev::m).Pairwise (fun x y=> ¬y.lx x)→lb (prev::nC prev m)∧∀x,x∈prev::nC prev m↔x∈prev::m
 | [],prev,_=>⟨by simp[nC],by simp[nC]⟩
 | y::m,prev,h=>by
  have h1:=qI.1 h
  obtain ⟨i1,i2⟩:=aaZ m y h1.2
  rw[nC]
  by_cases hc:cmp y prev=0
  ·rw[ai hc]
   have:=xo _ _ hc
   subst this
   refine ⟨i1,fun x=> ?_⟩
   rw[i2 x];simp
  ·rw[aj hc]
   have aR:prev.lx y:=by
    by_cases h2:prev.lx y
    ·exact h2
    ·exact absurd (Ex.Zv h2 (h1.1 y (by simp))) fun e=>hc (by rw[e];exact DW _)
   refine ⟨qI.2 ⟨fun x hx=> ?_,i1⟩,fun x=> ?_⟩
   ·rcases cE.1 hx with rfl|hx
    ·exact aR
    ·exact Ex.RI aR ((qI.1 i1).1 x hx)
   ·rw[cE,i2 x,←cE]
theorem aa0 {l:List Ex} (h:l.Pairwise (fun x y=> ¬y.lx x)):lb (eh l)∧∀x,x∈eh l↔x∈l:=by
 match l,h with
 | [],_=>exact ⟨List.Pairwise.nil,fun _=>Iff.rfl⟩
 | y::l,h=>exact aaZ l y h
theorem EH (a:Ex) (ha:a.Ok) (b:Ex) (hb:b.Ok):CC rH (cJ a (cJ b []))=some [.bool (decide (cmp a b=0))]:=by
 refine am6 ?_
 unfold aaX
 refine (congrArg (fun o=>Option.bind o _) (JR a ha b hb)).trans ?_
 simp only[Option.bind_some,V.az,V.toInt_int]
 rw[xq]
section
variable {l:List Ex} (hn:l.length≤1000000) (aw: ∀k∈l,k.Ok)
include hn aw
theorem S9 {k:Nat}: ∀(d k2 i:Nat) (ss:List Ex),k+k2+d=l.length→1≤k2→i+1≤k+k2→ss.length=l.length→ss.take i=eh (l.take (k+k2))→ss.drop (k+k2-1)=l.drop (k+k2-1)→
  ∃t u dF,Loop (yc CC k (l.length-k)) ((i:Int),(k2:Int),ss.map enc)=some (((eh l).length:Int),u,t,List.map enc dF)∧dF.take (eh l).length=eh l∧dF.length=l.length:=by
 intro d
 induction d with
 | zero=>
  intro k2 i ss hj kA hi hl ht hd
  have e0:l.take (k+k2)=l:=GR (by omega)
  rw[e0] at ht
  have fv:i=(eh l).length:=by rw[←ht,fb];omega
  refine ⟨false,(k2:Int),ss,br ?_,by rw[←fv];exact ht,hl⟩
  simp only[yc,Bs,un,bc,au]
  rw[aD,eJ,fv]
 | succ d ih=>
  intro k2 i ss hj kA hi hl ht hd
  have hp:k+k2<l.length:=by omega
  have fK:ss.drop (k+k2)=l.drop (k+k2):=by
   have h:=congrArg (List.drop 1) hd
   rw[m7,m7] at h
   rwa [show k+k2-1+1=k+k2 by omega] at h
  have g1:=vc hl fK hp
  have g0:=vc hl hd (show k+k2-1<l.length by omega)
  have x1:(ss.map enc)[k+k2]? =some (l.getD (k+k2) aS).enc:=by rw[jC (by omega),g1]
  have x0:(ss.map enc)[k+(k2-1)]? =some (l.getD (k+k2-1) aS).enc:=by rw[show k+(k2-1)=k+k2-1 by omega,jC (by omega),g0]
  have w1:IntKind.wrap .i64 ((k2:Int)-1)=((k2-1:Nat):Int):=by rw[bB];omega
  have t1:((k2:Nat):Int)<((l.length-k:Nat):Int):=by omega
  have t2:(0:Int)≤((k2:Nat):Int):=by omega
  have t3:(0:Int)≤((k2-1:Nat):Int):=by omega
  have t4:((k2-1:Nat):Int)<((l.length-k:Nat):Int):=by omega
  have t5:((i:Nat):Int)<(ss.length:Int):=by omega
  have t6:(0:Int)≤((i:Nat):Int):=by omega
  have c8: ∃y,(ss.map enc)[i]? =some y:=⟨_,jC (by omega)⟩
  obtain ⟨y,hy⟩:=c8
  have co:=EH (l.getD (k+k2) aS) (u6 aw hp) (l.getD (k+k2-1) aS) (u6 aw (by omega))
  have cs:=KO (l:=l) (p:=k+k2) (by omega) hp
  by_cases he:cmp (l.getD (k+k2) aS) (l.getD (k+k2-1) aS)=0
  ·have bz:yc CC k (l.length-k) ((i:Int),(k2:Int),ss.map enc)=some (.inl ((i:Int),((k2+1:Nat):Int),ss.map enc)):=by
    simp only[yc,Bs,un,bc,au,bQ,w1,t1,t2,t3,t4,cL,Int.toNat_natCast,x1,x0,Option.bind_some,bW,bX,bY]
    refine (congrArg (fun o=>Option.bind o _) co).trans ?_
    simp only[Option.bind_some,V.az,V.cm]
    rw[dV he,pC,cond_false,bB]
    rfl
   rw[bS bz]
   refine ih (k2+1) i ss (by omega) (by omega) (by omega) hl ?_ (by rw[show k+(k2+1)-1=k+k2 by omega];exact fK)
   rw[show k+(k2+1)=k+k2+1 by omega,cs,ai he,di,ht]
  ·have bz:yc CC k (l.length-k) ((i:Int),(k2:Int),ss.map enc)=some (.inl (((i+1:Nat):Int),((k2+1:Nat):Int),(ss.set i (l.getD (k+k2) aS)).map enc)):=by
    simp only[yc,Bs,un,bc,au,bQ,w1,t1,t2,t3,t4,t5,t6,cL,Int.toNat_natCast,x1,x0,hy,Option.bind_some,bW,bX,bY]
    refine (congrArg (fun o=>Option.bind o _) co).trans ?_
    simp only[Option.bind_some,V.az,V.cm]
    rw[eB he,sj,cond_true,bB,bB,←ja,sn]
    rfl
   rw[bS bz]
   refine ih (k2+1) (i+1) (ss.set i (l.getD (k+k2) aS)) (by omega) (by omega) (by omega) (by simpa using hl) ?_ ?_
   ·rw[iX (by rw[nJ];omega),y7 (bC i),ht,show k+(k2+1)=k+k2+1 by omega,cs,aj he]
    simp[show i<ss.length by omega]
   ·rw[show k+(k2+1)-1=k+k2 by omega,y8 (by omega),fK]
theorem Ta: ∀(d p:Nat),p+d=l.length→1≤p→eh (l.take p)=l.take p→
  (eh l=l∧∃t,Loop (yd CC (l.map enc)) (p:Int)=some (.inr t))∨Loop (yd CC (l.map enc)) (p:Int)=some (.inl ((eh l).map enc)):=by
 intro d
 induction d with
 | zero=>
  intro p hp h1 hc
  obtain rfl:p=l.length:=by omega
  rw[qC] at hc
  refine .inl ⟨hc,((l.length:Int),false),br ?_⟩
  simp only[yd,Bt,bc,au]
  rw[aD,eJ]
 | succ d ih=>
  intro p hp h1 hc
  have ct:p<l.length:=by omega
  have cs:=KO (l:=l) h1 ct
  have co:=EH (l.getD p aS) (u6 aw ct) (l.getD (p-1) aS) (u6 aw (by omega))
  have x1:(l.map enc)[p]? =some (l.getD p aS).enc:=jC ct
  have x0:(l.map enc)[p-1]? =some (l.getD (p-1) aS).enc:=jC (by omega)
  have w1:IntKind.wrap .i64 ((p:Int)-1)=((p-1:Nat):Int):=by rw[bB];omega
  have t1:((p:Nat):Int)<(l.length:Int):=by omega
  have t2:(0:Int)≤((p:Nat):Int):=by omega
  have t3:(0:Int)≤((p-1:Nat):Int):=by omega
  have t4:((p-1:Nat):Int)<(l.length:Int):=by omega
  have t5:((p:Nat):Int)≤(l.length:Int):=by omega
  by_cases he:cmp (l.getD p aS) (l.getD (p-1) aS)=0
  ·refine .inr (br ?_)
   obtain ⟨t,u,dF,e1,e2,e3⟩:=S9 hn aw (k:=p) (l.length-(p+1)) 1 p l (by omega) (by omega) (by omega) rfl (by rw[cs,ai he,di,hc]) rfl
   have hm:(eh l).length≤dF.length:=by
    have:=congrArg List.length e2
    rw[fb] at this
    omega
   have m1:(0:Int)≤(((eh l).length:Nat):Int):=by omega
   have m2:(((eh l).length:Nat):Int)≤((dF.map enc).length:Int):=by rw[bc];omega
   simp only[yd,Bt,bc,au,bQ,w1,t1,t2,t3,t4,t5,cL,Int.toNat_natCast,x1,x0,Option.bind_some,bW,bX,bY]
   refine (congrArg (fun o=>Option.bind o _) co).trans ?_
   simp only[Option.bind_some,V.az,V.cm]
   rw[dV he,cond_true]
   refine (congrArg (fun o=>Option.bind o _) e1).trans ?_
   simp only[Option.bind_some,un,bQ,au,Int.toNat_natCast]
   rw[ai m1,ai m2,ai m1,ai (by simp only[cg,fb,pD,qE,bc];omega),A7 _ _ _ hm,e2]
  ·have bz:yd CC (l.map enc) (p:Int)=some (.inl ((p+1:Nat):Int)):=by
    simp only[yd,Bt,bc,au,bQ,w1,t1,t2,t3,t4,cL,Int.toNat_natCast,x1,x0,Option.bind_some,bW,bX,bY]
    refine (congrArg (fun o=>Option.bind o _) co).trans ?_
    simp only[Option.bind_some,V.az,V.cm]
    rw[eB he,cond_false,bB]
    rfl
   rw[bS bz]
   exact ih (p+1) (by omega) (by omega) (by rw[cs,aj he,hc,←iX ct])
theorem Tb: ∃b,CC OV [.list ag (l.map enc)]=some [.bool b,.list ag ((eh l).map enc)]:=by
 by_cases h2:l.length<2
 ·refine ⟨true,S8 ?_⟩
  unfold KN
  rw[bc,au,aF]
  match l,h2 with
  | [],_=>rfl
  | [k],_=>rfl
 ·rcases Ta hn aw (l.length-1) 1 (by omega) (by omega) (by
   match l,h2 with
   | k::l,_=>rfl) with ⟨h3,t,h4⟩|h4
  ·refine ⟨true,S8 ?_⟩
   unfold KN
   rw[bc,au,aD]
   refine (congrArg (fun o=>Option.bind o _) h4).trans ?_
   rw[h3];rfl
  ·refine ⟨false,S8 ?_⟩
   unfold KN
   rw[bc,au,aD]
   refine (congrArg (fun o=>Option.bind o _) h4).trans ?_
   rfl
theorem aa1: ∃R:List Ex,CC xb [.list ag (l.map enc)]=some [.list ag (R.map enc)]∧R.Perm l∧R.Pairwise (fun x y=> ¬y.lx x):=by
 have hx: ∃L:List SX.XE,L.map SX.XE.e=l:=by
  clear hn
  induction l with
  | nil=>exact ⟨[],rfl⟩
  | cons k l ih=>
   obtain ⟨L,hL⟩:=ih fun k hk=>aw k (by simp[hk])
   exact ⟨⟨k,aw k (by simp)⟩::L,by rw[dw,hL]⟩
 obtain ⟨L,rfl⟩:=hx
 have he: ∀L:List SX.XE,L.map SX.XE.enc=(L.map SX.XE.e).map enc:=fun L=>by rw[List.map_map];rfl
 obtain ⟨R,e1,h1,h2⟩:=SX.am0 L (by rw[bc] at hn;omega)
 refine ⟨R.map SX.XE.e,?_,h1.map _,List.pairwise_map.2 h2⟩
 rw[←he,←he];exact e1
theorem aa2: ∃b,CC xg [.list ag (l.map enc)]=some [.bool b,.list ag ((l.foldl iK []).map enc)]:=by
 obtain ⟨R,e1,h1,h2⟩:=aa1 hn aw
 obtain ⟨b,e2⟩:=Tb (l:=R) (by rw[h1.length_eq];exact hn) fun k hk=>aw k (h1.mem_iff.1 hk)
 obtain ⟨c1,c2⟩:=aa0 h2
 have hc:eh R=l.foldl iK []:=RJ c1 D3 fun x=>by rw[c2,rT,h1.mem_iff]
 rw[hc] at e2
 refine ⟨b,am5 ?_⟩
 unfold aaW
 refine (congrArg (fun o=>Option.bind o _) e1).trans ?_
 simp only[Option.bind_some,V.az,V.bK]
 refine (congrArg (fun o=>Option.bind o _) e2).trans ?_
 cases b<;>rfl
end
end Go.AM
set_option maxRecDepth 100000
namespace Go.AM
open Go.Proofs
noncomputable def aa3 (C:ae) (kids:LV):Option LV:=
 (C OP [.list ag kids]).bind fun r1=>
 bif (V.nth r1 0).toBool then
  (C uT []).bind fun r2=>
  some [V.int .i64 ((V.nth r2 0).toInt),V.int .i64 ((V.nth (r2.drop 1) 0).toInt),.list ag ((V.nth (r2.drop 2) 0).toList)]
 else
  (C As [V.int .i64 4,.list ag kids]).bind fun r3=>
  (C Jm [.list ag ((V.nth r3 0).toList)]).bind fun r4=>
  bif (V.nth r4 0).toBool then
  (C xg [.list ag ((V.nth (r4.drop 1) 0).toList)]).bind fun r5=>
  bif (V.nth r5 0).toBool then
   (C rG []).bind fun r6=>
   (C oj [V.int .i64 4,.list ag ((V.nth (r5.drop 1) 0).toList),V.int .i64 ((V.nth r6 0).toInt),V.int .i64 ((V.nth (r6.drop 1) 0).toInt),.list ag ((V.nth (r6.drop 2) 0).toList)]).bind fun r7=>
   some [V.int .i64 ((V.nth r7 0).toInt),V.int .i64 ((V.nth (r7.drop 1) 0).toInt),.list ag ((V.nth ((r7.drop 1).drop 1) 0).toList)]
  else
   (C rG []).bind fun r8=>
   (C oj [V.int .i64 4,.list ag ((V.nth (r5.drop 1) 0).toList),V.int .i64 ((V.nth r8 0).toInt),V.int .i64 ((V.nth (r8.drop 1) 0).toInt),.list ag ((V.nth (r8.drop 2) 0).toList)]).bind fun r9=>
   some [V.int .i64 ((V.nth r9 0).toInt),V.int .i64 ((V.nth (r9.drop 1) 0).toInt),.list ag ((V.nth ((r9.drop 1).drop 1) 0).toList)]
  else
  (C xg [.list ag ((V.nth (r4.drop 1) 0).toList)]).bind fun ot=>
  bif (V.nth ot 0).toBool then
   (C rG []).bind fun ew=>
   (C oj [V.int .i64 4,.list ag ((V.nth (ot.drop 1) 0).toList),V.int .i64 ((V.nth ew 0).toInt),V.int .i64 ((V.nth (ew.drop 1) 0).toInt),.list ag ((V.nth (ew.drop 2) 0).toList)]).bind fun eQ=>
   some [V.int .i64 ((V.nth eQ 0).toInt),V.int .i64 ((V.nth (eQ.drop 1) 0).toInt),.list ag ((V.nth ((eQ.drop 1).drop 1) 0).toList)]
  else
   (C rG []).bind fun qu=>
   (C oj [V.int .i64 4,.list ag ((V.nth (ot.drop 1) 0).toList),V.int .i64 ((V.nth qu 0).toInt),V.int .i64 ((V.nth (qu.drop 1) 0).toInt),.list ag ((V.nth (qu.drop 2) 0).toList)]).bind fun qv=>
   some [V.int .i64 ((V.nth qv 0).toInt),V.int .i64 ((V.nth (qv.drop 1) 0).toInt),.list ag ((V.nth ((qv.drop 1).drop 1) 0).toList)]
theorem am7 {kids:LV} {r:Option LV} (h:aa3 CC kids=r):CC Jd [.list ag kids]=r:=aV (L:=aW) ar h
noncomputable def aa4 (C:ae) (kids:LV):Option LV:=
 (C DJ [.list ag kids]).bind fun r1=>
 bif (V.nth r1 0).toBool then
  (C rG []).bind fun r2=>
  some [V.int .i64 ((V.nth r2 0).toInt),V.int .i64 ((V.nth (r2.drop 1) 0).toInt),.list ag ((V.nth (r2.drop 2) 0).toList)]
 else
  (C As [V.int .i64 5,.list ag kids]).bind fun r3=>
  (C Jk [.list ag ((V.nth r3 0).toList)]).bind fun r4=>
  bif (V.nth r4 0).toBool then
  (C xf []).bind fun r5=>
  (C oj [V.int .i64 5,.list ag ((V.nth (r4.drop 1) 0).toList),V.int .i64 ((V.nth r5 0).toInt),V.int .i64 ((V.nth (r5.drop 1) 0).toInt),.list ag ((V.nth (r5.drop 2) 0).toList)]).bind fun r6=>
  some [V.int .i64 ((V.nth r6 0).toInt),V.int .i64 ((V.nth (r6.drop 1) 0).toInt),.list ag ((V.nth ((r6.drop 1).drop 1) 0).toList)]
  else
  (C xf []).bind fun r7=>
  (C oj [V.int .i64 5,.list ag ((V.nth (r4.drop 1) 0).toList),V.int .i64 ((V.nth r7 0).toInt),V.int .i64 ((V.nth (r7.drop 1) 0).toInt),.list ag ((V.nth (r7.drop 2) 0).toList)]).bind fun r8=>
  some [V.int .i64 ((V.nth r8 0).toInt),V.int .i64 ((V.nth (r8.drop 1) 0).toInt),.list ag ((V.nth ((r8.drop 1).drop 1) 0).toList)]
theorem am8 {kids:LV} {r:Option LV} (h:aa4 CC kids=r):CC Je [.list ag kids]=r:=aV (L:=aW) ar h
noncomputable def aa5 (C:ae) (kids:LV):Option LV:=
 (C DJ [.list ag kids]).bind fun r1=>
 bif (V.nth r1 0).toBool then
  (C rG []).bind fun r2=>
  some [V.int .i64 ((V.nth r2 0).toInt),V.int .i64 ((V.nth (r2.drop 1) 0).toInt),.list ag ((V.nth (r2.drop 2) 0).toList)]
 else
  (C As [V.int .i64 6,.list ag kids]).bind fun r3=>
  (C xc [.list ag ((V.nth r3 0).toList)]).bind fun r4=>
  bif (V.nth r4 0).toBool then
  (C xg [.list ag ((V.nth (r4.drop 1) 0).toList)]).bind fun r5=>
  bif (V.nth r5 0).toBool then
   (C uT []).bind fun r6=>
   (C oj [V.int .i64 6,.list ag ((V.nth (r5.drop 1) 0).toList),V.int .i64 ((V.nth r6 0).toInt),V.int .i64 ((V.nth (r6.drop 1) 0).toInt),.list ag ((V.nth (r6.drop 2) 0).toList)]).bind fun r7=>
   some [V.int .i64 ((V.nth r7 0).toInt),V.int .i64 ((V.nth (r7.drop 1) 0).toInt),.list ag ((V.nth ((r7.drop 1).drop 1) 0).toList)]
  else
   (C uT []).bind fun r8=>
   (C oj [V.int .i64 6,.list ag ((V.nth (r5.drop 1) 0).toList),V.int .i64 ((V.nth r8 0).toInt),V.int .i64 ((V.nth (r8.drop 1) 0).toInt),.list ag ((V.nth (r8.drop 2) 0).toList)]).bind fun r9=>
   some [V.int .i64 ((V.nth r9 0).toInt),V.int .i64 ((V.nth (r9.drop 1) 0).toInt),.list ag ((V.nth ((r9.drop 1).drop 1) 0).toList)]
  else
  (C xg [.list ag ((V.nth (r4.drop 1) 0).toList)]).bind fun ot=>
  bif (V.nth ot 0).toBool then
   (C uT []).bind fun ew=>
   (C oj [V.int .i64 6,.list ag ((V.nth (ot.drop 1) 0).toList),V.int .i64 ((V.nth ew 0).toInt),V.int .i64 ((V.nth (ew.drop 1) 0).toInt),.list ag ((V.nth (ew.drop 2) 0).toList)]).bind fun eQ=>
   some [V.int .i64 ((V.nth eQ 0).toInt),V.int .i64 ((V.nth (eQ.drop 1) 0).toInt),.list ag ((V.nth ((eQ.drop 1).drop 1) 0).toList)]
  else
   (C uT []).bind fun qu=>
   (C oj [V.int .i64 6,.list ag ((V.nth (ot.drop 1) 0).toList),V.int .i64 ((V.nth qu 0).toInt),V.int .i64 ((V.nth (qu.drop 1) 0).toInt),.list ag ((V.nth (qu.drop 2) 0).toList)]).bind fun qv=>
   some [V.int .i64 ((V.nth qv 0).toInt),V.int .i64 ((V.nth (qv.drop 1) 0).toInt),.list ag ((V.nth ((qv.drop 1).drop 1) 0).toList)]
theorem am9 {kids:LV} {r:Option LV} (h:aa5 CC kids=r):CC Jf [.list ag kids]=r:=aV (L:=aW) ar h
noncomputable def Tc (C:ae) (op:Int) (kids:LV):Option LV:=
 bif (op:Int)==4 then
  (C Jd [.list ag kids]).bind fun r1=>
  some [V.int .i64 ((V.nth r1 0).toInt),V.int .i64 ((V.nth (r1.drop 1) 0).toInt),.list ag ((V.nth ((r1.drop 1).drop 1) 0).toList)]
 else
  bif (op:Int)==5 then
  (C Je [.list ag kids]).bind fun r2=>
  some [V.int .i64 ((V.nth r2 0).toInt),V.int .i64 ((V.nth (r2.drop 1) 0).toInt),.list ag ((V.nth ((r2.drop 1).drop 1) 0).toList)]
  else
  bif (op:Int)==6 then
   (C Jf [.list ag kids]).bind fun r3=>
   some [V.int .i64 ((V.nth r3 0).toInt),V.int .i64 ((V.nth (r3.drop 1) 0).toInt),.list ag ((V.nth ((r3.drop 1).drop 1) 0).toList)]
  else
   bif ((kids.length:Int):Int) != 1 then
   some [V.int .i64 0,V.int .i64 0,.list ag ([]:LV)]
   else
   (kids[0]?).bind fun x4=>
   bif (op:Int)==8 then
    bif (((x4.cell 0).toInt):Int)==8 then
    bif ((((x4.cell 2).toList).length:Int):Int)==1 then
     (((x4.cell 2).toList)[0]?).bind fun x5=>
     some [V.int .i64 ((x5.cell 0).toInt),V.int .i64 ((x5.cell 1).toInt),.list ag ((x5.cell 2).toList)]
    else
     some [V.int .i64 8,V.int .i64 0,.list ag ([.agg [V.int .i64 ((x4.cell 0).toInt),V.int .i64 ((x4.cell 1).toInt),.list ag ((x4.cell 2).toList)]]:LV)]
    else
    some [V.int .i64 8,V.int .i64 0,.list ag ([.agg [V.int .i64 ((x4.cell 0).toInt),V.int .i64 ((x4.cell 1).toInt),.list ag ((x4.cell 2).toList)]]:LV)]
   else
    bif (op:Int)==7 then
    bif (((x4.cell 0).toInt):Int)==1 then
     (C xf []).bind fun r6=>
     some [V.int .i64 ((V.nth r6 0).toInt),V.int .i64 ((V.nth (r6.drop 1) 0).toInt),.list ag ((V.nth (r6.drop 2) 0).toList)]
    else
     bif (((x4.cell 0).toInt):Int)==2 then
     (C xf []).bind fun r7=>
     some [V.int .i64 ((V.nth r7 0).toInt),V.int .i64 ((V.nth (r7.drop 1) 0).toInt),.list ag ((V.nth (r7.drop 2) 0).toList)]
     else
     bif (((x4.cell 0).toInt):Int)==7 then
      some [V.int .i64 ((x4.cell 0).toInt),V.int .i64 ((x4.cell 1).toInt),.list ag ((x4.cell 2).toList)]
     else
      (C mA [V.int .i64 ((x4.cell 0).toInt),V.int .i64 ((x4.cell 1).toInt),.list ag ((x4.cell 2).toList)]).bind fun r8=>
      bif (V.nth r8 0).toBool then
      some [V.int .i64 ((x4.cell 0).toInt),V.int .i64 ((x4.cell 1).toInt),.list ag ((x4.cell 2).toList)]
      else
      some [V.int .i64 7,V.int .i64 0,.list ag ([.agg [V.int .i64 ((x4.cell 0).toInt),V.int .i64 ((x4.cell 1).toInt),.list ag ((x4.cell 2).toList)]]:LV)]
    else
    some [V.int .i64 0,V.int .i64 0,.list ag ([]:LV)]
theorem aa6 {op:Int} {kids:LV} {r:Option LV} (h:Tc CC op kids=r):CC Ao [V.int .i64 op,.list ag kids]=r:=aV (L:=aW) ar h
noncomputable def EI (C:ae) (t20:LV) (t21 k9 jz:Int) (ik:LV) (pq qw:Int) (aE:LV) (t22:Int) (EJ:LV) {β:Type} (kn:(Int × LV)→Option β) (kr:(Int × Bool × LV)→Option β):Option β:=
 bif decide ((t22:Int)<t21) then
  (idx t20 t22).bind fun x1=>
  (C Am [V.int .i64 ((x1.cell 0).toInt),V.int .i64 ((x1.cell 1).toInt),.list ag ((x1.cell 2).toList)]).bind fun r2=>
  aA EJ t22 fun x3=>
  kn (IntKind.wrap .i64 (t22+1),bn EJ t22 (.agg [V.int .i64 ((V.nth r2 0).toInt),V.int .i64 ((V.nth (r2.drop 1) 0).toInt),.list ag ((V.nth ((r2.drop 1).drop 1) 0).toList)]))
 else
  kr (t22,decide ((t22:Int)<t21),EJ)
noncomputable def KP (C:ae) (t20:LV) (t21 k9 jz:Int) (ik:LV) (pq qw:Int) (aE:LV):=un fun t22 EJ=>EI C t20 t21 k9 jz ik pq qw aE t22 EJ (fun y=>some (Sum.inl y)) (fun r=>some (Sum.inr r))
noncomputable def ana (C:ae):bI:=bu 81 Pr [false,false,true,false,false,false,false,false,true,false] [[1,2,0,0,4,5,6,7,8,0,10]] (@EI C) aW
theorem anb (C:ae):ba C (ana C) 50 (Lp [1,1,1,0,1,0,0] 50):=bt Pr [false,false,true,false,false,false,false,false,true,false] [[1,2,0,0,4,5,6,7,8,0,10]] (@EI C) (aK ar)
noncomputable def aa7 (C:ae) (ak ay:Int) (ah:LV):Option LV:=
 bif ((ah.length:Int):Int)==0 then
  some [V.int .i64 ak,V.int .i64 ay,.list ag ([]:LV)]
 else
  bif (decide (0≤(ah.length:Int)))&&((decide ((ah.length:Int)≤(ah.length:Int)))&&(Nat.ble ((((ah.length:Int):Int).toNat)*40) db)) then
  (Loop (KP C ah (ah.length:Int) ak ay ah 0 0 ([]:LV)) (0,List.replicate (((ah.length:Int):Int).toNat) (V.agg [V.int .i64 0,V.int .i64 0,.list ag ([]:LV)]))).bind (un fun (jy:Int)=>un fun (gB:Bool) (anc:LV)=>
   (C Ao [V.int .i64 ak,.list ag anc]).bind fun r7=>
   some [V.int .i64 ((V.nth r7 0).toInt),V.int .i64 ((V.nth (r7.drop 1) 0).toInt),.list ag ((V.nth ((r7.drop 1).drop 1) 0).toList)])
  else none
theorem ane {ak ay:Int} {ah:LV} {r:Option LV} (h:aa7 CC ak ay ah=r):CC Am [V.int .i64 ak,V.int .i64 ay,.list ag ah]=r:=aV (aZ (anb CC) ar) h
noncomputable def aa8 (C:ae) (ak ay:Int) (ah:LV):Option LV:=
 (C Dw [V.int .i64 ak,V.int .i64 ay,.list ag ah]).bind fun r1=>
 bif !((V.nth r1 0).toBool) then
  some [V.int .i64 0,V.int .i64 0,.list ag ([]:LV)]
 else
  (C Am [V.int .i64 ak,V.int .i64 ay,.list ag ah]).bind fun r2=>
  some [V.int .i64 ((V.nth r2 0).toInt),V.int .i64 ((V.nth (r2.drop 1) 0).toInt),.list ag ((V.nth ((r2.drop 1).drop 1) 0).toList)]
theorem anf {ak ay:Int} {ah:LV} {r:Option LV} (h:aa8 CC ak ay ah=r):CC IY [V.int .i64 ak,V.int .i64 ay,.list ag ah]=r:=aV (L:=aW) ar h
end Go.AM
