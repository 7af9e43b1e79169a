/-
  Functions of the program, lifted to plain data.
-/
import Derived.Test.YtkfgodlgmlhbjaaGreatP6
set_option linter.unusedVariables false
set_option linter.unusedSimpArgs false
set_option maxRecDepth 100000
namespace Go.AM
open Go.Proofs Ex
def gy (op:Int):Int:=if op=4 then 1 else if op=6 then 2 else if op=5 then 3 else if op=8 then 4 else if op=7 then 5 else 6
def eX (op least:Int) (t:List UInt8):List UInt8:=if gy op<least then 40::(t++[41]) else t
mutual
def Ex.text:Ex→List UInt8
 | .node o l ks=>
  if o=1 then [48] else if o=2 then [49] else if o=3 then [UInt8.ofNat (97+l).toNat]
  else if o=8 then 33::texts [] 4 true ks else if o=7 then texts [] 5 true ks++[42]
  else if o=4 then texts [124] 2 true ks else if o=6 then texts [38] 3 true ks else texts [] 4 true ks
def Ex.texts (sep:List UInt8) (least:Int) (first:Bool):List Ex→List UInt8
 | []=>[]
 | k::ks=>(if first then [] else sep)++(eX k.op least (text k)++texts sep least false ks)
end
theorem aiK (op least:Int) (t:List UInt8):(eX op least t).length≤t.length+2:=by
 unfold eX;split<;>simp
theorem Xb (sep:List UInt8) (hs:sep.length≤1) (least:Int): ∀(ks:List Ex) (f:Bool),(∀k∈ks,k.text.length+3≤4*k.size)→(texts sep least f ks).length≤4*aR ks
 | [],f,_=>by simp[texts]
 | k::ks,f,h=>by
  have h1:=h k (by simp)
  have U:=Xb sep hs least ks false fun k hk=>h k (by simp[hk])
  have h3:=aiK k.op least k.text
  simp only[texts,cg,aR]
  cases f<;>simp<;>omega
theorem Xc: ∀e:Ex,e.text.length+3≤4*e.size:=ind fun o l ks ih=>by
 have h:=fun sep hs least=>Xb sep hs least ks true ih
 have h1:=h [] (by simp) 4
 have U:=h [] (by simp) 5
 have h3:=h [124] (by simp) 2
 have h4:=h [38] (by simp) 3
 simp only[text,size]
 repeat' split
 all_goals simp
 all_goals omega
def TX (m:Int) (k:Ex):List UInt8:=eX k.op m k.text
def mb (o:Int) (e:Ex):List Ex:=if e.op=o then e.kids else [e]
theorem DA (sep:List UInt8) (m:Int) (k:Ex) (ks:List Ex):texts sep m false (k::ks)=sep++(TX m k++texts sep m false ks):=by simp[texts,TX]
theorem DB (sep:List UInt8) (m:Int) (k:Ex) (ks:List Ex):texts sep m true (k::ks)=TX m k++texts sep m false ks:=by simp[texts,TX]
theorem Xd (e:Ex):TX 1 e=texts [124] 2 true (mb 4 e):=by
 obtain ⟨o,l,ks⟩:=e
 unfold mb TX
 by_cases h:o=4
 ·subst h;simp[Ex.op,Ex.kids,gy,text,eX]
 ·have hl:2≤gy o:=by
   unfold gy
   repeat' split
   all_goals omega
  rw[an (show¬(Ex.node o l ks).op=4 from h),DB]
  show eX o 1 _=eX o 2 _++[]
  rw[dr]
  unfold eX
  by_cases U:gy o<1
  ·rw[aj U,bf]
  ·rw[an U,aM]
theorem Xe (e:Ex):TX 2 e=texts [38] 3 true (mb 6 e):=by
 obtain ⟨o,l,ks⟩:=e
 unfold mb TX
 by_cases h:o=6
 ·subst h;simp[Ex.op,Ex.kids,gy,text,eX]
 ·have hl:gy o≠2:=by
   unfold gy
   repeat' split
   all_goals omega
  rw[an (show¬(Ex.node o l ks).op=6 from h),DB]
  show eX o 2 _=eX o 3 _++[]
  rw[dr]
  unfold eX
  by_cases U:gy o<2
  ·rw[aj U,bf]
  ·rw[an U,aM]
theorem Xf (e:Ex):TX 3 e=texts [] 4 true (mb 5 e):=by
 obtain ⟨o,l,ks⟩:=e
 unfold mb TX
 by_cases h:o=5
 ·subst h;simp[Ex.op,Ex.kids,gy,text,eX]
 ·have hl:gy o≠3:=by
   unfold gy
   repeat' split
   all_goals omega
  rw[an (show¬(Ex.node o l ks).op=5 from h),DB]
  show eX o 3 _=eX o 4 _++[]
  rw[dr]
  unfold eX
  by_cases U:gy o<3
  ·rw[aj U,bf]
  ·rw[an U,aM]
theorem DC (l:Int) (k:Ex):TX 4 (.node 8 l [k])=33::TX 4 k:=by
 simp[TX,eX,Ex.op,gy,text,texts]
theorem DD {e:Ex} (h:e.op≠8):TX 4 e=TX 5 e:=by
 unfold TX eX gy
 repeat' split
 all_goals first|rfl|omega
theorem aiL (l:Int) (k:Ex):TX 5 (.node 7 l [k])=TX 5 k++[42]:=by
 simp[TX,eX,Ex.op,gy,text,texts]
theorem aiM {e:Ex} (h:e.op≠7):TX 5 e=TX 6 e:=by
 unfold TX eX gy
 repeat' split
 all_goals first|rfl|omega
theorem qK {e:Ex} (h:4≤e.op∧e.op≤8):TX 6 e=40::(TX 1 e++[41]):=by
 unfold TX eX gy
 repeat' split
 all_goals first|rfl|omega
theorem Pn {e:Ex} (h:e.wf 6=true):(e= .node 1 0 []∨e= .node 2 0 []∨(∃l:Int,0≤l∧l<6∧e= .node 3 l []))∨(4≤e.op∧e.op≤8):=by
 obtain ⟨o,l,ks⟩:=e
 obtain ⟨h1,U⟩:=ib h
 simp only[Ex.op]
 rcases eU h1 with ⟨rfl,h,h3,h4⟩|⟨rfl,⟨rfl,h⟩|⟨rfl,h⟩|⟨rfl,h⟩|⟨rfl,h⟩|⟨rfl,h⟩|⟨rfl,h⟩|⟨rfl,h⟩⟩
 ·obtain rfl:=jY.1 (show ks.length=0 by omega)
  exact .inl (.inr (.inr ⟨l,h3,h4,rfl⟩))
 ·obtain rfl:=jY.1 (show ks.length=0 by omega)
  exact .inl (.inl rfl)
 ·obtain rfl:=jY.1 (show ks.length=0 by omega)
  exact .inl (.inr (.inl rfl))
 all_goals exact .inr (by omega)
def DE (c:UInt8):Prop:=c=48∨c=49∨c=40∨c=97∨c=98∨c=99∨c=100∨c=101∨c=102
theorem sn {l:Int} (h0:0≤l) (h1:l<6):UInt8.ofNat (97+l).toNat=97∧l=0∨UInt8.ofNat (97+l).toNat=98∧l=1∨UInt8.ofNat (97+l).toNat=99∧l=2∨UInt8.ofNat (97+l).toNat=100∧l=3∨UInt8.ofNat (97+l).toNat=101∧l=4∨UInt8.ofNat (97+l).toNat=102∧l=5:=by
 rcases (show l=0∨l=1∨l=2∨l=3∨l=4∨l=5 by omega) with rfl|rfl|rfl|rfl|rfl|rfl<;>decide
theorem aiN {e:Ex} (h:e.wf 6=true): ∃c t,TX 6 e=c::t∧DE c:=by
 rcases Pn h with (rfl|rfl|⟨l,h0,h1,rfl⟩)|h
 ·exact ⟨48,[],rfl,.inl rfl⟩
 ·exact ⟨49,[],rfl,.inr (.inl rfl)⟩
 ·refine ⟨UInt8.ofNat (97+l).toNat,[],by simp[TX,eX,gy,Ex.op,text],?_⟩
  unfold DE
  rcases sn h0 h1 with h|h|h|h|h|h<;>simp[h.1]
 ·exact ⟨40,_,qK h,.inr (.inr (.inl rfl))⟩
theorem DF {o l:Int} {ks:List Ex} (h:(Ex.node o l ks).wf 6=true) (ho:o=7∨o=8): ∃k,ks=[k]∧k.wf 6=true∧l=0:=by
 obtain ⟨h1,U⟩:=ib h
 rcases eU h1 with h|⟨h0,h⟩
 ·omega
 ·obtain ⟨k,rfl⟩:=xg.1 (show ks.length=1 by omega)
  exact ⟨k,rfl,U k (by simp),h0⟩
def Po (e:Ex):Nat→Ex
 | 0=>e
 | n+1=> .node 7 0 [Po e n]
theorem Pp: ∀e:Ex,e.wf 6=true→∃(b:Ex) (n:Nat),e=Po b n∧b.op≠7∧b.wf 6=true∧TX 5 e=TX 6 b++List.replicate n 42:=ind fun o l ks ih h=>by
 by_cases ho:o=7
 ·subst ho
  obtain ⟨k,rfl,hk,rfl⟩:=DF h (.inl rfl)
  obtain ⟨b,n,h1,U,h3,h4⟩:=ih k (by simp) hk
  exact ⟨b,n+1,by rw[h1];rfl,U,h3,by rw[aiL,h4,List.replicate_succ',cC]⟩
 ·exact ⟨.node o l ks,0,rfl,ho,h,by rw[aiM (show (Ex.node o l ks).op≠7 from ho)];simp⟩
theorem Pq {e:Ex} (h:e.wf 6=true): ∃c t,TX 5 e=c::t∧DE c:=by
 obtain ⟨b,n,_,_,h3,h4⟩:=Pp e h
 obtain ⟨c,t,h5,h6⟩:=aiN h3
 exact ⟨c,t++List.replicate n 42,by rw[h4,h5];rfl,h6⟩
theorem aiO {e:Ex} (h:e.wf 6=true): ∃c t,TX 4 e=c::t∧(c=33∨DE c):=by
 by_cases ho:e.op=8
 ·obtain ⟨o,l,ks⟩:=e
  obtain rfl:o=8:=ho
  obtain ⟨k,rfl,_⟩:=DF h (.inr rfl)
  exact ⟨33,TX 4 k,DC _ _,.inl rfl⟩
 ·obtain ⟨c,t,h1,U⟩:=Pq h
  exact ⟨c,t,by rw[DD ho,h1],.inr U⟩
def ij (m:Int) (c:UInt8):Prop:=if m=1 then c=41 else if m=2 then c=41∨c=124 else if m=3 then c=41∨c=124∨c=38 else if m=6 then True else c≠42
def fo (m:Int) (r:List UInt8):Prop:= ∀c t,r=c::t→ij m c
theorem Xg {m:Int}:fo m []:=fun c t h=>by cases h
theorem Pr {m:Int} {c:UInt8} {t:List UInt8} (h:ij m c):fo m (c::t):=fun c' t' e=>by cases e;exact h
def kF (m:Int) (e:Ex):Prop:= ∀(e':Ex) (r r':List UInt8),e'.wf 6=true→fo m r→fo m r'→TX m e++r=TX m e'++r'→e=e'∧r=r'
theorem DG {o:Int} {e:Ex} (h:e.wf 6=true): ∀x∈mb o e,x.wf 6=true:=fun x hx=>by
 unfold mb at hx
 split at hx
 ·obtain ⟨o,l,ks⟩:=e
  exact (ib h).2 x hx
 ·rw[eH.1 hx];exact h
theorem Xh {o:Int} {e:Ex} (ho:4≤o∧o≤6) (h:e.wf 6=true): ∃x xs,mb o e=x::xs:=by
 unfold mb
 split
 ·next ml=>
  obtain ⟨o,l,ks⟩:=e
  obtain ⟨h1,U⟩:=ib h
  simp only[Ex.op] at ml
  match ks,h1 with
  | [],h1=>rcases eU h1 with h|⟨_,h⟩<;>simp at h<;>omega
  | x::xs,_=>exact ⟨x,xs,rfl⟩
 ·exact ⟨e,[],rfl⟩
theorem aiP {o:Int} {e e':Ex} (ho:4≤o∧o≤6) (h:e.wf 6=true) (h':e'.wf 6=true) (he:mb o e=mb o e'):e=e':=by
 have hl: ∀{x:Ex},x.wf 6=true→x.op=o→x.bH=0∧2≤x.kids.length:=fun {x} hx KV=>by
  obtain ⟨o,l,ks⟩:=x
  obtain ⟨h1,U⟩:=ib hx
  simp only[Ex.op,Ex.bH,Ex.kids] at*
  rcases eU h1 with h|⟨_,h⟩<;>omega
 unfold mb at he
 by_cases h1:e.op=o
 ·obtain ⟨a1,a2⟩:=hl h h1
  rw[aj h1] at he
  by_cases U:e'.op=o
  ·obtain ⟨b1,b2⟩:=hl h' U
   rw[aj U] at he
   obtain ⟨o1,l1,k1⟩:=e
   obtain ⟨o2,l2,k2⟩:=e'
   simp only[Ex.op,Ex.bH,Ex.kids] at*
   subst he h1 U a1 b1
   rfl
  ·rw[an U] at he
   rw[he] at a2
   simp at a2
 ·rw[an h1] at he
  by_cases U:e'.op=o
  ·obtain ⟨b1,b2⟩:=hl h' U
   rw[aj U] at he
   rw[←he] at b2
   simp at b2
  ·rw[an U] at he
   exact (gS he).1
section
variable {sep:List UInt8} {m:Int} (hh: ∀y:Ex,y.wf 6=true→∃c t,sep++TX m y=c::t∧ij m c∧¬ij (m-1) c) (hf: ∀c,ij (m-1) c→ij m c)
include hh hf
theorem Im {ys:List Ex} {r:List UInt8} (hy: ∀y∈ys,y.wf 6=true) (hr:fo (m-1) r):fo m (texts sep m false ys++r):=by
 cases ys with
 | nil=>exact fun c t e=>hf c (hr c t e)
 | cons y ys=>
  obtain ⟨c,t,h1,U,h3⟩:=hh y (hy y (by simp))
  rw[DA,←cC sep,h1]
  exact Pr U
theorem Xi: ∀(xs ys:List Ex) (r r':List UInt8),(∀x∈xs,x.wf 6=true∧kF m x)→(∀y∈ys,y.wf 6=true)→fo (m-1) r→fo (m-1) r'→texts sep m false xs++r=texts sep m false ys++r'→xs=ys∧r=r'
 | [],[],r,r',_,_,_,_,h=>⟨rfl,h⟩
 | [],y::ys,r,r',_,hy,hr,_,h=>by
  obtain ⟨c,t,h1,U,h3⟩:=hh y (hy y (by simp))
  rw[DA,←cC sep,h1] at h
  exact absurd (hr c _ (by simpa[texts] using h)) h3
 | x::xs,[],r,r',hx,_,_,hr,h=>by
  obtain ⟨c,t,h1,U,h3⟩:=hh x (hx x (by simp)).1
  rw[DA,←cC sep,h1] at h
  exact absurd (hr c _ (by simpa[texts] using h.symm)) h3
 | x::xs,y::ys,r,r',hx,hy,hr,iX,h=>by
  rw[DA,DA,cC,cC,cC,cC] at h
  obtain ⟨rfl,U⟩:=(hx x (by simp)).2 y _ _ (hy y (by simp)) (Im hh hf (fun z hz=>(hx z (by simp[hz])).1) hr) (Im hh hf (fun z hz=>hy z (by simp[hz])) iX) (List.append_cancel_left h)
  obtain ⟨rfl,h3⟩:=Xi xs ys r r' (fun z hz=>hx z (by simp[hz])) (fun z hz=>hy z (by simp[hz])) hr iX U
  exact ⟨rfl,h3⟩
theorem Ps {o:Int} (ho:4≤o∧o≤6) (ht: ∀e:Ex,TX (m-1) e=texts sep m true (mb o e)) {e:Ex} (he:e.wf 6=true) (ih: ∀x∈mb o e,kF m x):kF (m-1) e:=by
 intro e' r r' iD hr iX h
 rw[ht,ht] at h
 obtain ⟨x,xs,hx⟩:=Xh ho he
 obtain ⟨y,ys,hy⟩:=Xh ho iD
 have wx:=DG (o:=o) he
 have wy:=DG (o:=o) iD
 rw[hx] at wx ih
 rw[hy] at wy
 rw[hx,hy,DB,DB,cC,cC] at h
 obtain ⟨rfl,U⟩:=ih x (by simp) y _ _ (wy y (by simp)) (Im hh hf (fun z hz=>wx z (by simp[hz])) hr) (Im hh hf (fun z hz=>wy z (by simp[hz])) iX) h
 obtain ⟨rfl,h3⟩:=Xi hh hf xs ys r r' (fun z hz=>⟨wx z (by simp[hz]),ih z (by simp[hz])⟩) (fun z hz=>wy z (by simp[hz])) hr iX U
 exact ⟨aiP ho he iD (by rw[hx,hy]),h3⟩
end
theorem Pt {c:UInt8} (h:DE c):c≠33∧c≠41∧c≠42∧c≠124∧c≠38:=by
 rcases h with rfl|rfl|rfl|rfl|rfl|rfl|rfl|rfl|rfl<;>decide
theorem aiQ {e:Ex} (he:e.wf 6=true) (ih: ∀x∈mb 4 e,kF 2 x):kF 1 e:=
 Ps (sep:=[124]) (m:=2) (fun y _=>⟨124,_,rfl,by simp[ij],by simp[ij]⟩) (fun c h=>by simp[ij] at h⊢;exact .inl h) (o:=4) (by omega) Xd he ih
theorem uC {e:Ex} (he:e.wf 6=true) (ih: ∀x∈mb 6 e,kF 3 x):kF 2 e:=
 Ps (sep:=[38]) (m:=3) (fun y _=>⟨38,_,rfl,by simp[ij],by simp[ij]⟩) (fun c h=>by simp[ij] at h⊢;rcases h with h|h<;>simp[h]) (o:=6) (by omega) Xe he ih
theorem aiR {e:Ex} (he:e.wf 6=true) (ih: ∀x∈mb 5 e,kF 4 x):kF 3 e:=
 Ps (sep:=[]) (m:=4) (fun y hy=>by
  obtain ⟨c,t,h1,U⟩:=aiO hy
  refine ⟨c,t,h1,?_⟩
  rcases U with rfl|U
  ·simp[ij]
  ·have:=Pt U
   simp[ij,this]) (fun c h=>by simp[ij] at h⊢;rcases h with rfl|rfl|rfl<;>decide) (o:=5) (by omega) Xf he ih
theorem aiS {e:Ex} (he:e.wf 6=true) (ih8: ∀k,e= .node 8 0 [k]→kF 4 k) (ih:e.op≠8→kF 5 e):kF 4 e:=by
 intro e' r r' iD hr iX h
 by_cases h1:e.op=8
 ·obtain ⟨o,l,ks⟩:=e
  obtain rfl:o=8:=h1
  obtain ⟨k,rfl,hk,rfl⟩:=DF he (.inr rfl)
  rw[DC] at h
  by_cases U:e'.op=8
  ·obtain ⟨o',l',b7⟩:=e'
   obtain rfl:o'=8:=U
   obtain ⟨k',rfl,dj,rfl⟩:=DF iD (.inr rfl)
   rw[DC] at h
   obtain ⟨rfl,h3⟩:=ih8 k rfl k' r r' dj hr iX (gS h).2
   exact ⟨rfl,h3⟩
  ·rw[DD U] at h
   obtain ⟨c,t,h3,h4⟩:=Pq iD
   rw[h3] at h
   exact absurd (gS h).1.symm (Pt h4).1
 ·rw[DD h1] at h
  by_cases U:e'.op=8
  ·obtain ⟨o',l',b7⟩:=e'
   obtain rfl:o'=8:=U
   obtain ⟨k',rfl,dj,rfl⟩:=DF iD (.inr rfl)
   rw[DC] at h
   obtain ⟨c,t,h3,h4⟩:=Pq he
   rw[h3] at h
   exact absurd (gS h).1 (Pt h4).1
  ·rw[DD U] at h
   exact ih h1 e' r r' iD (by simpa[fo,ij] using hr) (by simpa[fo,ij] using iX) h
theorem Xj {r r':List UInt8} (hr:fo 5 r) (iX:fo 5 r'): ∀{n n':Nat},List.replicate n 42++r=List.replicate n' 42++r'→n=n'∧r=r'
 | 0,0,h=>⟨rfl,h⟩
 | 0,n+1,h=>by
  have:=hr 42 (List.replicate n 42++r') (by simpa[List.replicate_succ] using h)
  simp[ij] at this
 | n+1,0,h=>by
  have:=iX 42 (List.replicate n 42++r) (by simpa[List.replicate_succ] using h.symm)
  simp[ij] at this
 | n+1,n'+1,h=>by
  rw[List.replicate_succ,List.replicate_succ] at h
  obtain ⟨rfl,U⟩:=Xj hr iX (gS h).2
  exact ⟨rfl,U⟩
theorem Xk (r:List UInt8):fo 6 r:=fun c t _=>by simp[ij]
theorem aiT {b:Ex} {n:Nat} {e:Ex} (h1:e=Po b n) (U:TX 5 e=TX 6 b++List.replicate n 42) (ih:kF 6 b):kF 5 e:=by
 intro e' r r' iD hr iX h
 obtain ⟨b',n',e1,e2,e3,e4⟩:=Pp e' iD
 rw[U,e4,cC,cC] at h
 obtain ⟨rfl,h3⟩:=ih b' _ _ e3 (Xk _) (Xk _) h
 obtain ⟨rfl,h4⟩:=Xj hr iX h3
 exact ⟨by rw[h1,e1],h4⟩
theorem aiU {e:Ex} (he:e.wf 6=true) (ih:4≤e.op∧e.op≤8→kF 1 e):kF 6 e:=by
 intro e' r r' iD hr iX h
 have hl: ∀l:Int,TX 6 (.node 3 l [])=[UInt8.ofNat (97+l).toNat]:=fun l=>by simp[TX,eX,gy,Ex.op,text]
 have t1:TX 6 (.node 1 0 [])=[48]:=rfl
 have t2:TX 6 (.node 2 0 [])=[49]:=rfl
 rcases Pn he with (rfl|rfl|⟨l,h0,h1,rfl⟩)|ho<;>rcases Pn iD with (rfl|rfl|⟨l',xR,ka,rfl⟩)|jn
 ·exact ⟨rfl,List.append_cancel_left h⟩
 ·rw[t1,t2] at h;cases (gS h).1
 ·rw[t1,hl] at h
  have:=(gS h).1
  rcases sn xR ka with h|h|h|h|h|h<;>(rw[h.1] at this;cases this)
 ·rw[t1,qK jn] at h;cases (gS h).1
 ·rw[t1,t2] at h;cases (gS h).1
 ·exact ⟨rfl,List.append_cancel_left h⟩
 ·rw[t2,hl] at h
  have:=(gS h).1
  rcases sn xR ka with h|h|h|h|h|h<;>(rw[h.1] at this;cases this)
 ·rw[t2,qK jn] at h;cases (gS h).1
 ·rw[t1,hl] at h
  have:=(gS h).1
  rcases sn h0 h1 with h|h|h|h|h|h<;>(rw[h.1] at this;cases this)
 ·rw[t2,hl] at h
  have:=(gS h).1
  rcases sn h0 h1 with h|h|h|h|h|h<;>(rw[h.1] at this;cases this)
 ·rw[hl,hl] at h
  obtain ⟨U,h3⟩:=gS h
  refine ⟨?_,h3⟩
  have:l=l':=by
   rcases sn h0 h1 with ⟨a,rfl⟩|⟨a,rfl⟩|⟨a,rfl⟩|⟨a,rfl⟩|⟨a,rfl⟩|⟨a,rfl⟩<;>rcases sn xR ka with ⟨b,rfl⟩|⟨b,rfl⟩|⟨b,rfl⟩|⟨b,rfl⟩|⟨b,rfl⟩|⟨b,rfl⟩<;>first|rfl|(rw[a,b] at U;cases U)
  rw[this]
 ·rw[hl,qK jn] at h
  have:=(gS h).1
  rcases sn h0 h1 with h|h|h|h|h|h<;>(rw[h.1] at this;cases this)
 ·rw[t1,qK ho] at h;cases (gS h).1
 ·rw[t2,qK ho] at h;cases (gS h).1
 ·rw[hl,qK ho] at h
  have:=(gS h).1
  rcases sn xR ka with h|h|h|h|h|h<;>(rw[h.1] at this;cases this)
 ·rw[qK ho,qK jn] at h
  have U:(TX 1 e++[41])++r=(TX 1 e'++[41])++r':=(gS h).2
  rw[cC,cC] at U
  obtain ⟨h3,h4⟩:=ih ho e' _ _ iD (Pr (by simp[ij])) (Pr (by simp[ij])) U
  exact ⟨h3,(gS h4).2⟩
theorem Io {sep:List UInt8} {m:Int}: ∀{xs:List Ex} {f:Bool} {x:Ex},x∈xs→(TX m x).length≤(texts sep m f xs).length
 | y::ys,f,x,h=>by
  simp only[texts,cg]
  rcases dO.1 h with rfl|h
  ·show (eX x.op m x.text).length≤_;omega
  ·have:=Io (sep:=sep) (m:=m) (f:=false) h
   omega
theorem Xl: ∀(n:Nat) (m:Int) (e:Ex),1≤m→m≤6→e.wf 6=true→8*(TX m e).length+(7-m).toNat<n→kF m e
 | 0,m,e,_,_,_,h=>by omega
 | n+1,m,e,h1,h6,he,h=>by
  have ih:=Xl n
  rcases (show m=1∨m=2∨m=3∨m=4∨m=5∨m=6 by omega) with rfl|rfl|rfl|rfl|rfl|rfl
  ·refine aiQ he fun x hx=>ih 2 x (by omega) (by omega) (DG he x hx) ?_
   have:=Io (sep:=[124]) (m:=2) (f:=true) hx
   rw[Xd] at h
   omega
  ·refine uC he fun x hx=>ih 3 x (by omega) (by omega) (DG he x hx) ?_
   have:=Io (sep:=[38]) (m:=3) (f:=true) hx
   rw[Xe] at h
   omega
  ·refine aiR he fun x hx=>ih 4 x (by omega) (by omega) (DG he x hx) ?_
   have:=Io (sep:=[]) (m:=4) (f:=true) hx
   rw[Xf] at h
   omega
  ·refine aiS he (fun k hk=> ?_) fun ho=> ?_
   ·subst hk
    rw[DC,List.length_cons] at h
    exact ih 4 k (by omega) (by omega) ((ib he).2 k (by simp)) (by omega)
   ·rw[DD ho] at h
    exact ih 5 e (by omega) (by omega) he (by omega)
  ·obtain ⟨b,k,e1,e2,e3,e4⟩:=Pp e he
   refine aiT e1 e4 (ih 6 b (by omega) (by omega) e3 ?_)
   rw[e4,cg] at h
   omega
  ·refine aiU he fun ho=>ih 1 e (by omega) (by omega) he ?_
   rw[qK ho,List.length_cons,cg] at h
   simp only[List.length_cons,List.length_nil] at h
   omega
theorem Xm (e:Ex):TX 1 e=e.text:=by
 unfold TX eX
 rw[an]
 unfold gy
 repeat' split
 all_goals omega
theorem Xn {a b:Ex} (ha:a.wf 6=true) (hb:b.wf 6=true) (h:a.text=b.text):a=b:=
 (Xl _ 1 a (by omega) (by omega) ha (w7 _) b [] [] hb Xg Xg (by rw[Xm,Xm,h])).1
end Go.AM
set_option maxRecDepth 100000
namespace Go.AM
open Go.Proofs
noncomputable def Xo (C:ah) (ag aq:Int) (ae:LV):Option LV:=
 (C B7 [V.int .i64 ag,V.int .i64 aq,.list aa ae]).bind fun r1=>
 bif !((V.nth r1 0).toBool) then
  some [.str []]
 else
  (C tA [V.int .i64 ag,V.int .i64 aq,.list aa ae,.list dv ([]:LV)]).bind fun r2=>
  (C GR [.list dv ((V.nth r2 0).toList)]).bind fun r3=>
  some [.str ((V.nth r3 0).toStr)]
theorem aiV {ag aq:Int} {ae:LV} {r:Option LV} (h:Xo CC ag aq ae=r):CC yr [V.int .i64 ag,V.int .i64 aq,.list aa ae]=r:=aY (L:=aZ) av h
noncomputable def Ip (C:ah) (t5:Int) (t28:Bool) (dN dy:Int) (cV bj:LV) {β:Type} (kr:LV→Option β):Option β:=
 bif t28 then
  (C tC [.list aa cV,.str [38],V.int .i64 3,.list dv bj]).bind fun r5=>
  kr ((V.nth r5 0).toList)
 else
  bif (t5:Int)==5 then
  (C tC [.list aa cV,.str [],V.int .i64 4,.list dv bj]).bind fun r6=>
  kr ((V.nth r6 0).toList)
  else
  bif (t5:Int)==8 then
   (C qz [.int .u8 33,.list dv bj]).bind fun r7=>
   (C tC [.list aa cV,.str [],V.int .i64 4,.list dv ((V.nth r7 0).toList)]).bind fun r8=>
   kr ((V.nth r8 0).toList)
  else
   bif (t5:Int)==7 then
   (C tC [.list aa cV,.str [],V.int .i64 5,.list dv bj]).bind fun r9=>
   (C qz [.int .u8 42,.list dv ((V.nth r9 0).toList)]).bind fun df=>
   kr ((V.nth df 0).toList)
   else
   kr bj
noncomputable def Iq (C:ah) (t5:Int) (t22:Bool) (dN dy:Int) (cV bj:LV) {β:Type} (kr:LV→Option β):Option β:=
 bif t22 then
  (C tC [.list aa cV,.str [124],V.int .i64 2,.list dv bj]).bind fun r4=>
  kr ((V.nth r4 0).toList)
 else
  Ip C t5 ((t5:Int)==6) dN dy cV bj (fun (sq:LV)=>
   kr sq)
noncomputable def Ir (C:ah) (t5:Int) (t14:Bool) (dN dy:Int) (cV bj:LV) {β:Type} (kr:LV→Option β):Option β:=
 bif t14 then
  (C qz [.int .u8 (IntKind.wrap .u8 (97+(IntKind.wrap .u8 dy))),.list dv bj]).bind fun r3=>
  kr ((V.nth r3 0).toList)
 else
  Iq C t5 ((t5:Int)==4) dN dy cV bj (fun (wP:LV)=>
   kr wP)
noncomputable def Is (C:ah) (t5:Int) (t10:Bool) (dN dy:Int) (cV bj:LV) {β:Type} (kr:LV→Option β):Option β:=
 bif t10 then
  (C qz [.int .u8 49,.list dv bj]).bind fun r2=>
  kr ((V.nth r2 0).toList)
 else
  Ir C t5 ((t5:Int)==3) dN dy cV bj (fun (wQ:LV)=>
   kr wQ)
noncomputable def It (C:ah) (t5:Int) (t6:Bool) (dN dy:Int) (cV bj:LV) {β:Type} (kr:LV→Option β):Option β:=
 bif t6 then
  (C qz [.int .u8 48,.list dv bj]).bind fun r1=>
  kr ((V.nth r1 0).toList)
 else
  Is C t5 ((t5:Int)==2) dN dy cV bj (fun (pM:LV)=>
   kr pM)
noncomputable def DH (C:ah):cr:=hY 463 MD [[0]] (@Ip C) (hY 367 ME [[0]] (@Iq C) (hY 239 MF [[0]] (@Ir C) (hY 175 MG [[0]] (@Is C) (hY 111 MH [[0]] (@It C) aZ))))
theorem aiW (C:ah):bC C (DH C) 57 (Cd 28 [1,1,0,1,1,1,1,1,1,1,1,1,0] [1,1,0,1,1,1,1,1,1,1,1,1,1] 57):=hX MD [[0]] (@Ip C) (a9 av) (a9 av)
theorem aiX (C:ah):bC C (DH C) 57 (Cd 22 [1,1,0,1,1,1,1,1,1,1,0] [1,1,0,1,1,1,1,1,1,1,1] 57):=hX ME [[0]] (@Iq C) (a9 av) (a9 (bB (aiW C) av))
theorem aiY (C:ah):bC C (DH C) 57 (Cd 14 [1,1,0,1,1,1,1,1,0] [1,1,0,1,1,1,1,1,1] 57):=hX MF [[0]] (@Ir C) (a9 av) (a9 (bB (aiX C) av))
theorem aiZ (C:ah):bC C (DH C) 57 (Cd 10 [1,1,0,1,1,1,0] [1,1,0,1,1,1,1] 57):=hX MG [[0]] (@Is C) (a9 av) (a9 (bB (aiY C) av))
theorem ai0 (C:ah):bC C (DH C) 57 (Cd 6 [1,1,0,1,0] [1,1,0,1,1] 57):=hX MH [[0]] (@It C) (a9 av) (a9 (bB (aiZ C) av))
noncomputable def Xp (C:ah) (ag aq:Int) (ae bt:LV):Option LV:=
 It C ag ((ag:Int)==1) ag aq ae bt (fun (nJ:LV)=>
  some [.list dv nJ])
theorem ai1 {ag aq:Int} {ae bt:LV} {r:Option LV} (h:Xp CC ag aq ae bt=r):CC tA [V.int .i64 ag,V.int .i64 aq,.list aa ae,.list dv bt]=r:=aY (bB (ai0 CC) av) h
noncomputable def DI (C:ah) (separator:List UInt8) (least:Int) (t10:LV) (t11 t12:Int) (t18:Bool) (ank anl:Int) (anm bj:LV) {β:Type} (kr:LV→Option β):Option β:=
 bif t18 then
  (C GW [.str separator,.list dv bj]).bind fun r2=>
  kr ((V.nth (r2.drop 1) 0).toList)
 else
  kr bj
noncomputable def DJ (C:ah) (separator:List UInt8) (least:Int) (t10:LV) (t11 t12:Int) (b8:LV) {β:Type} (kn:(Int × LV)→Option β) (kr:(Int × Bool × LV)→Option β):Option β:=
 bif decide ((t12:Int)<t11) then
  (idx t10 t12).bind fun x1=>
  DI C separator least t10 t11 t12 (decide ((t12:Int)>0)) ((x1.cell 0).toInt) ((x1.cell 1).toInt) ((x1.cell 2).toList) b8 (fun (Ig:LV)=>
   (C GX [V.int .i64 ((x1.cell 0).toInt)]).bind fun r4=>
   bif decide ((((V.nth r4 0).toInt):Int)≥least) then
   (C tA [V.int .i64 ((x1.cell 0).toInt),V.int .i64 ((x1.cell 1).toInt),.list aa ((x1.cell 2).toList),.list dv Ig]).bind fun r5=>
   kn (IntKind.wrap .i64 (t12+1),(V.nth r5 0).toList)
   else
   (C qz [.int .u8 40,.list dv Ig]).bind fun r6=>
   (C tA [V.int .i64 ((x1.cell 0).toInt),V.int .i64 ((x1.cell 1).toInt),.list aa ((x1.cell 2).toList),.list dv ((V.nth r6 0).toList)]).bind fun r7=>
   (C qz [.int .u8 41,.list dv ((V.nth r7 0).toList)]).bind fun r8=>
   kn (IntKind.wrap .i64 (t12+1),(V.nth r8 0).toList))
 else
  kr (t12,decide ((t12:Int)<t11),b8)
noncomputable def DK (C:ah) (separator:List UInt8) (least:Int) (t10:LV) (t11:Int):=un fun t12 b8=>DJ C separator least t10 t11 t12 b8 (fun y=>some (Sum.inl y)) (fun r=>some (Sum.inr r))
noncomputable def Xq (C:ah):cr:=hY 303 MN [[1,2,3,4,5,7,8,9,0]] (@DI C) (cq 17 MO [false,false,false,false,true,true] [[1,2,3,4,0,0,0]] (@DJ C) aZ)
theorem ai2 (C:ah):bC C (Xq C) 68 (Cd 18 [1,0,0,1,1,0,0,1,0,1,0] [1,0,0,1,1,0,0,1,0,1,1] 68):=hX MN [[1,2,3,4,5,7,8,9,0]] (@DI C) (a9 av) (a9 av)
theorem ai3 (C:ah):bC C (Xq C) 68 (Lp [1,0,0] 68):=cp MO [false,false,false,false,true,true] [[1,2,3,4,0,0,0]] (@DJ C) (a9 (bB (ai2 C) av))
noncomputable def Xr (C:ah) (kids:LV) (separator:List UInt8) (least:Int) (bt:LV):Option LV:=
 (Loop (DK C separator least kids (kids.length:Int)) (0,bt)).bind (un fun (tH:Int)=>un fun (yQ:Bool) (sq:LV)=>
  some [.list dv sq])
theorem ai4 {kids:LV} {separator:List UInt8} {least:Int} {bt:LV} {r:Option LV} (h:Xr CC kids separator least bt=r):CC tC [.list aa kids,.str separator,V.int .i64 least,.list dv bt]=r:=aY (bB (ai3 CC) av) h
noncomputable def Xs (C:ah) (op:Int):Option LV:=
 bif (op:Int)==4 then
  some [V.int .i64 1]
 else
  bif (op:Int)==6 then
  some [V.int .i64 2]
  else
  bif (op:Int)==5 then
   some [V.int .i64 3]
  else
   bif (op:Int)==8 then
   some [V.int .i64 4]
   else
   bif (op:Int)==7 then
    some [V.int .i64 5]
   else
    some [V.int .i64 6]
theorem ai5 {op:Int} {r:Option LV} (h:Xs CC op=r):CC GX [V.int .i64 op]=r:=aY (L:=aZ) av h
noncomputable def Xt (C:ah) (c:Int) (bt:LV):Option LV:=
 bif Nat.ble ((bt.length+([.int .u8 c]:LV).length)*1) bZ then
  some [.list dv (bt++([.int .u8 c]:LV))]
 else none
theorem ai6 {c:Int} {bt:LV} {r:Option LV} (h:Xt CC c bt=r):CC qz [.int .u8 c,.list dv bt]=r:=aY (L:=aZ) av h
noncomputable def Xu (C:ah) (s:List UInt8) (bt:LV):Option LV:=
 bif Nat.ble ((bt.length+(s.map dW).length)*1) bZ then
  some [V.int .i64 (s.length:Int),.list dv (bt++(s.map dW))]
 else none
theorem ai7 {s:List UInt8} {bt:LV} {r:Option LV} (h:Xu CC s bt=r):CC GW [.str s,.list dv bt]=r:=aY (L:=aZ) av h
noncomputable def Xv (C:ah) (bt:LV):Option LV:=
 bif Nat.blt 0 bt.length then
  bif decide (0<(bt.length:Int))&&(decide ((bt.length:Int)≤(bt.length:Int))&&(Nat.ble (((bt.length:Int):Int).toNat) sN&&(bt.take (((bt.length:Int):Int).toNat)).all xt)) then
  some [.str (ly (bt.take (((bt.length:Int):Int).toNat)))]
  else none
 else none
theorem ai8 {bt:LV} {r:Option LV} (h:Xv CC bt=r):CC GR [.list dv bt]=r:=aY (L:=aZ) av h
end Go.AM
set_option maxRecDepth 100000
namespace Go.AM
open Go.Proofs Ex
theorem wR (c:UInt8) (b:List UInt8) (h:b.length<2^40):CC qz [.int .u8 c.toNat,.list dv (b.map dW)]=some [.list dv ((b++[c]).map dW)]:=by
 refine ai6 ?_
 unfold Xt
 simp only[BR]
 rw[aj (by simp[bZ];omega)]
 simp[dW]
theorem ai9 (s b:List UInt8) (h:b.length+s.length<2^40):CC GW [.str s,.list dv (b.map dW)]=some [.int .i64 s.length,.list dv ((b++s).map dW)]:=by
 refine ai7 ?_
 unfold Xu
 simp only[BR]
 rw[aj (by simp[bZ];omega)]
 simp
theorem aja (b:List UInt8):ly (b.map dW)=b:=by
 unfold ly
 rw[List.map_map]
 have:((fun x:V=>UInt8.ofNat x.toInt.toNat) ∘ dW)=id:=by
  funext c
  simp[dW]
 rw[this,List.map_id]
theorem ajb (b:List UInt8) (h0:b≠[]) (h:b.length<2^40):CC GR [.list dv (b.map dW)]=some [.str b]:=by
 refine ai8 ?_
 unfold Xv
 have hp:0<b.length:=by cases b<;>simp at h0⊢
 have h1:Nat.blt 0 (b.map dW).length=true:=by rw[jZ];simpa using hp
 have U:(((b.map dW).length:Int)).toNat=(b.map dW).length:=by simp
 have h3:Nat.ble (b.map dW).length sN=true:=Nat.ble_eq_true_of_le (by simp[sN];omega)
 have h4:(b.map dW).all xt=true:=by
  rw[fy]
  intro x hx
  obtain ⟨c,_,rfl⟩:=gT.1 hx
  have:=c.toNat_lt
  simp[xt,dW]
  omega
 rw[h1,U,qQ,h3,h4,aja]
 simp[hp]
theorem ajc (op:Int):CC GX [.int .i64 op]=some [.int .i64 (gy op)]:=by
 refine ai5 ?_
 unfold Xs gy
 simp only[dx]
 repeat' split
 all_goals rfl
theorem ajd {ks:List Ex} (hlen:ks.length≤maxLen) (ih: ∀k∈ks,∀b:List UInt8,b.length+k.text.length<2^40→CC tA (bV k [.list dv (b.map dW)])=some [.list dv ((b++k.text).map dW)]) (sep:List UInt8) (least:Int):
  ∀(ay pre:List Ex) (b:List UInt8),ks=pre++ay→b.length+(texts sep least pre.isEmpty ay).length<2^40→
  ∃i t,Loop (DK CC sep least (ks.map enc) ((ks.map enc).length:Int)) (((pre.length:Nat):Int),b.map dW)=some (i,t,(b++texts sep least pre.isEmpty ay).map dW):=by
 intro ay
 induction ay with
 | nil=>
  intro pre b bc hb
  subst bc
  refine ⟨((pre.length:Nat):Int),false,aV ?_⟩
  simp only[DK,DJ,un,dr,aK,aA,texts]
  rw[aM]
  simp
 | cons k ay eF=>
  intro pre b bc hb
  have ch:pre.length<ks.length:=by rw[bc];simp
  have hm:k∈ks:=by rw[bc];simp
  have:=lb
  have bY:idx (ks.map enc) (pre.length:Int)=some k.enc:=by rw[bc];exact gM _ _ _
  generalize iG:(if pre.isEmpty then [] else sep)=sp
  have ht:texts sep least pre.isEmpty (k::ay)=sp++(eX k.op least k.text++texts sep least false ay):=by simp only[texts,iG]
  rw[ht] at hb⊢
  simp only[cg] at hb
  have dc:DK CC sep least (ks.map enc) ((ks.map enc).length:Int) (((pre.length:Nat):Int),b.map dW)=some (.inl ((((pre++[k]).length:Nat):Int),(b++sp++eX k.op least k.text).map dW)):=by
   have h1: ∀{β:Type} (kr:List V→Option β) (o l:Int) (es:List V),DI CC sep least (ks.map enc) ((ks.length:Nat):Int) ((pre.length:Nat):Int) (decide (((pre.length:Nat):Int)>0)) o l es (b.map dW) kr=kr ((b++sp).map dW):=by
    intro β kr o l es
    unfold DI
    cases pre with
    | nil=>
     simp at iG
     subst iG
     simp
    | cons a pre=>
     simp at iG
     subst iG
     rw[ai9 _ _ (by omega)]
     have:(0:Int)<((a::pre).length:Int):=by simp only[List.length_cons];omega
     simp[this]
   simp only[DK,DJ,un,aK,aA]
   rw[bf,bY]
   simp only[Option.bind_some,bu,bE,bD]
   rw[h1,ajc]
   simp only[Option.bind_some,V.aQ,V.toInt_int,aA]
   unfold eX at hb⊢
   by_cases hl:gy k.op<least
   ·rw[aM,aj hl]
    rw[aj hl] at hb
    simp only[List.length_cons,cg,List.length_nil] at hb
    rw[show (V.int .u8 40)= .int .u8 (((40:UInt8).toNat:Nat):Int) by rfl,show (V.int .u8 41)= .int .u8 (((41:UInt8).toNat:Nat):Int) by rfl]
    rw[wR _ _ (by simp;omega)]
    simp only[Option.bind_some,V.aQ,V.kZ]
    rw[ih k hm _ (by simp;omega)]
    simp only[Option.bind_some,V.aQ,V.kZ]
    rw[wR _ _ (by simp;omega),bP]
    simp
   ·rw[bf,an hl]
    rw[an hl] at hb
    rw[ih k hm _ (by simp;omega)]
    simp only[Option.bind_some,V.aQ,V.kZ]
    rw[bP]
    simp
  rw[bQ dc]
  have hE:(pre++[k]).isEmpty=false:=by cases pre<;>rfl
  have h3:=eF (pre++[k]) (b++sp++eX k.op least k.text) (by rw[bc];simp)
  rw[hE] at h3
  obtain ⟨i,t,U⟩:=h3 (by simp only[cg];omega)
  refine ⟨i,t,U.trans ?_⟩
  simp
theorem aje {ks:List Ex} (hlen:ks.length≤maxLen) (ih: ∀k∈ks,∀b:List UInt8,b.length+k.text.length<2^40→CC tA (bV k [.list dv (b.map dW)])=some [.list dv ((b++k.text).map dW)]) (sep:List UInt8) (least:Int) (b:List UInt8)
  (hb:b.length+(texts sep least true ks).length<2^40):CC tC [.list aa (ks.map enc),.str sep,.int .i64 least,.list dv (b.map dW)]=some [.list dv ((b++texts sep least true ks).map dW)]:=by
 refine ai4 ?_
 unfold Xr
 obtain ⟨i,t,h⟩:=ajd hlen ih sep least ks [] b rfl hb
 simp only[List.length_nil,Int.ofNat_zero,Int.natCast_zero,List.isEmpty_nil] at h
 erw [h]
 rfl
theorem ajf {l n:Int} (h:ee 3 l n 6=true):0≤l∧l<6:=by
 simp[ee] at h;omega
theorem Xw {o l n letters:Int} (ho:o<1∨8<o):ee o l n letters=false:=by
 have n1:o≠1:=by omega
 have n2:o≠2:=by omega
 have n3:o≠3:=by omega
 have n7:o≠7:=by omega
 have n8:o≠8:=by omega
 have n9: ¬(4≤o∧o≤6∧2≤n):=by omega
 simp[ee,n1,n2,n3,n7,n8,n9]
theorem ajg: ∀e:Ex,e.Ok→e.wf 6=true→∀b:List UInt8,b.length+e.text.length<2^40→CC tA (bV e [.list dv (b.map dW)])=some [.list dv ((b++e.text).map dW)]:=
 ind fun o l ks ih ar BP b hb=>by
  obtain ⟨w1,w2⟩:=ib BP
  have hw:=fun sep least b=>aje ar.len (fun k hk=>ih k hk (ar.mG k hk) (w2 k hk)) sep least b
  refine ai1 ?_
  unfold Xp It Is Ir Iq Ip
  simp only[Ex.op,Ex.bH,Ex.kids]
  rcases yV o with rfl|rfl|rfl|rfl|rfl|rfl|rfl|rfl|ho
  case inr.inr.inr.inr.inr.inr.inr.inr=>rw[Xw ho] at w1;cases w1
  ·simp[text] at hb⊢
   rw[show (V.int .u8 48)= .int .u8 (((48:UInt8).toNat:Nat):Int) by rfl,wR _ _ (by omega)]
   simp
  ·simp[text] at hb⊢
   rw[show (V.int .u8 49)= .int .u8 (((49:UInt8).toNat:Nat):Int) by rfl,wR _ _ (by omega)]
   simp
  ·have hl:=ajf w1
   simp[text] at hb⊢
   rw[BQ (x:=l) (by omega) (by omega),BQ (by omega) (by omega)]
   have:(V.int .u8 (97+l))= .int .u8 (((UInt8.ofNat (97+l).toNat).toNat:Nat):Int):=by
    have:(97+l).toNat<256:=by omega
    simp only[UInt8.toNat_ofNat']
    congr 1
    omega
   rw[this,wR _ _ (by omega)]
   simp
  ·simp[text] at hb⊢
   rw[hw _ _ _ (by omega)]
   simp
  ·simp[text] at hb⊢
   rw[hw _ _ _ (by omega)]
   simp
  ·simp[text] at hb⊢
   rw[hw _ _ _ (by omega)]
   simp
  ·simp[text] at hb⊢
   rw[hw _ _ _ (by omega)]
   simp only[Option.bind_some,V.aQ,V.kZ]
   rw[show (V.int .u8 42)= .int .u8 (((42:UInt8).toNat:Nat):Int) by rfl,wR _ _ (by simp;omega)]
   simp
  ·simp[text] at hb⊢
   rw[show (V.int .u8 33)= .int .u8 (((33:UInt8).toNat:Nat):Int) by rfl,wR _ _ (by omega)]
   simp only[Option.bind_some,V.aQ,V.kZ]
   rw[hw _ _ _ (by simp;omega)]
   simp
theorem ajh: ∀e:Ex,e.wf 6=true→e.text≠[]:=ind fun o l ks ih h=>by
 obtain ⟨w1,w2⟩:=ib h
 rcases yV o with rfl|rfl|rfl|rfl|rfl|rfl|rfl|rfl|ho
 case inr.inr.inr.inr.inr.inr.inr.inr=>rw[Xw ho] at w1;cases w1
 case inr.inr.inr.inl=>
  intro hh
  match ks,w1,hh with
  | [],w1,_=>simp[ee] at w1
  | [a],w1,_=>simp[ee] at w1
  | a::b::l,_,hh=>simp[text,texts] at hh
 case inr.inr.inr.inr.inr.inl=>
  intro hh
  match ks,w1,hh with
  | [],w1,_=>simp[ee] at w1
  | [a],w1,_=>simp[ee] at w1
  | a::b::l,_,hh=>simp[text,texts] at hh
 case inr.inr.inr.inr.inl=>
  intro hh
  match ks,w1,w2,hh,ih with
  | [],w1,_,_,_=>simp[ee] at w1
  | a::ks,_,w2,hh,ih=>
   have:=ih a (by simp) (w2 a (by simp))
   simp[text,texts,eX] at hh
   split at hh
   ·simp at hh
   ·exact this hh.1
 all_goals simp[text]
theorem aji (e:Ex) (h:e.Ok):CC yr (bV e [])=some [.str (if e.val 6=0 then e.text else [])]:=by
 refine aiV ?_
 unfold Xo
 rw[UU e h]
 by_cases hv:e.val 6=0
 ·obtain ⟨_,U,h3⟩:=kj hv
  have hl:=Xc e
  have hw:=ajg e h h3 [] (by simp;omega)
  simp only[fJ,List.nil_append] at hw
  simp only[Option.bind_some,V.aQ,V.dD,hv,sB,qS,cond_false,c6]
  rw[hw]
  simp only[Option.bind_some,V.aQ,V.kZ]
  rw[ajb _ (ajh e h3) (by omega)]
  simp
 ·simp[hv]
end Go.AM
set_option maxRecDepth 100000
namespace Go.AM
structure Da where
 L:Nat
 st:Nat
 F:List Bool
 N:List (List Nat)
deriving DecidableEq
namespace Da
def n (d:Da):Nat:=d.F.length
def nx (d:Da) (q x:Nat):Nat:=(d.N.getD q []).getD x 0
def fin (d:Da) (q:Nat):Bool:=d.F.getD q false
def run (d:Da) (q:Nat) (w:List Nat):Nat:=w.foldl d.nx q
def acc (d:Da) (q:Nat) (w:List Nat):Bool:=d.fin (d.run q w)
structure Ok (d:Da):Prop where
 l1:1≤d.L
 l6:d.L≤6
 nN:d.N.length=d.n
 row: ∀r∈d.N,r.length=d.L∧∀q∈r,q<d.n
 s:d.st<d.n
 c9:d.n≤512
end Da
def WL (L:Nat) (w:List Nat):Prop:= ∀x∈w,x<L
theorem WL.nil {L:Nat}:WL L []:=fun _ h=>by cases h
theorem WL.cons {L x:Nat} {w:List Nat} (h:x<L) (hw:WL L w):WL L (x::w):=fun y hy=>by
 rcases dO.1 hy with rfl|hy
 ·exact h
 ·exact hw y hy
theorem WL.tail {L x:Nat} {w:List Nat} (h:WL L (x::w)):WL L w:=fun y hy=>h y (by simp[hy])
theorem WL.app {L:Nat} {v w:List Nat}:WL L (v++w)↔WL L v∧WL L w:=by
 unfold WL
 simp only[eZ]
 exact ⟨fun h=>⟨fun x hx=>h x (.inl hx),fun x hx=>h x (.inr hx)⟩,fun h x hx=>hx.elim (h.1 x) (h.2 x)⟩
namespace Da
def Iu (d:Da) (q:Nat) (d':Da) (q':Nat):Prop:= ∀w,WL d.L w→d.acc q w=d'.acc q' w
theorem Iu.nx {d d':Da} {q q' x:Nat} (h:d.Iu q d' q') (hx:x<d.L):d.Iu (d.nx q x) d' (d'.nx q' x):=fun w hw=>h (x::w) (hw.cons hx)
def pos (d:Da) (t:Nat):Nat:=d.nx (t/d.L) (t %d.L)
def mt (d:Da):Nat→Nat
 | 0=>1
 | t+1=>if d.pos t=d.mt t then d.mt t+1 else d.mt t
structure Num (d:Da):Prop where
 le: ∀t,t<d.n*d.L→d.pos t≤d.mt t
 row: ∀q,q<d.n→q<d.mt (q*d.L)
 all:d.mt (d.n*d.L)=d.n
structure Canon (d:Da) (L:Nat) (K:List Nat→Bool):Prop where
 ok:d.Ok
 hL:d.L=L
 st:d.st=0
 num:d.Num
 red: ∀p q,p<d.n→q<d.n→d.Iu p d q→p=q
 ano: ∀w,WL L w→d.acc 0 w=K w
end Da
section
variable {α:Type} [DecidableEq α]
def ajj (S:List α) (a:α):List α:=if a∈S then S else S++[a]
def Xx (next:α→Nat→α) (S:List α) (a:α):Nat→List α
 | 0=>S
 | x+1=>ajj (Xx next S a x) (next a x)
def DL (L:Nat) (next:α→Nat→α) (a0:α):Nat→List α
 | 0=>[a0]
 | i+1=>match (DL L next a0 i)[i]? with
  | some a=>Xx next (DL L next a0 i) a L
  | none=>DL L next a0 i
variable {L:Nat} {next:α→Nat→α} {a0:α}
section
variable {k:Nat} (hd:(DL L next a0 k).length≤k)
include hd
end
section
variable {k:Nat} (hd:(DL L next a0 k).length≤k) {fin:α→Bool}
include hd
end
end
namespace Da
end Da
end Go.AM
set_option maxRecDepth 100000
namespace Go.AM
open Go.Proofs
section
variable {α:Type} (ke:α→V)
def mR (i:Nat):List α→List V
 | []=>[]
 | a::S=> .bn [ke a,iV (i:Int)]::mR (i+1) S
where iV (n:Int):V:= .int .i64 n
end
section
variable {α:Type} [DecidableEq α] {ke:α→V}
variable (hk: ∀a b,mW (ke a) (ke b)=decide (a=b))
include hk
theorem Xy (x:α): ∀(S:List α) (i:Nat),mf (ke x) (mR ke i S)=decide (x∈S)
 | [],_=>by simp[mR,mf]
 | a::S,i=>by
  have c: ∀(p q:V),(V.bn [p,q]).comp 0=p:=fun p q=>rfl
  rw[mR,mf,c,hk,Xy x S (i+1)]
  rw[oQ]
  simp
theorem Xz (x:α) (z:V): ∀(S:List α) (i:Nat),x∈S→mX (ke x) (mR ke i S) z= .int .i64 ((i+S.idxOf x:Nat):Int)
 | [],_,h=>by cases h
 | a::S,i,h=>by
  have c: ∀(p q:V),(V.bn [p,q]).comp 0=p:=fun p q=>rfl
  have c1: ∀(p q:V),(V.bn [p,q]).comp 1=q:=fun p q=>rfl
  rw[mR,mX,c,c1,hk]
  by_cases e:x=a
  ·subst e
   rw[cz rfl]
   simp[mR.iV]
  ·rw[cI e,cond_false,Xz x z S (i+1) ((dO.1 h).resolve_left e),show (a::S).idxOf x=S.idxOf x+1 from by rw[List.idxOf_cons,show (a==x)=false from l7.2 fun h=>e h.symm];rfl]
   congr 2
   omega
theorem XA (x:α): ∀(S:List α) (i:Nat),x∉S→jh (ke x) (.int .i64 ((i+S.length:Nat):Int)) (mR ke i S)=mR ke i (S++[x])
 | [],i,_=>by simp[mR,jh,mR.iV]
 | a::S,i,h=>by
  have c: ∀(p q:V),(V.bn [p,q]).comp 0=p:=fun p q=>rfl
  have e:x≠a:=fun e=>h (by simp[e])
  rw[mR,jh,c,hk,cI e,cond_false,List.cons_append,mR]
  congr 1
  have:=XA x S (i+1) fun hx=>h (by simp[hx])
  rw[←this]
  simp only[List.length_cons]
  congr 3
  omega
end
noncomputable def XB (C:ah) (ag aq:Int) (ae:LV) (cA cH:Int) (bt b8 bj:LV):Option LV:=
 (C yr [V.int .i64 ag,V.int .i64 aq,.list aa ae]).bind fun r1=>
 bif Nat.ble (((V.nth r1 0).toStr).length) maxLen&&true then
  bif Nat.ble ((bt.length+([.agg [V.int .i64 0,V.int .i64 0,.list aa ([]:LV)]]:LV).length)*40) bZ then
  TN (bt++([.agg [V.int .i64 0,V.int .i64 0,.list aa ([]:LV)]]:LV)) (bt.length:Int) <|
  ((bt++([.agg [V.int .i64 0,V.int .i64 0,.list aa ([]:LV)]]:LV))[((bt.length:Int):Int).toNat]?).bind fun x2=>
  some [V.int .i64 (bt.length:Int),V.int .i64 cA,V.int .i64 cH,.list cK (jh (.str ((V.nth r1 0).toStr)) (V.int .i64 (bt.length:Int)) bj),.list aa (ba (bt++([.agg [V.int .i64 0,V.int .i64 0,.list aa ([]:LV)]]:LV)) ((bt.length:Int)) (.agg [V.int .i64 ag,V.int .i64 aq,.list aa ae])),.list aI b8]
  else none
 else none
theorem ajk {ag aq:Int} {ae:LV} {cA cH:Int} {bt b8 bj:LV} {r:Option LV} (h:XB CC ag aq ae cA cH bt b8 bj=r):CC B6 [V.int .i64 ag,V.int .i64 aq,.list aa ae,V.int .i64 cA,V.int .i64 cH,.list aa bt,.list aI b8,.list cK bj]=r:=aY (L:=aZ) av h
noncomputable def XC (C:ah) (ag aq:Int) (ae:LV) (letters:Int):Option LV:=
 (C B6 [V.int .i64 ag,V.int .i64 aq,.list aa ae,V.int .i64 letters,V.int .i64 0,.list aa ([]:LV),.list aI ([]:LV),.list cK ([]:LV)]).bind fun r1=>
 some [V.int .i64 ((V.nth (r1.drop 1) 0).toInt),V.int .i64 ((V.nth ((r1.drop 1).drop 1) 0).toInt),.list aa ((V.nth (((r1.drop 1).drop 2).drop 1) 0).toList),.list aI ((V.nth ((((r1.drop 1).drop 2).drop 1).drop 1) 0).toList),.list cK ((V.nth ((r1.drop 1).drop 2) 0).toList)]
theorem ajl {ag aq:Int} {ae:LV} {letters:Int} {r:Option LV} (h:XC CC ag aq ae letters=r):CC B1 [V.int .i64 ag,V.int .i64 aq,.list aa ae,V.int .i64 letters]=r:=aY (L:=aZ) av h
noncomputable def XD (C:ah) (cA cH:Int) (bt b8 bj:LV):Option LV:=
 some [.bool ((cH:Int)==(bt.length:Int)),V.int .i64 cA,V.int .i64 cH,.list cK bj,.list aa bt,.list aI b8]
theorem ajm {cA cH:Int} {bt b8 bj:LV} {r:Option LV} (h:XD CC cA cH bt b8 bj=r):CC tx [V.int .i64 cA,V.int .i64 cH,.list aa bt,.list aI b8,.list cK bj]=r:=aY (L:=aZ) av h
noncomputable def ug (C:ah) (t16 t17 cA cH:Int) (bj rows cB cZ:LV) {β:Type} (kn:(Int × Int × Int × LV × LV × LV × LV)→Option β) (kr:((Int × Int × Int × LV × LV × LV) ⊕ (Int × Bool × Int × Int × LV × LV × LV × LV))→Option β):Option β:=
 bif decide ((t17:Int)<t16) then
  aH cB cH fun x1=>
  (C GL [V.int .i64 ((x1.cell 0).toInt),V.int .i64 ((x1.cell 1).toInt),.list aa ((x1.cell 2).toList),V.int .i64 t17]).bind fun r2=>
  bif (((V.nth (r2.drop 3) 0).toInt):Int) != 0 then
  kr (.inl ((V.nth (r2.drop 3) 0).toInt,cA,cH,bj,cB,cZ))
  else
  (C yr [V.int .i64 ((V.nth r2 0).toInt),V.int .i64 ((V.nth (r2.drop 1) 0).toInt),.list aa ((V.nth ((r2.drop 1).drop 1) 0).toList)]).bind fun r3=>
  bif Nat.ble (((V.nth r3 0).toStr).length) maxLen&&true then
   bif !(mf (.str ((V.nth r3 0).toStr)) bj) then
   bif ((cB.length:Int):Int)==512 then
    kr (.inl (3,cA,cH,bj,cB,cZ))
   else
    (C B6 [V.int .i64 ((V.nth r2 0).toInt),V.int .i64 ((V.nth (r2.drop 1) 0).toInt),.list aa ((V.nth ((r2.drop 1).drop 1) 0).toList),V.int .i64 cA,V.int .i64 cH,.list aa cB,.list aI cZ,.list cK bj]).bind fun r4=>
    aH rows t17 fun x5=>
    kn (IntKind.wrap .i64 (t17+1),(V.nth (r4.drop 1) 0).toInt,(V.nth ((r4.drop 1).drop 1) 0).toInt,(V.nth ((r4.drop 1).drop 2) 0).toList,ba rows t17 (V.int .i64 ((V.nth r4 0).toInt)),(V.nth (((r4.drop 1).drop 2).drop 1) 0).toList,(V.nth ((((r4.drop 1).drop 2).drop 1).drop 1) 0).toList)
   else
   aH rows t17 fun x6=>
   kn (IntKind.wrap .i64 (t17+1),cA,cH,bj,ba rows t17 (V.int .i64 ((mX (.str ((V.nth r3 0).toStr)) bj (V.int .i64 0)).toInt)),cB,cZ)
  else none
 else
  kr (.inr (t17,decide ((t17:Int)<t16),cA,cH,bj,rows,cB,cZ))
noncomputable def pN (C:ah) (t16:Int):=un fun t17=>un fun cA=>un fun cH=>un fun bj=>un fun rows=>un fun cB cZ=>ug C t16 t17 cA cH bj rows cB cZ (fun y=>some (Sum.inl y)) (fun r=>some (Sum.inr r))
noncomputable def ajn (C:ah):cr:=cq 49 Mn [false,true,true,true,true,true,true,true] [[0,0,0,0,0,0],[1,0,0,0,0,0,0,0,0]] (@ug C) aZ
theorem ajo (C:ah):bC C (ajn C) 26 (Lp [1,1,0,1,0,0] 26):=cp Mn [false,true,true,true,true,true,true,true] [[0,0,0,0,0,0],[1,0,0,0,0,0,0,0,0]] (@ug C) (a9 av)
noncomputable def XF (C:ah) (cA cH:Int) (bt b8 bj:LV):Option LV:=
 bif (decide (0≤cA))&&((decide (cA≤cA))&&(Nat.ble (((cA:Int).toNat)*8) bZ)) then
  (Loop (pN C ((List.replicate ((cA:Int).toNat) (V.int .i64 0)).length:Int)) (0,cA,cH,bj,List.replicate ((cA:Int).toNat) (V.int .i64 0),bt,b8)).bind (cf (un fun (pA:Int)=>un fun (DM:Int)=>un fun (DN:Int)=>un fun (DO:LV)=>un fun (sq:LV) (wP:LV)=>
   some [V.int .i64 pA,V.int .i64 DM,V.int .i64 DN,.list cK DO,.list aa sq,.list aI wP]) (un fun (Ny:Int)=>un fun (tI:Bool)=>un fun (Pu:Int)=>un fun (Pv:Int)=>un fun (wS:LV)=>un fun (DP:LV)=>un fun (DQ:LV) (wU:LV)=>
   bif Nat.ble ((wU.length+([.list eL DP]:LV).length)*24) bZ then
   some [V.int .i64 0,V.int .i64 Pu,V.int .i64 (IntKind.wrap .i64 (Pv+1)),.list cK wS,.list aa DQ,.list aI (wU++([.list eL DP]:LV))]
   else none))
 else none
theorem ajp {cA cH:Int} {bt b8 bj:LV} {r:Option LV} (h:XF CC cA cH bt b8 bj=r):CC tz [V.int .i64 cA,V.int .i64 cH,.list aa bt,.list aI b8,.list cK bj]=r:=aY (bB (ajo CC) av) h
end Go.AM
set_option maxRecDepth 100000
namespace Go.AM
open Go.Proofs Ex
def cj (r:List Int):V:= .list eL (r.map fun n=> .int .i64 n)
def fI (es:List Ex):List V:=mR V.str 0 (es.map Ex.text)
theorem Pw (a b:List UInt8):mW (.str a) (.str b)=decide (a=b):=by
 simp only[mW,V.cells,uE,xm,Bool.and_true]
 rw[oQ]
 simp
theorem Px {es:List Ex} (h: ∀e∈es,Nv e) {d:Ex} (hd:Nv d):d.text∈es.map Ex.text↔d∈es:=by
 rw[gT]
 constructor
 ·rintro ⟨a,ha,he⟩
  rw[←Xn (h a ha).1.2 hd.1.2 he];exact ha
 ·exact fun hx=>⟨d,hx,rfl⟩
theorem XG {α β:Type} [DecidableEq α] [DecidableEq β] {f:α→β} {d:α}: ∀{es:List α},(∀e∈es,f e=f d→e=d)→(es.map f).idxOf (f d)=es.idxOf d
 | [],_=>rfl
 | e::es,h=>by
  rw[cM,List.idxOf_cons,List.idxOf_cons,XG fun x hx=>h x (by simp[hx])]
  have:(f e==f d)=(e==d):=by
   rw[oQ,nR,nR]
   exact ⟨h e (by simp),fun h=>by rw[h]⟩
  rw[this]
theorem Iv {e:Ex} (h:e.val 6=0):(Nat.ble e.text.length maxLen&&true)=true:=by
 have a:=Xc e
 have b:=kj h
 rw[Bool.and_true,dq]
 unfold maxLen
 omega
theorem Iw {e:Ex} (h:Nv e):CC yr (bV e [])=some [.str e.text]:=by
 rw[aji e (ajq h),aj h.2]
where ajq {e:Ex} (h:Nv e):e.Ok:=nA (by omega) e h.1.2 (by have:=kj h.2;omega)
def qL (s:Dv):List V:=[.int .i64 s.L,.int .i64 s.dn,.list aa (s.es.map enc),.list aI (s.nx.map cj),.list cK (fI s.es)]
def Ix (s:Dv):List V:=[.int .i64 s.L,.int .i64 s.dn,.list cK (fI s.es),.list aa (s.es.map enc),.list aI (s.nx.map cj)]
theorem ajr {es:List Ex} (h: ∀e∈es,Nv e) {d:Ex} (hd:Nv d) (hn:d∉es):jh (.str d.text) (.int .i64 (es.length:Int)) (fI es)=fI (es++[d]):=by
 have:=XA (ke:=V.str) Pw d.text (es.map Ex.text) 0 fun hx=>hn ((Px h hd).1 hx)
 rw[aK,fx] at this
 unfold fI
 rw[this,eJ]
 rfl
theorem ajs {α:Type} (a:List α) (x y:α):(a++[x]).set a.length y=a++[y]:=by
 simp[List.set_append_right]
theorem XH {L dn:Int} {es:List Ex} {d:Ex} {nx:List V} (h: ∀e∈es,Nv e) (hd:Nv d) (hn:d∉es) (hl:es.length≤1000):
  CC B6 (bV d [.int .i64 L,.int .i64 dn,.list aa (es.map enc),.list aI nx,.list cK (fI es)])=some [.int .i64 (es.length:Int),.int .i64 L,.int .i64 dn,.list cK (fI (es++[d])),.list aa ((es++[d]).map enc),.list aI nx]:=by
 refine ajk ?_
 unfold XB TN ba
 refine bs (Iw hd) ?_
 refine bT (Iv hd.2) ?_
 refine bT (zD (by simp;omega)) ?_
 refine (nE (i:=(es.map enc).length) (v:= .agg [.int .i64 0,.int .i64 0,.list aa ([]:List V)]) (by simp)).trans ?_
 rw[Int.toNat_natCast,ajs]
 have h1:=ajr h hd hn
 rw[aK]
 show some [V.int .i64 (es.length:Int),.int .i64 L,.int .i64 dn,.list cK (jh (.str d.text) (.int .i64 (es.length:Int)) (fI es)),.list aa (es.map enc++[.agg [.int .i64 d.op,.int .i64 d.bH,.list aa (d.kids.map enc)]]),.list aI nx]=_
 rw[h1,ah9,eJ]
 rfl
theorem XI {e:Ex} {L:Int} (h:Nv e):CC B1 (bV e [.int .i64 L])=some (qL ⟨L,[e],[],0⟩):=by
 refine ajl ?_
 unfold XC
 refine bs (XH (L:=L) (dn:=0) (es:=[]) (d:=e) (nx:=[]) (by simp) h (by simp) (by simp)) ?_
 rfl
theorem pO (s:Dv):CC tx (qL s)=some (.bool (s.dn==s.es.length)::Ix s):=by
 refine ajm ?_
 unfold XD
 rw[aK]
 rfl
theorem Py {L dn:Int} {e:Ex} {k:Nat} {nx:List V} (hk:dn=(k:Int)) (he:Nv e): ∀(n x:Nat) (es:List Ex) (row:List Int),L=((x+n:Nat):Int)→x+n≤10→Es es→k<es.length→es.getD k aF=e→row.length=x→
  (∀p,kE e n x es row=some p→Loop (pN CC L) (((x:Nat):Int),L,dn,fI es,(row.map fun n=>V.int .i64 n)++List.replicate n (.int .i64 0),es.map enc,nx)=some (.inr (L,false,L,dn,fI p.1,(p.2.map fun n=>V.int .i64 n),p.1.map enc,nx)))
  ∧(kE e n x es row=none→∃y,Loop (pN CC L) (((x:Nat):Int),L,dn,fI es,(row.map fun n=>V.int .i64 n)++List.replicate n (.int .i64 0),es.map enc,nx)=some (.inl (3,y)))
 | 0,x,es,row,hL,hx,jP,fO,oj,hr=>by
  refine ⟨fun p hp=> ?_,fun hp=>by simp[kE] at hp⟩
  cases hp
  refine aV ?_
  simp only[pN,ug,un,aH,ba]
  rw[aA,aM,eP,show L=((x:Nat):Int) by omega]
  simp
 | n+1,x,es,row,hL,hx,jP,fO,oj,hr=>by
  subst hk
  have aJ:decide ((x:Int)<L)=true:=cz (by omega)
  have bY:(es.map enc)[k]? =some e.enc:=by
   rw[e7,bA fO,←oj,fA,bA fO];rfl
  have hb:=aiJ he (x:Int)
  have Pz:qJ (aL (bU x e))=match oH e x with|some d=>(d,0)|none=>(aF,3):=by
   unfold qJ oH;split<;>rfl
  rw[Pz] at hb
  have Iy:x=(row.map fun n=>V.int .i64 n).length:=by simp[hr]
  rw[kE]
  cases ca:oH e x with
  | none=>
   rw[ca] at hb
   refine ⟨fun p hp=>(by cases hp),fun _=>⟨(L,(k:Int),fI es,es.map enc,nx),aV ?_⟩⟩
   ·simp only[pN,ug,un,aH,ba]
    refine bT aJ ((nE bY).trans ?_)
    rw[bu,bE,bD]
    refine bs hb ?_
    exact bT rfl rfl
  | some d=>
   rw[ca] at hb
   have hd:=(Pe he ca).1
   have PA:mf (.str d.text) (fI es)=decide (d∈es):=by
    unfold fI
    rw[Xy Pw,Al]
    exact Px jP.nv hd
   simp only[Option.bind_some]
   by_cases hm:d∈es
   ·rw[aj hm]
    have QC:es.idxOf d<es.length:=EJ.2 hm
    obtain ⟨i1,i2⟩:=Py (L:=L) (e:=e) (k:=k) (nx:=nx) rfl he n (x+1) es (row++[(es.idxOf d:Int)]) (by omega) (by omega) jP fO oj (by simp[hr])
    have dc:pN CC L (((x:Nat):Int),L,(k:Int),fI es,(row.map fun n=>V.int .i64 n)++List.replicate (n+1) (.int .i64 0),es.map enc,nx)=some (.inl (((x+1:Nat):Int),L,(k:Int),fI es,((row++[(es.idxOf d:Int)]).map fun n=>V.int .i64 n)++List.replicate n (.int .i64 0),es.map enc,nx)):=by
     simp only[pN,ug,un,aH,ba]
     refine bT aJ ((nE bY).trans ?_)
     rw[bu,bE,bD]
     refine bs hb (bF rfl (bs (Iw hd) (bT (Iv hd.2) ?_)))
     refine bF (by rw[V.aQ,V.Gw,PA,cz hm];rfl) ?_
     refine (tZ Iy).trans ?_
     rw[Int.toNat_natCast,ua Iy,lT (by omega),V.aQ,V.Gw]
     have hg:mX (.str d.text) (fI es) (.int .i64 0)= .int .i64 (es.idxOf d:Int):=by
      unfold fI
      rw[Xz Pw _ _ _ _ ((Px jP.nv hd).2 hm),XG fun x hx=>Xn (jP.nv x hx).1.2 hd.1.2,fx]
     rw[hg,V.toInt_int,eJ]
     rfl
    exact ⟨fun p hp=>(bQ dc).trans (i1 p hp),fun hp=>by obtain ⟨y,hy⟩:=i2 hp;exact ⟨y,(bQ dc).trans hy⟩⟩
   ·rw[an hm]
    by_cases sr:es.length=512
    ·rw[aj sr]
     refine ⟨fun p hp=>(by cases hp),fun _=>⟨(L,(k:Int),fI es,es.map enc,nx),aV ?_⟩⟩
     ·simp only[pN,ug,un,aH,ba]
      refine bT aJ ((nE bY).trans ?_)
      rw[bu,bE,bD]
      refine bs hb (bF rfl (bs (Iw hd) (bT (Iv hd.2) ?_)))
      refine bT (by rw[V.aQ,V.Gw,PA,cI hm];rfl) ?_
      exact bT (by rw[aK,sr];rfl) rfl
    ·rw[an sr]
     have hl:=jP.le
     obtain ⟨i1,i2⟩:=Py (L:=L) (e:=e) (k:=k) (nx:=nx) rfl he n (x+1) (es++[d]) (row++[(es.length:Int)]) (by omega) (by omega) (jP.snoc hd hm sr) (by simp;omega) (by rw[Dx fO,oj]) (by simp[hr])
     have dc:pN CC L (((x:Nat):Int),L,(k:Int),fI es,(row.map fun n=>V.int .i64 n)++List.replicate (n+1) (.int .i64 0),es.map enc,nx)=some (.inl (((x+1:Nat):Int),L,(k:Int),fI (es++[d]),((row++[(es.length:Int)]).map fun n=>V.int .i64 n)++List.replicate n (.int .i64 0),(es++[d]).map enc,nx)):=by
      simp only[pN,ug,un,aH,ba]
      refine bT aJ ((nE bY).trans ?_)
      rw[bu,bE,bD]
      refine bs hb (bF rfl (bs (Iw hd) (bT (Iv hd.2) ?_)))
      refine bT (by rw[V.aQ,V.Gw,PA,cI hm];rfl) ?_
      refine bF (by rw[aK,l7];omega) ?_
      refine bs (XH jP.nv hd hm (by omega)) ?_
      refine (tZ Iy).trans ?_
      rw[Int.toNat_natCast,ua Iy,lT (by omega),eJ (l₁:=row)]
      rfl
     exact ⟨fun p hp=>(bQ dc).trans (i1 p hp),fun hp=>by obtain ⟨y,hy⟩:=i2 hp;exact ⟨y,(bQ dc).trans hy⟩⟩
theorem PB {s:Dv} (hs:Gs s) (hd:s.dn<s.es.length):
  (∀t,proc s=some t→CC tz (qL s)=some (.int .i64 0::Ix t))∧(proc s=none→∃l,CC tz (qL s)=some (.int .i64 3::l)):=by
 have Dy:=hs.dn
 have hL:=hs.L
 have hq:s.dn.toNat<s.es.length:=by omega
 have gI:=hs.nl
 have hle:=hs.es.le
 have hN:((s.L.toNat:Nat):Int)=s.L:=by omega
 obtain ⟨l1,l2⟩:=Py (L:=s.L) (dn:=s.dn) (e:=s.es.getD s.dn.toNat aF) (k:=s.dn.toNat) (nx:=s.nx.map cj) (by omega) (hs.es.nv _ (nH hq)) s.L.toNat 0 s.es [] (by omega) (by omega) hs.es hq rfl rfl
 have hf: ∀{r:Option (List V)},((Loop (pN CC s.L) (((0:Nat):Int),s.L,s.dn,fI s.es,List.replicate s.L.toNat (V.int .i64 0),s.es.map enc,s.nx.map cj)).bind (cf (un fun (pA:Int)=>un fun (DM:Int)=>un fun (DN:Int)=>un fun (DO:List V)=>un fun (sq:List V) (wP:List V)=>some [V.int .i64 pA,.int .i64 DM,.int .i64 DN,.list cK DO,.list aa sq,.list aI wP]) (un fun (Ny:Int)=>un fun (tI:Bool)=>un fun (Pu:Int)=>un fun (Pv:Int)=>un fun (wS:List V)=>un fun (DP:List V)=>un fun (DQ:List V) (wU:List V)=>bif Nat.ble ((wU.length+([.list eL DP]:List V).length)*24) bZ then some [.int .i64 0,.int .i64 Pu,.int .i64 (IntKind.wrap .i64 (Pv+1)),.list cK wS,.list aa DQ,.list aI (wU++([.list eL DP]:List V))] else none)))=r→CC tz (qL s)=r:=fun h=>by
  refine ajp ?_
  unfold XF
  refine bT ?_ ?_
  ·refine uB.2 ⟨cz (by omega),uB.2 ⟨cz (by omega),?_⟩⟩
   rw[dq,iK];omega
  ·rw[ux,hN]
   exact h
 refine ⟨fun t ht=>hf ?_,fun ht=> ?_⟩
 ·obtain ⟨p,hp,rfl⟩:=Pg ht
  refine bs (l1 p hp) ?_
  simp only[cf,un]
  refine bT (by rw[dq,iK];simp;omega) ?_
  rw[bP]
  unfold Ix
  simp only[eJ]
  rfl
 ·have hr:kE (s.es.getD s.dn.toNat aF) s.L.toNat 0 s.es []=none:=by
   unfold proc at ht
   rwa [Option.map_eq_none_iff] at ht
  obtain ⟨y,hy⟩:=l2 hr
  exact ⟨_,hf (bs hy rfl)⟩
end Go.AM
set_option maxRecDepth 100000
namespace Go.AM
open Go.Proofs
noncomputable def DR (C:ah) (t22 XJ XK:Int) (bj:LV) (kC kD mP mQ:Int) (PC pL XL XM:LV) (t23:Int) (DS:LV) {β:Type} (kn:(Int × LV)→Option β) (kr:(Int × Bool × LV)→Option β):Option β:=
 bif decide ((t23:Int)<t22) then
  aH PC t23 fun x1=>
  (C k9 [V.int .i64 ((x1.cell 0).toInt),V.int .i64 ((x1.cell 1).toInt),.list aa ((x1.cell 2).toList)]).bind fun r2=>
  bif Nat.ble ((DS.length+([.bool ((V.nth r2 0).toBool)]:LV).length)*1) bZ then
  kn (IntKind.wrap .i64 (t23+1),DS++([.bool ((V.nth r2 0).toBool)]:LV))
  else none
 else
  kr (t23,decide ((t23:Int)<t22),DS)
noncomputable def Iz (C:ah) (t22 XJ XK:Int) (bj:LV) (kC kD mP mQ:Int) (PC pL XL XM:LV):=un fun t23 DS=>DR C t22 XJ XK bj kC kD mP mQ PC pL XL XM t23 DS (fun y=>some (Sum.inl y)) (fun r=>some (Sum.inr r))
noncomputable def ajt (C:ah):cr:=cq 49 Mo [false,true,false,false,false,false,false,false,false,false,false,false,false,true] [[1,0,0,3,4,5,6,7,8,9,10,11,12,13,0]] (@DR C) aZ
theorem aju (C:ah):bC C (ajt C) 27 (Lp [1,1,0,1,0,0] 27):=cp Mo [false,true,false,false,false,false,false,false,false,false,false,false,false,true] [[1,0,0,3,4,5,6,7,8,9,10,11,12,13,0]] (@DR C) (a9 av)
noncomputable def XN (C:ah) (cA cH:Int) (bt b8 bj:LV):Option LV:=
 (Loop (Iz C (bt.length:Int) cA cH bj 0 0 cA 0 bt b8 ([]:LV) ([]:LV)) (0,([]:LV))).bind (un fun (jz:Int)=>un fun (ia:Bool) (PD:LV)=>
  some [V.int .i64 cA,V.int .i64 0,V.int .i64 cA,V.int .i64 cH,.list cK bj,.list jy PD,.list aI b8,.list aa bt])
theorem ajv {cA cH:Int} {bt b8 bj:LV} {r:Option LV} (h:XN CC cA cH bt b8 bj=r):CC BZ [V.int .i64 cA,V.int .i64 cH,.list aa bt,.list aI b8,.list cK bj]=r:=aY (bB (aju CC) av) h
noncomputable def zJ (C:ah) (er et:Int) (b8 bj:LV) (cA cH:Int) (dS cB cZ:LV) {β:Type} (kn:(Int × Int × LV × LV × LV)→Option β) (kr:((Int × Int × Int × LV × LV) ⊕ (Bool × Int × Int × LV × LV × LV))→Option β):Option β:=
 (C tx [V.int .i64 cA,V.int .i64 cH,.list aa dS,.list aI cB,.list cK cZ]).bind fun r4=>
 bif !((V.nth r4 0).toBool) then
  (C tz [V.int .i64 ((V.nth (r4.drop 1) 0).toInt),V.int .i64 ((V.nth ((r4.drop 1).drop 1) 0).toInt),.list aa ((V.nth (((r4.drop 1).drop 2).drop 1) 0).toList),.list aI ((V.nth ((((r4.drop 1).drop 2).drop 1).drop 1) 0).toList),.list cK ((V.nth ((r4.drop 1).drop 2) 0).toList)]).bind fun r5=>
  bif (((V.nth r5 0).toInt):Int) != 0 then
  kr (.inl ((V.nth r5 0).toInt,0,0,([]:LV),([]:LV)))
  else
  kn ((V.nth (r5.drop 1) 0).toInt,(V.nth ((r5.drop 1).drop 1) 0).toInt,(V.nth (((r5.drop 1).drop 2).drop 1) 0).toList,(V.nth ((((r5.drop 1).drop 2).drop 1).drop 1) 0).toList,(V.nth ((r5.drop 1).drop 2) 0).toList)
 else
  kr (.inr (!((V.nth r4 0).toBool),(V.nth (r4.drop 1) 0).toInt,(V.nth ((r4.drop 1).drop 1) 0).toInt,(V.nth (((r4.drop 1).drop 2).drop 1) 0).toList,(V.nth ((((r4.drop 1).drop 2).drop 1).drop 1) 0).toList,(V.nth ((r4.drop 1).drop 2) 0).toList))
noncomputable def wV (C:ah) (er et:Int) (b8 bj:LV):=un fun cA=>un fun cH=>un fun dS=>un fun cB cZ=>zJ C er et b8 bj cA cH dS cB cZ (fun y=>some (Sum.inl y)) (fun r=>some (Sum.inr r))
noncomputable def ajw (C:ah):cr:=cq 81 Mi [false,false,true,true,false,false,true,true,true] [[0,0,0,0,0],[0,1,2,0,0,5,6,0,0,0]] (@zJ C) aZ
theorem ajx (C:ah):bC C (ajw C) 22 (Lp [1,1,1,0,0,0] 22):=cp Mi [false,false,true,true,false,false,true,true,true] [[0,0,0,0,0],[0,1,2,0,0,5,6,0,0,0]] (@zJ C) (a9 av)
noncomputable def XO (C:ah) (ag aq:Int) (ae:LV) (letters:Int):Option LV:=
 (C vI [V.int .i64 ag,V.int .i64 aq,.list aa ae,V.int .i64 letters]).bind fun r1=>
 bif (((V.nth r1 0).toInt):Int) != 0 then
  some [V.int .i64 0,V.int .i64 0,V.int .i64 ((V.nth r1 0).toInt),.list jy ([]:LV),.list aI ([]:LV)]
 else
  (C B0 [V.int .i64 ag,V.int .i64 aq,.list aa ae]).bind fun r2=>
  (C B1 [V.int .i64 ((V.nth r2 0).toInt),V.int .i64 ((V.nth (r2.drop 1) 0).toInt),.list aa ((V.nth ((r2.drop 1).drop 1) 0).toList),V.int .i64 letters]).bind fun r3=>
  (Loop (wV C 0 0 ([]:LV) ([]:LV)) ((V.nth r3 0).toInt,(V.nth (r3.drop 1) 0).toInt,(V.nth (r3.drop 2) 0).toList,(V.nth ((r3.drop 2).drop 1) 0).toList,(V.nth (((r3.drop 2).drop 1).drop 1) 0).toList)).bind (cf (un fun (ld:Int)=>un fun (ajy:Int)=>un fun (ajz:Int)=>un fun (DN:LV) (DO:LV)=>
   some [V.int .i64 ajy,V.int .i64 ajz,V.int .i64 ld,.list jy DN,.list aI DO]) (un fun (Hp:Bool)=>un fun (wW:Int)=>un fun (ajA:Int)=>un fun (pM:LV)=>un fun (nJ:LV) (ajB:LV)=>
   (C BZ [V.int .i64 wW,V.int .i64 ajA,.list aa pM,.list aI nJ,.list cK ajB]).bind fun ei=>
   some [V.int .i64 ((V.nth ei 0).toInt),V.int .i64 ((V.nth (ei.drop 1) 0).toInt),V.int .i64 0,.list jy ((V.nth (((ei.drop 2).drop 2).drop 1) 0).toList),.list aI ((V.nth ((((ei.drop 2).drop 2).drop 1).drop 1) 0).toList)]))
theorem ajC {ag aq:Int} {ae:LV} {letters:Int} {r:Option LV} (h:XO CC ag aq ae letters=r):CC GI [V.int .i64 ag,V.int .i64 aq,.list aa ae,V.int .i64 letters]=r:=aY (bB (ajx CC) av) h
end Go.AM
set_option maxRecDepth 100000
namespace Go.AM
open Go.Proofs Ex
abbrev gz (d:Dv) (l:List V):List V:= .int .i64 d.L:: .list aa (d.es.map enc):: .list aI (d.nx.map cj):: .int .i64 d.dn::l
structure Dv.Ok (d:Dv):Prop where
 es: ∀e∈d.es,e.Ok
 el:d.es.length≤maxLen
 nl:d.nx.length≤maxLen
 rl: ∀r∈d.nx,r.length≤maxLen
theorem ajD {α:Type} {a b:List α} {z:α} (hl:a.length=b.length) (h: ∀i,i<a.length→a.getD i z=b.getD i z):a=b:=by
 refine List.ext_getElem hl fun i h1 U=> ?_
 have:=h i h1
 rw[fA,fA,bA h1,bA U] at this
 exact this
theorem oJ {α:Type} {a b:List α} {z:α} (hl:a.length=b.length):(∀i,i<a.length→a.getD i z=b.getD i z)↔a=b:=
 ⟨ajD hl,fun h=>by rw[h];exact fun _ _=>rfl⟩
theorem ll {α:Type} {f:α→V} {l:List α} {z:α} {i:Nat} (h:i<l.length):idx (l.map f) (i:Int)=some (f (l.getD i z)):=by
 rw[Lj rfl,e7,bA h,fA,bA h];rfl
theorem IA {s:Dv} (hs:Gs s):s.Ok:=by
 have h1:=hs.es.le
 have U:=hs.nl
 have h3:=hs.dn
 have h4:=hs.L
 refine ⟨fun e he=>nA (by omega) e (hs.es.nv e he).1.2 (by have:=kj (hs.es.nv e he).2;omega),by unfold maxLen;omega,by unfold maxLen;omega,fun r hr=> ?_⟩
 obtain ⟨q,hq,rfl⟩:=List.getElem_of_mem hr
 have:=(hs.row q (by omega)).1
 rw[fA,bA hq,Option.getD_some] at this
 rw[this];unfold maxLen;omega
abbrev kG (s:Dv):Int × Int × List V × List V × List V:=(s.L,s.dn,s.es.map enc,s.nx.map cj,fI s.es)
abbrev wX (p:Dv × Int):List V:=[.int .i64 p.1.L,.int .i64 p.1.dn,.int .i64 p.2,.list aa (p.1.es.map enc),.list aI (p.1.nx.map cj)]
theorem ajE {e:Ex} {L:Int} (h:e.val L=0):Nv (aL e):=⟨lR e (kj (wM h)).2.2,Ik (wM h)⟩
structure Fa where
 L:Int
 F:List Bool
 N:List (List Int)
abbrev XP (p:Fa × Int):List V:=[.int .i64 p.1.L,.int .i64 0,.int .i64 p.2,.list jy (p.1.F.map V.bool),.list aI (p.1.N.map cj)]
def Fa.zero:Fa:=⟨0,[],[]⟩
def XQ (d:Dv):Fa:=⟨d.L,d.es.map Ex.da,d.nx⟩
theorem ajF {es:List Ex} (hn:es.length≤1000) (ho: ∀e∈es,Nv e) {a b c1 c2 c3 c4:Int} {l1 l2 l3 l4:List V}: ∀(ay pre:List Ex),es=pre++ay→
  Loop (Iz CC (es.length:Int) a b l1 c1 c2 c3 c4 (es.map enc) l2 l3 l4) (((pre.length:Nat):Int),(pre.map Ex.da).map V.bool)=some ((es.length:Int),false,(es.map Ex.da).map V.bool):=by
 intro ay
 induction ay with
 | nil=>
  intro pre e
  rw[dr] at e
  subst e
  refine aV ?_
  simp only[Iz,DR,un]
  rw[aA,aM,eP]
 | cons k ay eF=>
  intro pre e
  have ch:pre.length<es.length:=by rw[e];simp
  have hk:k∈es:=by rw[e];simp
  have bY:(es.map enc)[pre.length]? =some k.enc:=by rw[e];simp
  have hv:=kj (ho k hk).2
  refine (bQ ?_).trans (eF (pre++[k]) (by simp[e]))
  simp only[Iz,DR,un]
  refine bT (mO ch) ((nE bY).trans ?_)
  rw[bu,bE,bD]
  refine bs (aeP (letters:=6) k (nA (by omega) k hv.2.2 (by omega)) hv.2.2) ?_
  refine bT (by rw[dq,iK];simp;omega) ?_
  rw[lT (by omega)]
  simp only[eJ,cM,fJ,cg,List.length_cons,List.length_nil]
  rfl
theorem XR {s:Dv} (hs:Gs s): ∃l,CC BZ (qL s)=some l∧(V.nth l 0).toInt=s.L∧(V.nth (l.drop 1) 0).toInt=0∧(V.nth (((l.drop 2).drop 2).drop 1) 0).toList=(s.es.map Ex.da).map V.bool∧(V.nth ((((l.drop 2).drop 2).drop 1).drop 1) 0).toList=s.nx.map cj:=by
 have hl:=hs.es.le
 refine ⟨[.int .i64 s.L,.int .i64 0,.int .i64 s.L,.int .i64 s.dn,.list cK (fI s.es),.list jy ((s.es.map Ex.da).map V.bool),.list aI (s.nx.map cj),.list aa (s.es.map enc)],ajv ?_,?_⟩
 ·unfold XN
  rw[aK]
  refine bs (ajF (by omega) hs.es.nv s.es [] rfl) ?_
  simp only[un]
 ·exact ⟨rfl,rfl,rfl,rfl⟩
def DT (e:Ex) (L:Int):Fa × Int:=if e.val L=0 then (match eN 513 (eO e L) with|some t=>(XQ t,0)|none=>(.zero,3)) else (.zero,e.val L)
theorem XS {a b:Int} {l1 l2:List V}: ∀(n:Nat) (s:Dv),Gs s→513≤s.dn+n→
  (∀t,eN n s=some t→Loop (wV CC a b l1 l2) (kG s)=some (.inr (false,t.L,t.dn,t.es.map enc,t.nx.map cj,fI t.es)))∧(eN n s=none→Loop (wV CC a b l1 l2) (kG s)=some (.inl (3,0,0,[],[])))
 | 0,s,hs,hn=>by have:=hs.dn;have:=hs.es.le;omega
 | n+1,s,hs,hn=>by
  rw[eN]
  have Dy:=hs.dn
  by_cases hd:s.dn<s.es.length
  ·rw[aj hd]
   obtain ⟨p1,p2⟩:=PB hs hd
   have hf:(!(s.dn==(s.es.length:Int)))=true:=by rw[kJ,l7];omega
   cases hp:proc s with
   | none=>
    obtain ⟨l,hl⟩:=p2 hp
    refine ⟨fun t ht=>(by cases ht),fun _=>aV ?_⟩
    simp only[wV,zJ,un]
    refine bs (pO s) (bT hf ?_)
    refine bs hl ?_
    rfl
   | some u=>
    obtain ⟨g,_,g2,_⟩:=zI hs hd hp
    obtain ⟨i1,i2⟩:=XS (a:=a) (b:=b) (l1:=l1) (l2:=l2) n u g (by omega)
    have dc:wV CC a b l1 l2 (kG s)=some (.inl (kG u)):=by
     simp only[wV,zJ,un]
     refine bs (pO s) (bT hf ?_)
     refine bs (p1 u hp) ?_
     rfl
    exact ⟨fun t ht=>(bQ dc).trans (i1 t ht),fun ht=>(bQ dc).trans (i2 ht)⟩
  ·rw[an hd]
   refine ⟨fun t ht=> ?_,fun ht=>(by cases ht)⟩
   cases ht
   refine aV ?_
   have hf:(!(s.dn==(s.es.length:Int)))=false:=by rw[Bool.not_eq_false',nR];omega
   simp only[wV,zJ,un]
   refine bs (pO s) (bF hf ?_)
   exact congrArg (fun b=>some (Sum.inr (Sum.inr (b,s.L,s.dn,s.es.map enc,s.nx.map cj,fI s.es)))) hf
theorem ajG {e:Ex} (h:e.Ok) (L:Int):CC GI (bV e [.int .i64 L])=some (XP (DT e L)):=by
 refine ajC ?_
 unfold XO DT
 refine bs (yX e h L) ?_
 by_cases hv:e.val L=0
 ·rw[aj hv]
  refine bF (by rw[V.aQ,V.toInt_int,hv];rfl) ?_
  have hN:=WC e h
  rw[aj (wM hv)] at hN
  refine bs hN (bs (XI (L:=L) (ajE hv)) ?_)
  obtain ⟨l1,l2⟩:=XS (a:=0) (b:=0) (l1:=[]) (l2:=[]) 513 (eO e L) (wO hv) (by show 513≤(0:Int)+_;omega)
  cases hp:eN 513 (eO e L) with
  | none=>exact bs (l2 hp) rfl
  | some t=>
   refine bs (l1 t hp) ?_
   obtain ⟨l,a1,a2,a3,a4,a5⟩:=XR (uf 513 _ _ (wO hv) hp).1
   refine bs a1 ?_
   rw[a2,a3,a4,a5]
   rfl
 ·rw[an hv]
  refine bT ?_ rfl
  rw[V.aQ,V.toInt_int,lu];exact hv
end Go.AM
set_option maxRecDepth 100000
namespace Go.AM
open Go.Proofs
noncomputable def XT (C:ah) (bI:Int) (bw cP:LV) (cL cA cH:Int) (bt b8 bj:LV):Option LV:=
 bif (cA:Int)==bI then
  bif (cH:Int)==cL then
  (C GO [.list aa bt,.list aa bw]).bind fun r1=>
  bif (V.nth r1 0).toBool then
   (C GP [.list aI b8,.list aI cP]).bind fun r2=>
   some [.bool ((V.nth r2 0).toBool),V.int .i64 cA,V.int .i64 cH,.list cK bj,.list aa bt,.list aI b8]
  else
   some [.bool false,V.int .i64 cA,V.int .i64 cH,.list cK bj,.list aa bt,.list aI b8]
  else
  some [.bool false,V.int .i64 cA,V.int .i64 cH,.list cK bj,.list aa bt,.list aI b8]
 else
  some [.bool false,V.int .i64 cA,V.int .i64 cH,.list cK bj,.list aa bt,.list aI b8]
theorem ajH {bI:Int} {bw cP:LV} {cL cA cH:Int} {bt b8 bj:LV} {r:Option LV} (h:XT CC bI bw cP cL cA cH bt b8 bj=r):CC B4 [V.int .i64 bI,.list aa bw,.list aI cP,V.int .i64 cL,V.int .i64 cA,V.int .i64 cH,.list aa bt,.list aI b8,.list cK bj]=r:=aY (L:=aZ) av h
noncomputable def XU (C:ah) (fe eT:Int) (ff:LV) (fg fh:Int) (fv:LV):Option LV:=
 (C bN [V.int .i64 fe,V.int .i64 eT,.list aa ff,V.int .i64 fg,V.int .i64 fh,.list aa fv]).bind fun r1=>
 some [.bool ((((V.nth r1 0).toInt):Int)==0)]
theorem ajI {fe eT:Int} {ff:LV} {fg fh:Int} {fv:LV} {r:Option LV} (h:XU CC fe eT ff fg fh fv=r):CC vL [V.int .i64 fe,V.int .i64 eT,.list aa ff,V.int .i64 fg,V.int .i64 fh,.list aa fv]=r:=aY (L:=aZ) av h
noncomputable def uh (C:ah) (mP:Int) (mQ XV:LV) (IB cA cH:Int) (b8 bj dS:LV) {β:Type} (kn:(Int × Int × LV × LV × LV)→Option β) (kr:((Unit) ⊕ (Bool × Int × Int × LV × LV × LV))→Option β):Option β:=
 bif decide ((cH:Int)<IB) then
  (C tx [V.int .i64 cA,V.int .i64 cH,.list aa b8,.list aI bj,.list cK dS]).bind fun r8=>
  bif (V.nth r8 0).toBool then
  kr (.inl ())
  else
  (C tz [V.int .i64 ((V.nth (r8.drop 1) 0).toInt),V.int .i64 ((V.nth ((r8.drop 1).drop 1) 0).toInt),.list aa ((V.nth (((r8.drop 1).drop 2).drop 1) 0).toList),.list aI ((V.nth ((((r8.drop 1).drop 2).drop 1).drop 1) 0).toList),.list cK ((V.nth ((r8.drop 1).drop 2) 0).toList)]).bind fun r9=>
  bif (((V.nth r9 0).toInt):Int) != 0 then
   kr (.inl ())
  else
   kn ((V.nth (r9.drop 1) 0).toInt,(V.nth ((r9.drop 1).drop 1) 0).toInt,(V.nth (((r9.drop 1).drop 2).drop 1) 0).toList,(V.nth ((((r9.drop 1).drop 2).drop 1).drop 1) 0).toList,(V.nth ((r9.drop 1).drop 2) 0).toList)
 else
  kr (.inr (decide ((cH:Int)<IB),cA,cH,b8,bj,dS))
noncomputable def pP (C:ah) (mP:Int) (mQ XV:LV) (IB:Int):=un fun cA=>un fun cH=>un fun b8=>un fun bj dS=>uh C mP mQ XV IB cA cH b8 bj dS (fun y=>some (Sum.inl y)) (fun r=>some (Sum.inr r))
noncomputable def ajJ (C:ah):cr:=cq 113 L8 [false,false,false,false,true,true,true,true,true] [[],[0,1,2,3,4,0,0,0,0,0]] (@uh C) aZ
theorem ajK (C:ah):bC C (ajJ C) 14 (Lp [1,1,1,1,1,0,0,0] 14):=cp L8 [false,false,false,false,true,true,true,true,true] [[],[0,1,2,3,4,0,0,0,0,0]] (@uh C) (a9 av)
noncomputable def ui (C:ah) (bI:Int) (bw cP:LV) (cL:Int):Option LV:=
 bif ((bw.length:Int):Int)==0 then
  some [V.bool true]
 else
  bif decide (((bw.length:Int):Int)>512) then
  some [V.bool true]
  else
  (bw[0]?).bind fun x1=>
  (C vI [V.int .i64 ((x1.cell 0).toInt),V.int .i64 ((x1.cell 1).toInt),.list aa ((x1.cell 2).toList),V.int .i64 bI]).bind fun r2=>
  bif (((V.nth r2 0).toInt):Int) != 0 then
   some [V.bool true]
  else
   (bw[0]?).bind fun x3=>
   (C B0 [V.int .i64 ((x3.cell 0).toInt),V.int .i64 ((x3.cell 1).toInt),.list aa ((x3.cell 2).toList)]).bind fun r4=>
   (bw[0]?).bind fun x5=>
   (C bN [V.int .i64 ((V.nth r4 0).toInt),V.int .i64 ((V.nth (r4.drop 1) 0).toInt),.list aa ((V.nth ((r4.drop 1).drop 1) 0).toList),V.int .i64 ((x5.cell 0).toInt),V.int .i64 ((x5.cell 1).toInt),.list aa ((x5.cell 2).toList)]).bind fun r6=>
   bif (((V.nth r6 0).toInt):Int) != 0 then
   some [V.bool true]
   else
   (C B1 [V.int .i64 ((V.nth r4 0).toInt),V.int .i64 ((V.nth (r4.drop 1) 0).toInt),.list aa ((V.nth ((r4.drop 1).drop 1) 0).toList),V.int .i64 bI]).bind fun r7=>
   (Loop (pP C bI bw cP cL) ((V.nth r7 0).toInt,(V.nth (r7.drop 1) 0).toInt,(V.nth (r7.drop 2) 0).toList,(V.nth ((r7.drop 2).drop 1) 0).toList,(V.nth (((r7.drop 2).drop 1).drop 1) 0).toList)).bind (cf (fun _=>
    some [V.bool true]) (un fun (yQ:Bool)=>un fun (DU:Int)=>un fun (wW:Int)=>un fun (wQ:LV)=>un fun (pM:LV) (nJ:LV)=>
    (C B4 [V.int .i64 bI,.list aa bw,.list aI cP,V.int .i64 cL,V.int .i64 DU,V.int .i64 wW,.list aa wQ,.list aI pM,.list cK nJ]).bind fun gx=>
    some [V.bool false,.bool ((V.nth gx 0).toBool),V.int .i64 ((V.nth (gx.drop 1) 0).toInt),V.int .i64 ((V.nth ((gx.drop 1).drop 1) 0).toInt),.list aa ((V.nth (((gx.drop 1).drop 2).drop 1) 0).toList),.list aI ((V.nth ((((gx.drop 1).drop 2).drop 1).drop 1) 0).toList),.list cK ((V.nth ((gx.drop 1).drop 2) 0).toList)]))
theorem ajL {bI:Int} {bw cP:LV} {cL:Int} {r:Option LV} (h:ui CC bI bw cP cL=r):CC pq [V.int .i64 bI,.list aa bw,.list aI cP,V.int .i64 cL]=r:=aY (bB (ajK CC) av) h
noncomputable def XW (C:ah) (bI:Int) (bw cP:LV) (cL:Int):Option LV:=
 (C pq [V.int .i64 bI,.list aa bw,.list aI cP,V.int .i64 cL]).bind fun r1=>
 bif (V.nth r1 0).toBool then
  some [V.int .i64 8]
 else
  bif !((V.nth (r1.drop 1) 0).toBool) then
  some [V.int .i64 8]
  else
  some [V.int .i64 0]
theorem ajM {bI:Int} {bw cP:LV} {cL:Int} {r:Option LV} (h:XW CC bI bw cP cL=r):CC rX [V.int .i64 bI,.list aa bw,.list aI cP,V.int .i64 cL]=r:=aY (L:=aZ) av h
noncomputable def DV (C:ah) (s2 t15:LV) (t16 t17:Int) {β:Type} (kn:Int→Option β) (kr:((Bool) ⊕ (Int × Bool))→Option β):Option β:=
 bif decide ((t17:Int)<t16) then
  (idx t15 t17).bind fun x1=>
  (idx s2 t17).bind fun x2=>
  (C vL [V.int .i64 ((x1.cell 0).toInt),V.int .i64 ((x1.cell 1).toInt),.list aa ((x1.cell 2).toList),V.int .i64 ((x2.cell 0).toInt),V.int .i64 ((x2.cell 1).toInt),.list aa ((x2.cell 2).toList)]).bind fun r3=>
  bif !((V.nth r3 0).toBool) then
  kr (.inl false)
  else
  kn (IntKind.wrap .i64 (t17+1))
 else
  kr (.inr (t17,decide ((t17:Int)<t16)))
noncomputable def IC (C:ah) (s2 t15:LV) (t16:Int):=fun t17=>DV C s2 t15 t16 t17 (fun y=>some (Sum.inl y)) (fun r=>some (Sum.inr r))
noncomputable def ajN (C:ah):cr:=cq 65 Mx [false,false,false,true] [[0],[1,2,3,0,0]] (@DV C) aZ
theorem ajO (C:ah):bC C (ajN C) 50 (Lp [1,1,0,1,0,0] 50):=cp Mx [false,false,false,true] [[0],[1,2,3,0,0]] (@DV C) (a9 av)
noncomputable def XX (C:ah) (s1 s2:LV):Option LV:=
 bif ((s1.length:Int):Int) != (s2.length:Int) then
  some [.bool false]
 else
  (Loop (IC C s2 s1 (s1.length:Int)) 0).bind (cf (fun (ia:Bool)=>
   some [.bool ia]) (un fun (mH:Int) (ld:Bool)=>
   some [.bool true]))
theorem ajP {s1 s2:LV} {r:Option LV} (h:XX CC s1 s2=r):CC GO [.list aa s1,.list aa s2]=r:=aY (bB (ajO CC) av) h
noncomputable def DW (C:ah) (s2 t15:LV) (t16 t17:Int) {β:Type} (kn:Int→Option β) (kr:((Bool) ⊕ (Int × Bool))→Option β):Option β:=
 bif decide ((t17:Int)<t16) then
  (idx t15 t17).bind fun x1=>
  (idx s2 t17).bind fun x2=>
  (C vM [.list eL x1.toList,.list eL x2.toList]).bind fun r3=>
  bif !((V.nth r3 0).toBool) then
  kr (.inl false)
  else
  kn (IntKind.wrap .i64 (t17+1))
 else
  kr (.inr (t17,decide ((t17:Int)<t16)))
noncomputable def ID (C:ah) (s2 t15:LV) (t16:Int):=fun t17=>DW C s2 t15 t16 t17 (fun y=>some (Sum.inl y)) (fun r=>some (Sum.inr r))
noncomputable def ajQ (C:ah):cr:=cq 65 My [false,false,false,true] [[0],[1,2,3,0,0]] (@DW C) aZ
theorem ajR (C:ah):bC C (ajQ C) 51 (Lp [1,1,0,1,0,0] 51):=cp My [false,false,false,true] [[0],[1,2,3,0,0]] (@DW C) (a9 av)
noncomputable def XY (C:ah) (s1 s2:LV):Option LV:=
 bif ((s1.length:Int):Int) != (s2.length:Int) then
  some [.bool false]
 else
  (Loop (ID C s2 s1 (s1.length:Int)) 0).bind (cf (fun (ia:Bool)=>
   some [.bool ia]) (un fun (mH:Int) (ld:Bool)=>
   some [.bool true]))
theorem ajS {s1 s2:LV} {r:Option LV} (h:XY CC s1 s2=r):CC GP [.list aI s1,.list aI s2]=r:=aY (bB (ajR CC) av) h
noncomputable def DX (C:ah) (s1 s2:LV) (t12 t13:Int) {β:Type} (kn:Int→Option β) (kr:((Bool) ⊕ (Int × Bool))→Option β):Option β:=
 bif decide ((t13:Int)<t12) then
  (idx s1 t13).bind fun x1=>
  (idx s2 t13).bind fun x2=>
  bif (x1.toInt:Int) != x2.toInt then
  kr (.inl false)
  else
  kn (IntKind.wrap .i64 (t13+1))
 else
  kr (.inr (t13,decide ((t13:Int)<t12)))
noncomputable def IE (C:ah) (s1 s2:LV) (t12:Int):=fun t13=>DX C s1 s2 t12 t13 (fun y=>some (Sum.inl y)) (fun r=>some (Sum.inr r))
noncomputable def ajT (C:ah):cr:=cq 65 Mz [false,false,false,true] [[0],[1,2,3,0,0]] (@DX C) aZ
theorem ajU (C:ah):bC C (ajT C) 52 (Lp [1,1,0,1,0,0] 52):=cp Mz [false,false,false,true] [[0],[1,2,3,0,0]] (@DX C) (a9 av)
noncomputable def XZ (C:ah) (s1 s2:LV):Option LV:=
 bif ((s1.length:Int):Int) != (s2.length:Int) then
  some [.bool false]
 else
  (Loop (IE C s1 s2 (s1.length:Int)) 0).bind (cf (fun (jz:Bool)=>
   some [.bool jz]) (un fun (ia:Int) (mH:Bool)=>
   some [.bool true]))
theorem ajV {s1 s2:LV} {r:Option LV} (h:XZ CC s1 s2=r):CC vM [.list eL s1,.list eL s2]=r:=aY (bB (ajU CC) av) h
end Go.AM
set_option maxRecDepth 100000
namespace Go.AM
open Go.Proofs Ex
theorem ajW (a:Ex) (ha:a.Ok) (b:Ex) (hb:b.Ok):CC vL (bV a (bV b []))=some [.bool (decide (a=b))]:=by
 refine ajI ?_
 unfold XU
 refine bs (Hy a ha b hb) ?_
 rw[V.aQ,V.toInt_int,show (cmp a b==0)=decide (a=b) from oQ.2 (by rw[nR,ej];exact tP)]
theorem ajX {a b:List Ex} (ha: ∀e∈a,e.Ok) (hb: ∀e∈b,e.Ok) (hl:a.length≤maxLen):CC GO [.list aa (a.map enc),.list aa (b.map enc)]=some [.bool (decide (a=b))]:=by
 have hm:=lb
 refine ajP ?_
 unfold XX
 by_cases he:a.length=b.length
 ·refine bF (by simp[he]) ?_
  have loop:Loop (IC CC (b.map enc) (a.map enc) ((a.map enc).length:Int)) 0=some (if∀i,i<a.length→a.getD i aF=b.getD i aF then .inr ((a.length:Int),false) else .inl false):=by
   refine yN (good:=fun i=>a.getD i aF=b.getD i aF) a.length (fun i=>(i:Int)) (Sum.inl false:Bool ⊕ (Int × Bool)) (Sum.inr ((a.length:Int),false)) (fun i hi=> ?_) ?_
   ·simp only[IC,DV,aK]
    refine bT (mO hi) (bs (ll (z:=aF) hi) (bs (ll (z:=aF) (by omega)) ?_))
    rw[bu,bE,bD,bu,bE,bD]
    refine bs (ajW _ (ha _ (nH hi)) _ (hb _ (nH (by omega)))) ?_
    by_cases h:a.getD i aF=b.getD i aF
    ·rw[aj h]
     refine bF (by rw[V.aQ,V.dD,cz h];rfl) ?_
     rw[bP]
     rfl
    ·rw[an h]
     exact bT (by rw[V.aQ,V.dD,cI h];rfl) rfl
   ·simp only[IC,DV,aK]
    rw[aA,aM,eP]
  refine bs loop ?_
  by_cases h:a=b
  ·rw[aj ((oJ he).2 h),cz h];rfl
  ·rw[an fun hx=>h ((oJ he).1 hx),cI h];rfl
 ·rw[cI fun h=>he (by rw[h])]
  exact bT (by simp;omega) rfl
theorem ajY {a b:List Int} (hl:a.length≤maxLen):CC vM [cj a,cj b]=some [.bool (decide (a=b))]:=by
 have hm:=lb
 refine ajV ?_
 unfold XZ
 by_cases he:a.length=b.length
 ·refine bF (by simp[he]) ?_
  have loop:Loop (IE CC (a.map fun n=>V.int .i64 n) (b.map fun n=>V.int .i64 n) ((a.map fun n=>V.int .i64 n).length:Int)) 0=some (if∀i,i<a.length→a.getD i 0=b.getD i 0 then .inr ((a.length:Int),false) else .inl false):=by
   refine yN (good:=fun i=>a.getD i 0=b.getD i 0) a.length (fun i=>(i:Int)) (Sum.inl false:Bool ⊕ (Int × Bool)) (Sum.inr ((a.length:Int),false)) (fun i hi=> ?_) ?_
   ·simp only[IE,DX,aK]
    refine bT (mO hi) (bs (ll (z:=0) hi) (bs (ll (z:=0) (by omega)) ?_))
    rw[V.toInt_int,V.toInt_int]
    by_cases h:a.getD i 0=b.getD i 0
    ·rw[aj h]
     refine bF (by rw[sH];exact h) ?_
     rw[bP]
     rfl
    ·rw[an h]
     exact bT (by rw[lu];exact h) rfl
   ·simp only[IE,DX,aK]
    rw[aA,aM,eP]
  refine bs loop ?_
  by_cases h:a=b
  ·rw[aj ((oJ he).2 h),cz h];rfl
  ·rw[an fun hx=>h ((oJ he).1 hx),cI h];rfl
 ·rw[cI fun h=>he (by rw[h])]
  exact bT (by simp;omega) rfl
theorem X0 (r:List Int):V.list eL (cj r).toList=cj r:=rfl
theorem ajZ {a b:List (List Int)} (hr: ∀r∈a,r.length≤maxLen) (hl:a.length≤maxLen):CC GP [.list aI (a.map cj),.list aI (b.map cj)]=some [.bool (decide (a=b))]:=by
 have hm:=lb
 refine ajS ?_
 unfold XY
 by_cases he:a.length=b.length
 ·refine bF (by simp[he]) ?_
  have loop:Loop (ID CC (b.map cj) (a.map cj) ((a.map cj).length:Int)) 0=some (if∀i,i<a.length→a.getD i []=b.getD i [] then .inr ((a.length:Int),false) else .inl false):=by
   refine yN (good:=fun i=>a.getD i []=b.getD i []) a.length (fun i=>(i:Int)) (Sum.inl false:Bool ⊕ (Int × Bool)) (Sum.inr ((a.length:Int),false)) (fun i hi=> ?_) ?_
   ·simp only[ID,DW,aK]
    refine bT (mO hi) (bs (ll (z:=[]) hi) (bs (ll (z:=[]) (by omega)) ?_))
    rw[X0,X0]
    refine bs (ajY (hr _ (nH hi))) ?_
    by_cases h:a.getD i []=b.getD i []
    ·rw[aj h]
     refine bF (by rw[V.aQ,V.dD,cz h];rfl) ?_
     rw[bP]
     rfl
    ·rw[an h]
     exact bT (by rw[V.aQ,V.dD,cI h];rfl) rfl
   ·simp only[ID,DW,aK]
    rw[aA,aM,eP]
  refine bs loop ?_
  by_cases h:a=b
  ·rw[aj ((oJ he).2 h),cz h];rfl
  ·rw[an fun hx=>h ((oJ he).1 hx),cI h];rfl
 ·rw[cI fun h=>he (by rw[h])]
  exact bT (by simp;omega) rfl
theorem aj0 {d s:Dv} (hd:d.Ok) (hs:Gs s):CC B4 (gz d (qL s))=some (.bool (decide (s=d))::Ix s):=by
 have ho:=IA hs
 refine ajH ?_
 unfold XT
 obtain ⟨L,es,nx,dn⟩:=s
 obtain ⟨L',aN,DY,IF⟩:=d
 rw[dx]
 by_cases hL:L=L'
 ·rw[aj hL,dx]
  by_cases hn:dn=IF
  ·rw[aj hn]
   refine bs (ajX ho.es hd.es ho.el) ?_
   by_cases he:es=aN
   ·refine bT (by rw[V.aQ,V.dD];exact cz he) ?_
    refine bs (ajZ ho.rl ho.nl) ?_
    have:decide (nx=DY)=decide (Dv.mk L es nx dn=Dv.mk L' aN DY IF):=by
     rw[Al,Dv.mk.injEq]
     exact ⟨fun h=>⟨hL,he,h,hn⟩,fun h=>h.2.2.1⟩
    rw[←this]
    rfl
   ·refine bF (by rw[V.aQ,V.dD];exact cI he) ?_
    rw[cI fun h=>he (Dv.mk.inj h).2.1]
    rfl
  ·rw[an hn,cI fun h=>hn (Dv.mk.inj h).2.2.2]
   rfl
 ·rw[an hL,cI fun h=>hL (Dv.mk.inj h).1]
  rfl
theorem X1 {d:Dv} {a:Int} {l1 l2:List V}: ∀(n:Nat) (s:Dv),Gs s→s.dn+n=d.dn→
  (∀t,oI n s=some t→Loop (pP CC a l1 l2 d.dn) (kG s)=some (.inr (false,kG t)))∧(oI n s=none→Loop (pP CC a l1 l2 d.dn) (kG s)=some (.inl ()))
 | 0,s,hs,hn=>by
  refine ⟨fun t ht=> ?_,fun h=>by simp[oI] at h⟩
  cases ht
  refine aV ?_
  simp only[pP,uh,un]
  rw[aA,aM,eP]
 | n+1,s,hs,hn=>by
  rw[oI]
  have aJ:decide (s.dn<d.dn)=true:=cz (by omega)
  by_cases hd:s.dn<s.es.length
  ·rw[aj hd]
   obtain ⟨p1,p2⟩:=PB hs hd
   have hf:(s.dn==(s.es.length:Int))=false:=by rw[l7];omega
   cases hp:proc s with
   | none=>
    obtain ⟨l,hl⟩:=p2 hp
    refine ⟨fun t ht=>(by cases ht),fun _=>aV ?_⟩
    simp only[pP,uh,un]
    refine bT aJ (bs (pO s) (bF hf ?_))
    refine bs hl ?_
    rfl
   | some u=>
    obtain ⟨g,_,g2,_⟩:=zI hs hd hp
    obtain ⟨i1,i2⟩:=X1 (d:=d) (a:=a) (l1:=l1) (l2:=l2) n u g (by omega)
    have dc:pP CC a l1 l2 d.dn (kG s)=some (.inl (kG u)):=by
     simp only[pP,uh,un]
     refine bT aJ (bs (pO s) (bF hf ?_))
     refine bs (p1 u hp) ?_
     rfl
    exact ⟨fun t ht=>(bQ dc).trans (i1 t ht),fun ht=>(bQ dc).trans (i2 ht)⟩
  ·rw[an hd]
   refine ⟨fun t ht=>(by cases ht),fun _=>aV ?_⟩
   have Dy:=hs.dn
   simp only[pP,uh,un]
   refine bT aJ (bs (pO s) (bT ?_ rfl))
   show (s.dn==(s.es.length:Int))=true
   rw[nR];omega
theorem X2 {n:Nat} {s t:Dv} (hs:Gs s) (h:oI n s=some t):Gs t∧∃r,t.es=s.es++r:=by
 obtain ⟨a,_,b,_⟩:=uf n s t hs (Dz n s t h)
 exact ⟨a,b⟩
theorem IG {d:Dv} (hd:d.Ok):(gR d=true→CC pq (gz d [])=some (.bool false:: .bool true::qL d))∧
  (gR d=false→CC pq (gz d [])=some [.bool true]∨∃s,CC pq (gz d [])=some (.bool false:: .bool false::qL s)):=by
 have hf: ∀{r:Option (List V)},ui CC d.L (d.es.map enc) (d.nx.map cj) d.dn=r→CC pq (gz d [])=r:=fun h=>ajL h
 by_cases h0:d.es=[]
 ·refine ⟨fun h=>absurd h0 (gB h).1,fun _=> .inl (hf ?_)⟩
  unfold ui
  exact bT (by rw[h0];rfl) rfl
 have hp:0<d.es.length:=List.length_pos_iff.2 h0
 by_cases h5:d.es.length≤512
 case neg=>
  refine ⟨fun h=>absurd (gB h).2.1 h5,fun _=> .inl (hf ?_)⟩
  unfold ui
  refine bF (by rw[aK,l7];omega) ?_
  exact bT (cz (by rw[aK];omega)) rfl
 have hx:(d.es.map enc)[0]? =some (d.es.getD 0 aF).enc:=by
  rw[e7,bA hp,fA,bA hp];rfl
 have ho:=hd.es _ (nH (z:=aF) hp)
 have b1:(((d.es.map enc).length:Int)==0)=false:=by rw[aK,l7];omega
 have b2:decide ((((d.es.map enc).length:Int))>512)=false:=cI (by rw[aK];omega)
 by_cases hv:(d.es.getD 0 aF).val d.L=0
 case neg=>
  refine ⟨fun h=>absurd (gB h).2.2.1 hv,fun _=> .inl (hf ?_)⟩
  unfold ui
  refine bF b1 (bF b2 (bs hx ?_))
  rw[bu,bE,bD]
  refine bs (yX _ ho d.L) (bT ?_ rfl)
  rw[V.aQ,V.toInt_int,lu];exact hv
 have hg:=wO hv
 have hN:=WC _ ho
 rw[aj (wM hv)] at hN
 have PE:Nv (aL (d.es.getD 0 aF)):=aj1 (wM hv)
 have nn:(aL (d.es.getD 0 aF)).Ok:=nA (by omega) _ PE.1.2 (by have:=kj PE.2;omega)
 have hC:=Hy _ nn _ ho
 by_cases hn:aL (d.es.getD 0 aF)=d.es.getD 0 aF
 case neg=>
  refine ⟨fun h=> ?_,fun _=> .inl (hf ?_)⟩
  ·obtain ⟨_,_,_,_,h⟩:=gB h
   obtain ⟨_,r,hr⟩:=X2 hg h
   refine absurd ?_ hn
   have e:=congrArg (fun l=>List.getD l 0 aF) hr
   exact e.symm
  ·unfold ui
   refine bF b1 (bF b2 (bs hx ?_))
   rw[bu,bE,bD]
   refine bs (yX _ ho d.L) (bF (by rw[V.aQ,V.toInt_int,hv];rfl) (bs hx ?_))
   rw[bu,bE,bD]
   refine bs hN (bs hx ?_)
   rw[bu,bE,bD]
   refine bs hC (bT ?_ rfl)
   rw[V.aQ,V.toInt_int,lu]
   exact fun h=>hn (tP.1 h)
 have pre: ∀{r:Option (List V)},((Loop (pP CC d.L (d.es.map enc) (d.nx.map cj) d.dn) (kG (eO (d.es.getD 0 aF) d.L))).bind (cf (fun _=>some [V.bool true]) (un fun (yQ:Bool)=>un fun (DU:Int)=>un fun (wW:Int)=>un fun (wQ:List V)=>un fun (pM:List V) (nJ:List V)=>
    (CC B4 [.int .i64 d.L,.list aa (d.es.map enc),.list aI (d.nx.map cj),.int .i64 d.dn,.int .i64 DU,.int .i64 wW,.list aa wQ,.list aI pM,.list cK nJ]).bind fun gx=>
    some [V.bool false,.bool ((V.nth gx 0).toBool),.int .i64 ((V.nth (gx.drop 1) 0).toInt),.int .i64 ((V.nth ((gx.drop 1).drop 1) 0).toInt),.list aa ((V.nth (((gx.drop 1).drop 2).drop 1) 0).toList),.list aI ((V.nth ((((gx.drop 1).drop 2).drop 1).drop 1) 0).toList),.list cK ((V.nth ((gx.drop 1).drop 2) 0).toList)])))=r→ui CC d.L (d.es.map enc) (d.nx.map cj) d.dn=r:=fun h=>by
  unfold ui
  refine bF b1 (bF b2 (bs hx ?_))
  rw[bu,bE,bD]
  refine bs (yX _ ho d.L) (bF (by rw[V.aQ,V.toInt_int,hv];rfl) (bs hx ?_))
  rw[bu,bE,bD]
  refine bs hN (bs hx ?_)
  rw[bu,bE,bD]
  refine bs hC (bF ?_ ?_)
  ·rw[V.aQ,V.toInt_int,tP.2 hn];rfl
  ·refine bs (XI (L:=d.L) PE) ?_
   exact h
 have fin: ∀(s:Dv),Gs s→Loop (pP CC d.L (d.es.map enc) (d.nx.map cj) d.dn) (kG (eO (d.es.getD 0 aF) d.L))=some (.inr (false,kG s))→CC pq (gz d [])=some (.bool false:: .bool (decide (s=d))::qL s):=fun s hs hl=>by
  refine hf (pre ?_)
  refine bs hl ?_
  refine bs (aj0 hd hs) ?_
  rfl
 by_cases zK:0≤d.dn
 case neg=>
  have bq:eO (d.es.getD 0 aF) d.L≠d:=fun h=>zK (by rw[←h];exact Int.le_refl 0)
  refine ⟨fun h=>absurd (gB h).2.2.2.1 zK,fun _=> .inr ⟨eO (d.es.getD 0 aF) d.L,?_⟩⟩
  have:=fin (eO (d.es.getD 0 aF) d.L) hg (by
   refine aV ?_
   have h0: ¬(eO (d.es.getD 0 aF) d.L).dn<d.dn:=by show¬(0:Int)<d.dn;omega
   simp only[pP,uh,un]
   rw[aA,an h0,cI h0])
  rw[cI bq] at this
  exact this
 obtain ⟨l1,l2⟩:=X1 (d:=d) (a:=d.L) (l1:=d.es.map enc) (l2:=d.nx.map cj) d.dn.toNat (eO (d.es.getD 0 aF) d.L) hg (by show (0:Int)+_=_;omega)
 cases hs:oI d.dn.toNat (eO (d.es.getD 0 aF) d.L) with
 | none=>
  refine ⟨fun h=> ?_,fun _=> .inl (hf (pre ?_))⟩
  ·have:=(gB h).2.2.2.2
   rw[hs] at this
   cases this
  ·exact bs (l2 hs) rfl
 | some s=>
  have Lh:=(X2 hg hs).1
  have qH:=fin s Lh (l1 s hs)
  by_cases he:s=d
  ·rw[cz he] at qH
   refine ⟨fun _=>by rw[qH,he],fun h=> ?_⟩
   have:gR d=true:=cz ⟨h0,h5,hv,zK,by rw[hs,he]⟩
   rw[this] at h;cases h
  ·rw[cI he] at qH
   refine ⟨fun h=> ?_,fun _=> .inr ⟨_,qH⟩⟩
   have:=(gB h).2.2.2.2
   rw[hs] at this
   exact absurd (dh this) he
where aj1 {e:Ex} (h:e.val 6=0):Nv (aL e):=⟨lR e (kj h).2.2,Ik h⟩
theorem X3 {d:Dv} (hd:d.Ok):CC rX (gz d [])=some [.int .i64 (if gR d=true then 0 else 8)]:=by
 obtain ⟨h1,U⟩:=IG hd
 refine ajM ?_
 unfold XW
 cases hs:gR d with
 | true=>exact bs (h1 hs) rfl
 | false=>
  rcases U hs with h|⟨s,h⟩
  ·exact bs h rfl
  ·exact bs h rfl
end Go.AM
set_option maxRecDepth 100000
namespace Go.AM
open Go.Proofs
noncomputable def wY (C:ah) (er et:Int) (b8 bj:LV) (db cA cH:Int) (dS cB cZ:LV) {β:Type} (kn:(Int × Int × Int × LV × LV × LV)→Option β) (kr:((Int × Int × Int × LV × LV) ⊕ (Int × Bool × Int × Int × LV × LV × LV))→Option β):Option β:=
 bif decide ((db:Int)>0) then
  (C tx [V.int .i64 cA,V.int .i64 cH,.list aa dS,.list aI cB,.list cK cZ]).bind fun r2=>
  bif !((V.nth r2 0).toBool) then
  (C tz [V.int .i64 ((V.nth (r2.drop 1) 0).toInt),V.int .i64 ((V.nth ((r2.drop 1).drop 1) 0).toInt),.list aa ((V.nth (((r2.drop 1).drop 2).drop 1) 0).toList),.list aI ((V.nth ((((r2.drop 1).drop 2).drop 1).drop 1) 0).toList),.list cK ((V.nth ((r2.drop 1).drop 2) 0).toList)]).bind fun r3=>
  bif (((V.nth r3 0).toInt):Int) != 0 then
   kr (.inl ((V.nth r3 0).toInt,0,0,([]:LV),([]:LV)))
  else
   kn (IntKind.wrap .i64 (db-1),(V.nth (r3.drop 1) 0).toInt,(V.nth ((r3.drop 1).drop 1) 0).toInt,(V.nth (((r3.drop 1).drop 2).drop 1) 0).toList,(V.nth ((((r3.drop 1).drop 2).drop 1).drop 1) 0).toList,(V.nth ((r3.drop 1).drop 2) 0).toList)
  else
  kr (.inr (db,!((V.nth r2 0).toBool),(V.nth (r2.drop 1) 0).toInt,(V.nth ((r2.drop 1).drop 1) 0).toInt,(V.nth (((r2.drop 1).drop 2).drop 1) 0).toList,(V.nth ((((r2.drop 1).drop 2).drop 1).drop 1) 0).toList,(V.nth ((r2.drop 1).drop 2) 0).toList))
 else
  kr (.inr (db,false,cA,cH,dS,cB,cZ))
noncomputable def uj (C:ah) (er et:Int) (b8 bj:LV):=un fun db=>un fun cA=>un fun cH=>un fun dS=>un fun cB cZ=>wY C er et b8 bj db cA cH dS cB cZ (fun y=>some (Sum.inl y)) (fun r=>some (Sum.inr r))
noncomputable def aj2 (C:ah):cr:=cq 97 L7 [true,false,false,true,true,false,false,true,true,true] [[0,0,0,0,0],[0,0,2,3,0,0,6,7,0,0,0]] (@wY C) aZ
theorem aj3 (C:ah):bC C (aj2 C) 11 (Lp [1,1,1,1,0,0,0] 11):=cp L7 [true,false,false,true,true,false,false,true,true,true] [[0,0,0,0,0],[0,0,2,3,0,0,6,7,0,0,0]] (@wY C) (a9 av)
noncomputable def X4 (C:ah) (bI:Int) (bw cP:LV) (cL db:Int):Option LV:=
 (C pq [V.int .i64 bI,.list aa bw,.list aI cP,V.int .i64 cL]).bind fun r1=>
 bif (V.nth r1 0).toBool then
  some [V.int .i64 0,V.int .i64 0,V.int .i64 8,.list aa ([]:LV),.list aI ([]:LV)]
 else
  bif !((V.nth (r1.drop 1) 0).toBool) then
  some [V.int .i64 0,V.int .i64 0,V.int .i64 8,.list aa ([]:LV),.list aI ([]:LV)]
  else
  bif decide ((db:Int)<0) then
   some [V.int .i64 0,V.int .i64 0,V.int .i64 1,.list aa ([]:LV),.list aI ([]:LV)]
  else
   (Loop (uj C 0 0 ([]:LV) ([]:LV)) (db,(V.nth ((r1.drop 1).drop 1) 0).toInt,(V.nth (((r1.drop 1).drop 1).drop 1) 0).toInt,(V.nth (((r1.drop 1).drop 1).drop 2) 0).toList,(V.nth ((((r1.drop 1).drop 1).drop 2).drop 1) 0).toList,(V.nth (((((r1.drop 1).drop 1).drop 2).drop 1).drop 1) 0).toList)).bind (cf (un fun (ia:Int)=>un fun (aj4:Int)=>un fun (aj5:Int)=>un fun (b_7:LV) (DM:LV)=>
    some [V.int .i64 aj4,V.int .i64 aj5,V.int .i64 ia,.list aa b_7,.list aI DM]) (un fun (anp:Int)=>un fun (yQ:Bool)=>un fun (DU:Int)=>un fun (wW:Int)=>un fun (wQ:LV)=>un fun (pM:LV) (nJ:LV)=>
    some [V.int .i64 DU,V.int .i64 wW,V.int .i64 0,.list aa wQ,.list aI pM]))
theorem aj6 {bI:Int} {bw cP:LV} {cL db:Int} {r:Option LV} (h:X4 CC bI bw cP cL db=r):CC tu [V.int .i64 bI,.list aa bw,.list aI cP,V.int .i64 cL,V.int .i64 db]=r:=aY (bB (aj3 CC) av) h
noncomputable def X5 (C:ah) (bI:Int) (bw cP:LV) (cL:Int):Option LV:=
 (C pq [V.int .i64 bI,.list aa bw,.list aI cP,V.int .i64 cL]).bind fun r1=>
 bif (V.nth r1 0).toBool then
  some [.bool false]
 else
  bif (V.nth (r1.drop 1) 0).toBool then
  (C tx [V.int .i64 ((V.nth ((r1.drop 1).drop 1) 0).toInt),V.int .i64 ((V.nth (((r1.drop 1).drop 1).drop 1) 0).toInt),.list aa ((V.nth (((r1.drop 1).drop 1).drop 2) 0).toList),.list aI ((V.nth ((((r1.drop 1).drop 1).drop 2).drop 1) 0).toList),.list cK ((V.nth (((((r1.drop 1).drop 1).drop 2).drop 1).drop 1) 0).toList)]).bind fun r2=>
  some [.bool ((V.nth r2 0).toBool)]
  else
  some [.bool false]
theorem aj7 {bI:Int} {bw cP:LV} {cL:Int} {r:Option LV} (h:X5 CC bI bw cP cL=r):CC tw [V.int .i64 bI,.list aa bw,.list aI cP,V.int .i64 cL]=r:=aY (L:=aZ) av h
end Go.AM
set_option maxRecDepth 100000
namespace Go.AM
open Go.Proofs Ex
theorem step_loop {a b:Int} {l1 l2:List V}: ∀(n:Nat) (s:Dv),Gs s→n≤1000000→
  (∀t,eN n s=some t→∃x y,Loop (uj CC a b l1 l2) ((n:Int),kG s)=some (.inr (x,y,kG t)))∧(eN n s=none→Loop (uj CC a b l1 l2) ((n:Int),kG s)=some (.inl (3,0,0,[],[])))
 | 0,s,hs,_=>by
  refine ⟨fun t ht=>⟨0,false,?_⟩,fun h=>by simp[eN] at h⟩
  cases ht
  refine aV ?_
  simp only[uj,wY,un]
  rfl
 | n+1,s,hs,hn=>by
  rw[eN]
  have iE:decide (((n+1:Nat):Int)>0)=true:=cz (by omega)
  have Dy:=hs.dn
  by_cases hd:s.dn<s.es.length
  ·rw[aj hd]
   obtain ⟨p1,p2⟩:=PB hs hd
   have hf:(!(s.dn==(s.es.length:Int)))=true:=by rw[kJ,l7];omega
   cases hp:proc s with
   | none=>
    obtain ⟨l,hl⟩:=p2 hp
    refine ⟨fun t ht=>(by cases ht),fun _=>aV ?_⟩
    simp only[uj,wY,un]
    refine bT iE (bs (pO s) (bT hf ?_))
    refine bs hl ?_
    rfl
   | some u=>
    obtain ⟨g,_,g2,_⟩:=zI hs hd hp
    obtain ⟨i1,i2⟩:=step_loop (a:=a) (b:=b) (l1:=l1) (l2:=l2) n u g (by omega)
    have dc:uj CC a b l1 l2 (((n+1:Nat):Int),kG s)=some (.inl ((n:Int),kG u)):=by
     simp only[uj,wY,un]
     refine bT iE (bs (pO s) (bT hf ?_))
     refine bs (p1 u hp) ?_
     rw[bP,show ((n+1:Nat):Int)-1=(n:Int) by omega]
     rfl
    refine ⟨fun t ht=> ?_,fun ht=>(bQ dc).trans (i2 ht)⟩
    obtain ⟨x,y,h⟩:=i1 t ht
    exact ⟨x,y,(bQ dc).trans h⟩
  ·rw[an hd]
   refine ⟨fun t ht=>⟨((n+1:Nat):Int),false,?_⟩,fun ht=>(by cases ht)⟩
   cases ht
   refine aV ?_
   have hf:(!(s.dn==(s.es.length:Int)))=false:=by rw[Bool.not_eq_false',nR];omega
   simp only[uj,wY,un]
   refine bT iE (bs (pO s) (bF hf ?_))
   exact congrArg (fun b=>some (Sum.inr (Sum.inr (((n+1:Nat):Int),b,s.L,s.dn,s.es.map enc,s.nx.map cj,fI s.es)))) hf
theorem aj8 {d:Dv} (hd:d.Ok) (b:Int) (hb:b≤1000000):CC tu (gz d [.int .i64 b])=some (wX (ue d b)):=by
 obtain ⟨h1,U⟩:=IG hd
 refine aj6 ?_
 unfold X4 ue
 cases hs:gR d with
 | false=>
  rcases U hs with h|⟨s,h⟩
  ·exact bs h (bT rfl rfl)
  ·exact bs h (bF rfl (bT rfl rfl))
 | true=>
  refine bs (h1 hs) (bF rfl (bF rfl ?_))
  rw[aj rfl]
  by_cases h0:b<0
  ·rw[aj h0];exact bT (cz h0) rfl
  ·rw[an h0]
   refine bF (cI h0) ?_
   have g:=(Il hs).1
   obtain ⟨l1,l2⟩:=step_loop (a:=0) (b:=0) (l1:=[]) (l2:=[]) b.toNat d g (by omega)
   rw[show ((b.toNat:Nat):Int)=b by omega] at l1 l2
   cases hp:eN b.toNat d with
   | none=>exact bs (l2 hp) rfl
   | some t=>
    obtain ⟨x,y,h⟩:=l1 t hp
    exact bs h rfl
theorem aj9 {d:Dv} (hd:d.Ok):CC tw (gz d [])=some [.bool (gR d&&(d.dn==d.es.length))]:=by
 obtain ⟨h1,U⟩:=IG hd
 refine aj7 ?_
 unfold X5
 cases hs:gR d with
 | false=>
  rcases U hs with h|⟨s,h⟩
  ·exact bs h (bT rfl rfl)
  ·exact bs h (bF rfl (bF rfl rfl))
 | true=>exact bs (h1 hs) (bF rfl (bT rfl (bs (pO d) rfl)))
end Go.AM
set_option maxRecDepth 100000
namespace Go.AM
open Go.Proofs
noncomputable def DZ (C:ah) (t9:LV) (t10 dN dy:Int) (cV:LV) (all one:Bool) (t11:Int) {β:Type} (kn:(Bool × Bool × Int)→Option β) (kr:(Bool × Bool × Int × Bool)→Option β):Option β:=
 bif decide ((t11:Int)<t10) then
  (idx t9 t11).bind fun x1=>
  (C B9 [V.int .i64 ((x1.cell 0).toInt),V.int .i64 ((x1.cell 1).toInt),.list aa ((x1.cell 2).toList)]).bind fun r2=>
  bif all then
  bif one then
   kn ((V.nth r2 0).toBool,true,IntKind.wrap .i64 (t11+1))
  else
   kn ((V.nth r2 0).toBool,(V.nth r2 0).toBool,IntKind.wrap .i64 (t11+1))
  else
  bif one then
   kn (false,true,IntKind.wrap .i64 (t11+1))
  else
   kn (false,(V.nth r2 0).toBool,IntKind.wrap .i64 (t11+1))
 else
  kr (all,one,t11,decide ((t11:Int)<t10))
noncomputable def IH (C:ah) (t9:LV) (t10 dN dy:Int) (cV:LV):=un fun all=>un fun one t11=>DZ C t9 t10 dN dy cV all one t11 (fun y=>some (Sum.inl y)) (fun r=>some (Sum.inr r))
noncomputable def aka (C:ah):cr:=cq 49 MJ [true,true,false,false,true,false,false,false] [[0,0,3,4,0,0,6,7,8]] (@DZ C) aZ
theorem akb (C:ah):bC C (aka C) 64 (Lp [1,1,0,1,0,0] 64):=cp MJ [true,true,false,false,true,false,false,false] [[0,0,3,4,0,0,6,7,8]] (@DZ C) (a9 av)
noncomputable def X6 (C:ah) (ag aq:Int) (ae:LV):Option LV:=
 (Loop (IH C ae (ae.length:Int) ag aq ae) (true,false,0)).bind (un fun (II:Bool)=>un fun (zL:Bool)=>un fun (mH:Int) (ld:Bool)=>
  bif (ag:Int)==2 then
   bif (ag:Int)==2 then
   some [.bool true]
   else
   bif (ag:Int)==4 then
    some [.bool zL]
   else
    bif (ag:Int)==5 then
    bif (ag:Int)==5 then
     some [.bool II]
    else
     bif (ag:Int)==8 then
     some [.bool (!zL)]
     else
     some [.bool false]
    else
    bif (ag:Int)==6 then
     some [.bool II]
    else
     bif (ag:Int)==8 then
     some [.bool (!zL)]
     else
     some [.bool false]
  else
   bif (ag:Int)==7 then
   some [.bool true]
   else
   bif (ag:Int)==4 then
    some [.bool zL]
   else
    bif (ag:Int)==5 then
    bif (ag:Int)==5 then
     some [.bool II]
    else
     bif (ag:Int)==8 then
     some [.bool (!zL)]
     else
     some [.bool false]
    else
    bif (ag:Int)==6 then
     some [.bool II]
    else
     bif (ag:Int)==8 then
     some [.bool (!zL)]
     else
     some [.bool false])
theorem akc {ag aq:Int} {ae:LV} {r:Option LV} (h:X6 CC ag aq ae=r):CC B9 [V.int .i64 ag,V.int .i64 aq,.list aa ae]=r:=aY (bB (akb CC) av) h
end Go.AM
set_option maxRecDepth 100000
namespace Go.AM
open Go.Proofs Ex
theorem akd: ∀e:Ex,e.Ok→CC B9 (bV e [])=some [.bool e.da]:=
 ind fun o l ks ih ar=>by
  have:=lb
  have hlen:=ar.len
  refine akc ?_
  have hl:=aeA (step:=IH CC (ks.map enc) ((ks.map enc).length:Int) o l (ks.map enc)) (ks:=ks) (fun (s:Bool × Bool) i=>(s.1,s.2,(i:Int))) (fun s k=>(s.1&&k.da,s.2||k.da)) (fun s=>(s.1,s.2,((ks.length:Nat):Int),false)) (fun _ _=>True)
   (fun pre k ay s bc hI=>by
    have ch:pre.length<ks.length:=by rw[bc];simp
    have hm:k∈ks:=by rw[bc];simp
    refine ⟨?_,trivial⟩
    simp only[IH,DZ,un,aK,aA]
    rw[bf,show idx (ks.map enc) (pre.length:Int)=some k.enc by rw[bc];exact gM _ _ _]
    simp only[Option.bind_some,bu,bE,bD]
    rw[ih k hm (ar.mG k hm)]
    simp only[Option.bind_some,V.aQ,V.dD]
    rw[bP]
    obtain ⟨a,b⟩:=s
    cases a<;>cases b<;>simp)
   (fun s=>by
    simp only[IH,DZ,un,aK,aA]
    rw[aM]
    simp) ks [] (true,false) rfl trivial
  have hf: ∀(ks:List Ex) (a b:Bool),ks.foldl (fun (s:Bool × Bool) k=>(s.1&&k.da,s.2||k.da)) (a,b)=(a&&mI ks,b||lf ks):=by
   intro ks
   induction ks with
   | nil=>intro a b;simp[mI,lf]
   | cons k ks ih=>intro a b;simp[ih,mI,lf,Bool.and_assoc,Bool.or_assoc]
  rw[hf] at hl
  simp only[List.length_nil,Int.ofNat_zero,Int.natCast_zero] at hl
  unfold X6
  simp only[Ex.op,Ex.bH,Ex.kids]
  erw [hl]
  simp only[Option.bind_some,un,da,mU,Bool.false_or]
  rcases yV o with rfl|rfl|rfl|rfl|rfl|rfl|rfl|rfl|ho
  case inr.inr.inr.inr.inr.inr.inr.inr=>
   have n2:o≠2:=by omega
   have n4:o≠4:=by omega
   have n5:o≠5:=by omega
   have n6:o≠6:=by omega
   have n7:o≠7:=by omega
   have n8:o≠8:=by omega
   simp[n2,n4,n5,n6,n7,n8]
  all_goals simp
end Go.AM
set_option maxRecDepth 100000
namespace Go.AM
open Go.Proofs
noncomputable def wZ (C:ah) (oK nK:Int) (kH:LV) (oL nL:Int) (kI:LV) (i:Int) {β:Type} (kn:Int→Option β) (kr:((Int) ⊕ (Int × Bool))→Option β):Option β:=
 bif decide ((i:Int)<(kH.length:Int)) then
  bif decide ((i:Int)<(kI.length:Int)) then
  (idx kH i).bind fun x3=>
  (idx kI i).bind fun x4=>
  (C rY [V.int .i64 ((x3.cell 0).toInt),V.int .i64 ((x3.cell 1).toInt),.list aa ((x3.cell 2).toList),V.int .i64 ((x4.cell 0).toInt),V.int .i64 ((x4.cell 1).toInt),.list aa ((x4.cell 2).toList)]).bind fun r5=>
  bif (((V.nth r5 0).toInt):Int) != 0 then
   kr (.inl ((V.nth r5 0).toInt))
  else
   kn (IntKind.wrap .i64 (i+1))
  else
  kr (.inr (i,decide ((i:Int)<(kI.length:Int))))
 else
  kr (.inr (i,false))
noncomputable def uk (C:ah) (oK nK:Int) (kH:LV) (oL nL:Int) (kI:LV):=fun i=>wZ C oK nK kH oL nL kI i (fun y=>some (Sum.inl y)) (fun r=>some (Sum.inr r))
noncomputable def ake (C:ah):cr:=cq 97 Mp [true,false,false,false,false,false,false] [[0],[0,0,2,3,4,5,6,7]] (@wZ C) aZ
theorem akf (C:ah):bC C (ake C) 34 (Lp [1,1,0,1,0,0] 34):=cp Mp [true,false,false,false,false,false,false] [[0],[0,0,2,3,4,5,6,7]] (@wZ C) (a9 av)
noncomputable def X7 (C:ah) (fe eT:Int) (ff:LV) (fg fh:Int) (fv:LV):Option LV:=
 bif (fe:Int) != fg then
  (C yw [.bool (decide ((fe:Int)<fg))]).bind fun r1=>
  some [V.int .i64 ((V.nth r1 0).toInt)]
 else
  bif (eT:Int) != fh then
  (C yw [.bool (decide ((eT:Int)<fh))]).bind fun r2=>
  some [V.int .i64 ((V.nth r2 0).toInt)]
  else
  (Loop (uk C fe eT ff fg fh fv) 0).bind (cf (fun (ld:Int)=>
   some [V.int .i64 ld]) (un fun (i_7:Int) (Ho:Bool)=>
   bif ((ff.length:Int):Int)==(fv.length:Int) then
    some [V.int .i64 0]
   else
    (C yw [.bool (decide (((ff.length:Int):Int)<(fv.length:Int)))]).bind fun r9=>
    some [V.int .i64 ((V.nth r9 0).toInt)]))
theorem akg {fe eT:Int} {ff:LV} {fg fh:Int} {fv:LV} {r:Option LV} (h:X7 CC fe eT ff fg fh fv=r):CC rY [V.int .i64 fe,V.int .i64 eT,.list aa ff,V.int .i64 fg,V.int .i64 fh,.list aa fv]=r:=aY (bB (akf CC) av) h
noncomputable def akh (C:ah) (less:Bool):Option LV:=
 bif less then
  some [V.int .i64 (-1)]
 else
  some [V.int .i64 1]
theorem aki {less:Bool} {r:Option LV} (h:akh CC less=r):CC yw [.bool less]=r:=aY (L:=aZ) av h
end Go.AM
set_option maxRecDepth 100000
namespace Go.AM
open Go.Proofs Ex
theorem PF (b:Bool):CC yw [.bool b]=some [.int .i64 (gN b)]:=by
 refine aki ?_
 cases b<;>rfl
theorem akj {ks b7:List Ex} {a0 a1 b0 b1:Int} (hlen:ks.length≤maxLen) (ih: ∀k∈ks,∀e:Ex,e.Ok→CC rY (bV k (bV e []))=some [.int .i64 (cmp k e)]) (dj: ∀k∈b7,Ex.Ok k):
  ∀(ay pre jA pB:List Ex),ks=pre++ay→b7=pB++jA→pre.length=pB.length→
  (∃c,Loop (uk CC a0 a1 (ks.map enc) b0 b1 (b7.map enc)) ((pre.length:Nat):Int)=some (.inl c)∧dR ay jA=c)∨
  (∃i b,Loop (uk CC a0 a1 (ks.map enc) b0 b1 (b7.map enc)) ((pre.length:Nat):Int)=some (.inr (i,b))∧dR ay jA=if ks.length=b7.length then 0 else gN (decide (ks.length<b7.length))):=by
 intro ay
 induction ay with
 | nil=>
  intro pre jA pB bc kp lQ
  subst bc
  refine .inr ⟨((pre.length:Nat):Int),false,aV ?_,?_⟩
  ·simp only[uk,wZ,dr,aK,aA]
   rw[aM]
  ·cases jA with
   | nil=>simp[dR,kp,lQ]
   | cons a l=>simp[dR,kp,lQ,gN]
 | cons k ay eF=>
  intro pre jA pB bc kp lQ
  have ch:pre.length<ks.length:=by rw[bc];simp
  have:=lb
  have bY:idx (ks.map enc) (pre.length:Int)=some k.enc:=by rw[bc];exact gM _ _ _
  cases jA with
  | nil=>
   have hl:b7.length=pre.length:=by rw[kp,lQ];simp
   refine .inr ⟨((pre.length:Nat):Int),false,aV ?_,?_⟩
   ·simp only[uk,wZ,aK,aA]
    rw[bf,aM]
    simp[hl]
   ·rw[aM]
    simp[dR,gN,show¬ks.length<b7.length by omega]
  | cons k' jA=>
   have hl:pre.length<b7.length:=by rw[kp,lQ];simp
   have Cx:idx (b7.map enc) (pre.length:Int)=some k'.enc:=by rw[kp,lQ];exact gM _ _ _
   have e1:=ih k (by rw[bc];simp) k' (dj k' (by rw[kp];simp))
   by_cases hc:cmp k k'=0
   ·have dc:uk CC a0 a1 (ks.map enc) b0 b1 (b7.map enc) ((pre.length:Nat):Int)=some (.inl (((pre++[k]).length:Nat):Int)):=by
     simp only[uk,wZ,aK,aA]
     rw[bf,bf,bY,Cx]
     simp only[Option.bind_some,bu,bE,bD]
     rw[e1,hc]
     simp only[Option.bind_some,V.aQ,V.toInt_int,tp,c6]
     rw[bP]
     simp
    rw[bQ dc]
    simp only[dR,hc,ne_eq,nQ,fW]
    exact eF (pre++[k]) jA (pB++[k']) (by rw[bc];simp) (by rw[kp];simp) (by simp[lQ])
   ·refine .inl ⟨cmp k k',aV ?_,by simp[dR,hc]⟩
    simp only[uk,wZ,aK,aA]
    rw[bf,bf,bY,Cx]
    simp only[Option.bind_some,bu,bE,bD]
    rw[e1]
    simp only[Option.bind_some,V.aQ,V.toInt_int,tp,an hc]
theorem IJ: ∀a:Ex,a.Ok→∀b:Ex,b.Ok→CC rY (bV a (bV b []))=some [.int .i64 (cmp a b)]:=
 ind fun o l ks ih ar b hb=>by
  obtain ⟨o',l',b7⟩:=b
  refine akg ?_
  unfold X7
  rw[v7]
  simp only[Ex.op,Ex.bH,Ex.kids,tp]
  by_cases h1:o=o'
  ·by_cases U:l=l'
   ·rw[aj h1,aj U,an (by simp[h1]),an (by simp[U])]
    rcases akj (a0:=o) (a1:=l) (b0:=o') (b1:=l') ar.len (fun k hk e he=>ih k hk (ar.mG k hk) e he) hb.mG ks [] b7 [] rfl rfl rfl with ⟨c,q1,q2⟩|⟨i,b,q1,q2⟩
    ·simp only[List.length_nil,Int.ofNat_zero,Int.natCast_zero] at q1
     erw [q1];rw[q2];rfl
    ·simp only[List.length_nil,Int.ofNat_zero,Int.natCast_zero] at q1
     erw [q1];rw[q2]
     simp only[Option.bind_some,cf,un,aK,dx]
     by_cases hl:ks.length=b7.length
     ·rw[bf,aj hl]
     ·rw[aM,an hl,PF]
      simp
   ·rw[aj h1,an U,an (by simp[h1]),aj U,PF]
    simp only[Option.bind_some,V.aQ,V.toInt_int];rfl
  ·rw[an h1,aj h1,PF]
   simp only[Option.bind_some,V.aQ,V.toInt_int];rfl
end Go.AM
set_option maxRecDepth 100000
namespace Go.AM
open Go.Proofs
noncomputable def zM (C:ah) (l:LV) (PH PI:Int) (PJ:LV) (k':Int) {β:Type} (kn:Int→Option β) (kr:(Int × Bool)→Option β):Option β:=
 bif decide ((k':Int)>0) then
  (idx l (IntKind.wrap .i64 (k'-1))).bind fun x1=>
  (C rY [V.int .i64 PH,V.int .i64 PI,.list aa PJ,V.int .i64 ((x1.cell 0).toInt),V.int .i64 ((x1.cell 1).toInt),.list aa ((x1.cell 2).toList)]).bind fun r2=>
  bif decide ((((V.nth r2 0).toInt):Int)<0) then
  kn (IntKind.wrap .i64 (k'-1))
  else
  kr (k',decide ((((V.nth r2 0).toInt):Int)<0))
 else
  kr (k',false)
noncomputable def D0 (C:ah) (l:LV) (PH PI:Int) (PJ:LV):=fun k'=>zM C l PH PI PJ k' (fun y=>some (Sum.inl y)) (fun r=>some (Sum.inr r))
noncomputable def akk (C:ah):cr:=cq 33 Ms [false,true,false,false,false] [[1,0,0,3,4,5]] (@zM C) aZ
theorem akl (C:ah):bC C (akk C) 38 (Lp [1,1,0,0,0] 38):=cp Ms [false,true,false,false,false] [[1,0,0,3,4,5]] (@zM C) (a9 av)
noncomputable def X8 (C:ah) (l:LV) (pQ jf:Int) (pR:LV):Option LV:=
 (Loop (D0 C l pQ jf pR) (l.length:Int)).bind (un fun (fT:Int) (ia:Bool)=>
  bif decide ((fT:Int)>0) then
   (idx l (IntKind.wrap .i64 (fT-1))).bind fun x5=>
   (C rY [V.int .i64 ((x5.cell 0).toInt),V.int .i64 ((x5.cell 1).toInt),.list aa ((x5.cell 2).toList),V.int .i64 pQ,V.int .i64 jf,.list aa pR]).bind fun r6=>
   bif (((V.nth r6 0).toInt):Int)==0 then
   some [.list aa l]
   else
   bif (decide (0≤fT))&&(decide (fT≤(l.length:Int))) then
    bif Nat.ble ((([]:LV).length+((l.drop 0).take (((fT:Int).toNat)-0)).length)*40) bZ then
    bif Nat.ble (((([]:LV)++((l.drop 0).take (((fT:Int).toNat)-0))).length+([.agg [V.int .i64 pQ,V.int .i64 jf,.list aa pR]]:LV).length)*40) bZ then
     bif (decide (0≤fT))&&(decide (fT≤(l.length:Int))) then
     bif Nat.ble ((((([]:LV)++((l.drop 0).take (((fT:Int).toNat)-0)))++([.agg [V.int .i64 pQ,V.int .i64 jf,.list aa pR]]:LV)).length+((l.drop ((fT:Int).toNat)).take (l.length-((fT:Int).toNat))).length)*40) bZ then
      some [.list aa (((([]:LV)++((l.drop 0).take (((fT:Int).toNat)-0)))++([.agg [V.int .i64 pQ,V.int .i64 jf,.list aa pR]]:LV))++((l.drop ((fT:Int).toNat)).take (l.length-((fT:Int).toNat))))]
     else none
     else none
    else none
    else none
   else none
  else
   bif (decide (0≤fT))&&(decide (fT≤(l.length:Int))) then
   bif Nat.ble ((([]:LV).length+((l.drop 0).take (((fT:Int).toNat)-0)).length)*40) bZ then
    bif Nat.ble (((([]:LV)++((l.drop 0).take (((fT:Int).toNat)-0))).length+([.agg [V.int .i64 pQ,V.int .i64 jf,.list aa pR]]:LV).length)*40) bZ then
    bif (decide (0≤fT))&&(decide (fT≤(l.length:Int))) then
     bif Nat.ble ((((([]:LV)++((l.drop 0).take (((fT:Int).toNat)-0)))++([.agg [V.int .i64 pQ,V.int .i64 jf,.list aa pR]]:LV)).length+((l.drop ((fT:Int).toNat)).take (l.length-((fT:Int).toNat))).length)*40) bZ then
     some [.list aa (((([]:LV)++((l.drop 0).take (((fT:Int).toNat)-0)))++([.agg [V.int .i64 pQ,V.int .i64 jf,.list aa pR]]:LV))++((l.drop ((fT:Int).toNat)).take (l.length-((fT:Int).toNat))))]
     else none
    else none
    else none
   else none
   else none)
theorem akm {l:LV} {pQ jf:Int} {pR:LV} {r:Option LV} (h:X8 CC l pQ jf pR=r):CC B5 [.list aa l,V.int .i64 pQ,V.int .i64 jf,.list aa pR]=r:=aY (bB (akl CC) av) h
noncomputable def X9 (C:ah) (ag aq:Int) (ae:LV):Option LV:=
 bif (ag:Int)==8 then
  bif ((ae.length:Int):Int)==1 then
  (ae[0]?).bind fun x1=>
  some [.bool ((((x1.cell 0).toInt):Int)==1)]
  else
  some [.bool false]
 else
  some [.bool false]
theorem akn {ag aq:Int} {ae:LV} {r:Option LV} (h:X9 CC ag aq ae=r):CC yp [V.int .i64 ag,V.int .i64 aq,.list aa ae]=r:=aY (L:=aZ) av h
end Go.AM
set_option maxRecDepth 100000
namespace Go.AM
open Go.Proofs Ex
theorem ako {l:List Ex} {x:Ex} (hl: ∀k∈l,k.Ok) (hx:x.Ok) (hn:l.length≤1000000):
  ∀k,k≤l.length→∃t,Loop (D0 CC (l.map enc) x.op x.bH (x.kids.map enc)) (k:Int)=some (((fE l x k:Nat):Int),t):=by
 intro k
 induction k with
 | zero=>
  intro _
  refine ⟨false,aV ?_⟩
  simp only[D0,zM,fE]
  rw[aA,aM]
 | succ k ih=>
  intro hk
  have e1:IntKind.wrap .i64 (((k+1:Nat):Int)-1)=(k:Int):=by rw[bP];omega
  have c:=IJ x hx (l.getD k aF) (yY hl (by omega))
  by_cases h:cmp x (l.getD k aF)<0
  ·obtain ⟨t,ht⟩:=ih (by omega)
   refine ⟨t,?_⟩
   rw[fE,aj h,←ht]
   refine bQ ?_
   simp only[D0,zM]
   rw[aA,bf,e1,NL (by omega)]
   simp only[Option.bind_some,bu,bE,bD]
   refine (congrArg (fun o=>Option.bind o _) c).trans ?_
   simp only[Option.bind_some,V.aQ,V.toInt_int,aA]
   rw[aj h]
  ·refine ⟨false,?_⟩
   rw[fE,an h]
   refine aV ?_
   simp only[D0,zM]
   rw[aA,bf,e1,NL (by omega)]
   simp only[Option.bind_some,bu,bE,bD]
   refine (congrArg (fun o=>Option.bind o _) c).trans ?_
   simp only[Option.bind_some,V.aQ,V.toInt_int,aA]
   rw[an h,cI h]
theorem Ya {l:List Ex} {x:Ex} (hl: ∀k∈l,k.Ok) (hx:x.Ok) (hn:l.length≤1000000):
  CC B5 (.list aa (l.map enc)::bV x [])=some [.list aa ((ep l x).map enc)]:=by
 refine akm ?_
 unfold X8
 obtain ⟨t,ht⟩:=ako hl hx hn l.length (cl _)
 have hle:=Cy l x l.length
 rw[aK]
 refine (congrArg (fun o=>Option.bind o _) ht).trans ?_
 have key:=ae2 l (fE l x l.length) x
 unfold ep
 generalize fE l x l.length=k at hle key
 have m1:Nat.ble ((([]:List V).length+(((l.map enc).drop 0).take (k-0)).length)*40) bZ=true:=by
  rw[dq,iK];simp only[eI,oM,aK,List.length_nil];omega
 have m2:Nat.ble (((([]:List V)++(((l.map enc).drop 0).take (k-0))).length+([.agg [.int .i64 x.op,.int .i64 x.bH,.list aa (x.kids.map enc)]]:List V).length)*40) bZ=true:=by
  rw[dq,iK];simp only[cg,eI,oM,aK,List.length_nil,List.length_singleton];omega
 have m3:Nat.ble ((((([]:List V)++(((l.map enc).drop 0).take (k-0)))++([.agg [.int .i64 x.op,.int .i64 x.bH,.list aa (x.kids.map enc)]]:List V)).length+(((l.map enc).drop k).take ((l.map enc).length-k)).length)*40) bZ=true:=by
  rw[dq,iK];simp only[cg,eI,oM,aK,List.length_nil,List.length_singleton];omega
 have t1:(0:Int)≤(k:Int):=by omega
 have t2:(k:Int)≤(l.length:Int):=by omega
 simp only[Option.bind_some,un,aA,Int.toNat_natCast]
 rw[aK] at m3 key
 by_cases h0:0<k
 ·rw[bf]
  have e1:IntKind.wrap .i64 ((k:Int)-1)=((k-1:Nat):Int):=by rw[bP];omega
  have c:=IJ (l.getD (k-1) aF) (yY hl (by omega)) x hx
  rw[e1,NL (by omega)]
  simp only[Option.bind_some,bu,bE,bD]
  refine (congrArg (fun o=>Option.bind o _) c).trans ?_
  simp only[Option.bind_some,V.aQ,V.toInt_int,dx]
  by_cases h1:cmp (l.getD (k-1) aF) x=0
  ·rw[aj h1,aj ⟨h0,h1⟩]
  ·rw[an h1,an (fun h=>h1 h.2)]
   simp only[dk,aA,t1,t2,c6,m1,m2,m3,cond_true,key,aK]
 ·rw[aM,an (fun h=>h0 h.1)]
  simp only[dk,aA,t1,t2,c6,m1,m2,m3,cond_true,key,aK]
theorem PK (e:Ex):CC yp (bV e [])=some [.bool (univ e)]:=by
 obtain ⟨o,l,ks⟩:=e
 refine akn ?_
 unfold X9 univ
 simp only[Ex.op,Ex.kids,dx,aK]
 by_cases h1:o=8
 ·rw[aj h1]
  match ks with
  | []=>simp
  | [k]=>
   obtain ⟨o2,l2,jV⟩:=k
   rw[aj (by simp)]
   simp[h1,bu,Ex.op,Bool.beq_eq_decide_eq]
  | k::k2::ks=>
   rw[an (by simp<;>omega)]
   simp
 ·rw[an h1];simp[h1]
end Go.AM
set_option maxRecDepth 100000
namespace Go.AM
open Go.Proofs
noncomputable def D1 (C:ah) (op:Int) (t8:LV) (t9 t10:Int) (outs:LV) {β:Type} (kn:(Int × LV)→Option β) (kr:(Int × Bool × LV)→Option β):Option β:=
 bif decide ((t10:Int)<t9) then
  (idx t8 t10).bind fun x1=>
  bif (((x1.cell 0).toInt):Int)==op then
  bif Nat.ble ((outs.length+((x1.cell 2).toList).length)*40) bZ then
   kn (IntKind.wrap .i64 (t10+1),outs++((x1.cell 2).toList))
  else none
  else
  bif Nat.ble ((outs.length+([.agg [V.int .i64 ((x1.cell 0).toInt),V.int .i64 ((x1.cell 1).toInt),.list aa ((x1.cell 2).toList)]]:LV).length)*40) bZ then
   kn (IntKind.wrap .i64 (t10+1),outs++([.agg [V.int .i64 ((x1.cell 0).toInt),V.int .i64 ((x1.cell 1).toInt),.list aa ((x1.cell 2).toList)]]:LV))
  else none
 else
  kr (t10,decide ((t10:Int)<t9),outs)
noncomputable def D2 (C:ah) (op:Int) (t8:LV) (t9:Int):=un fun t10 outs=>D1 C op t8 t9 t10 outs (fun y=>some (Sum.inl y)) (fun r=>some (Sum.inr r))
noncomputable def akp (C:ah):cr:=cq 49 Mr [false,false,false,true,true] [[1,2,3,0,0,0]] (@D1 C) aZ
theorem akq (C:ah):bC C (akp C) 37 (Lp [1,1,0,1,0,0] 37):=cp Mr [false,false,false,true,true] [[1,2,3,0,0,0]] (@D1 C) (a9 av)
noncomputable def Yb (C:ah) (op:Int) (kids:LV):Option LV:=
 (Loop (D2 C op kids (kids.length:Int)) (0,([]:LV))).bind (un fun (t_2:Int)=>un fun (jz:Bool) (akr:LV)=>
  some [.list aa akr])
theorem aks {op:Int} {kids:LV} {r:Option LV} (h:Yb CC op kids=r):CC yq [V.int .i64 op,.list aa kids]=r:=aY (bB (akq CC) av) h
end Go.AM
set_option maxRecDepth 100000
namespace Go.AM
open Go.Proofs Ex
theorem akt {op:Int} {ks:List Ex} (hn:ks.length≤1000000) (hl:(bp op ks).length≤1000000):
  ∀(ay pre:List Ex),ks=pre++ay→
  Loop (D2 CC op (ks.map enc) ((ks.map enc).length:Int)) (((pre.length:Nat):Int),(bp op pre).map enc)=some (((ks.map enc).length:Int),false,(bp op ks).map enc):=by
 intro ay
 induction ay with
 | nil=>
  intro pre e
  rw[dr] at e
  subst e
  refine aV ?_
  simp only[D2,D1,un,aK]
  rw[aA,aM,eP]
 | cons k ay ih=>
  intro pre e
  have aJ:pre.length<ks.length:=by rw[e];simp
  have hi:idx (ks.map enc) ((pre.length:Nat):Int)=some k.enc:=by rw[e];exact gM pre ay k
  have hf:bp op ks=bp op pre++((if k.op=op then k.kids else [k])++bp op ay):=by
   rw[e];unfold bp;rw[EF,l9]
  have Bo:bp op (pre++[k])=bp op pre++(if k.op=op then k.kids else [k]):=by
   unfold bp;rw[EF,l9,List.flatMap_nil,dr]
  rw[hf,cg,cg] at hl
  have ca:D2 CC op (ks.map enc) ((ks.map enc).length:Int) (((pre.length:Nat):Int),(bp op pre).map enc)=some (.inl (((pre.length+1:Nat):Int),(bp op (pre++[k])).map enc)):=by
   simp only[D2,D1,un,aK]
   rw[aA,bf,hi,Bo]
   simp only[Option.bind_some,bu,bE,bD,dx,BR,aK,List.length_singleton]
   by_cases h:k.op=op
   ·rw[aj h] at hl⊢
    rw[aj h,aj (by rw[iK];omega),bP,eJ]
    rfl
   ·rw[an h] at hl⊢
    rw[List.length_singleton] at hl
    rw[an h,aj (by rw[iK];omega),bP,eJ,←dA]
    rfl
  rw[bQ ca]
  have:=ih (pre++[k]) (by simp[e])
  simpa using this
theorem PL {op:Int} {ks:List Ex} (hn:ks.length≤1000000) (hl:(bp op ks).length≤1000000):CC yq [.int .i64 op,.list aa (ks.map enc)]=some [.list aa ((bp op ks).map enc)]:=by
 refine aks ?_
 unfold Yb
 refine (congrArg (fun o=>Option.bind o _) (akt hn hl ks [] rfl)).trans ?_
 rfl
end Go.AM
set_option maxRecDepth 100000
namespace Go.AM
open Go.Proofs
noncomputable def D3 (C:ah) (t19:LV) (t20 dN dy:Int) (cV:LV) (kC kD:Int) (bj:LV) (t21:Int) (pK:LV) {β:Type} (kn:(Int × LV)→Option β) (kr:(Int × Bool × LV)→Option β):Option β:=
 bif decide ((t21:Int)<t20) then
  (idx t19 t21).bind fun x1=>
  (C vH [V.int .i64 ((x1.cell 0).toInt),V.int .i64 ((x1.cell 1).toInt),.list aa ((x1.cell 2).toList)]).bind fun r2=>
  bif Nat.ble ((pK.length+([.agg [V.int .i64 ((V.nth r2 0).toInt),V.int .i64 ((V.nth (r2.drop 1) 0).toInt),.list aa ((V.nth ((r2.drop 1).drop 1) 0).toList)]]:LV).length)*40) bZ then
  kn (IntKind.wrap .i64 (t21+1),pK++([.agg [V.int .i64 ((V.nth r2 0).toInt),V.int .i64 ((V.nth (r2.drop 1) 0).toInt),.list aa ((V.nth ((r2.drop 1).drop 1) 0).toList)]]:LV))
  else none
 else
  kr (t21,decide ((t21:Int)<t20),pK)
noncomputable def IK (C:ah) (t19:LV) (t20 dN dy:Int) (cV:LV) (kC kD:Int) (bj:LV):=un fun t21 pK=>D3 C t19 t20 dN dy cV kC kD bj t21 pK (fun y=>some (Sum.inl y)) (fun r=>some (Sum.inr r))
noncomputable def zN (C:ah) (t95 kC kD D4 D5:Int) (D6:LV) (fU eY um uo:Int) (PM cB pL:LV) (t96:Int) (cZ:LV) {β:Type} (kn:(Int × LV)→Option β) (kr:((Unit) ⊕ (Int × Bool × LV))→Option β):Option β:=
 bif decide ((t96:Int)<t95) then
  aH PM t96 fun km=>
  bif (((km.cell 0).toInt):Int)==1 then
  kr (.inl ())
  else
  bif (((km.cell 0).toInt):Int) != 2 then
   bif Nat.ble ((cZ.length+([.agg [V.int .i64 ((km.cell 0).toInt),V.int .i64 ((km.cell 1).toInt),.list aa ((km.cell 2).toList)]]:LV).length)*40) bZ then
   kn (IntKind.wrap .i64 (t96+1),cZ++([.agg [V.int .i64 ((km.cell 0).toInt),V.int .i64 ((km.cell 1).toInt),.list aa ((km.cell 2).toList)]]:LV))
   else none
  else
   kn (IntKind.wrap .i64 (t96+1),cZ)
 else
  kr (.inr (t96,decide ((t96:Int)<t95),cZ))
noncomputable def zO (C:ah) (t95 kC kD D4 D5:Int) (D6:LV) (fU eY um uo:Int) (PM cB pL:LV):=un fun t96 cZ=>zN C t95 kC kD D4 D5 D6 fU eY um uo PM cB pL t96 cZ (fun y=>some (Sum.inl y)) (fun r=>some (Sum.inr r))
noncomputable def zP (C:ah) (t120 kC kD Yc Yd fU eY um uo:Int) (Ye PN cB cZ:LV) (t121:Int) (pS:LV) {β:Type} (kn:(Int × LV)→Option β) (kr:((Unit) ⊕ (Int × Bool × LV))→Option β):Option β:=
 bif decide ((t121:Int)<t120) then
  aH PN t121 fun jT=>
  (C yp [V.int .i64 ((jT.cell 0).toInt),V.int .i64 ((jT.cell 1).toInt),.list aa ((jT.cell 2).toList)]).bind fun ef=>
  bif (V.nth ef 0).toBool then
  kr (.inl ())
  else
  bif (((jT.cell 0).toInt):Int) != 1 then
   (C B5 [.list aa pS,V.int .i64 ((jT.cell 0).toInt),V.int .i64 ((jT.cell 1).toInt),.list aa ((jT.cell 2).toList)]).bind fun je=>
   kn (IntKind.wrap .i64 (t121+1),(V.nth je 0).toList)
  else
   kn (IntKind.wrap .i64 (t121+1),pS)
 else
  kr (.inr (t121,decide ((t121:Int)<t120),pS))
noncomputable def zQ (C:ah) (t120 kC kD Yc Yd fU eY um uo:Int) (Ye PN cB cZ:LV):=un fun t121 pS=>zP C t120 kC kD Yc Yd fU eY um uo Ye PN cB cZ t121 pS (fun y=>some (Sum.inl y)) (fun r=>some (Sum.inr r))
noncomputable def zR (C:ah) (t144 kC kD D4 D5:Int) (D6:LV) (fU eY um uo:Int) (PO cB cZ:LV) (uq:Int) (pS:LV) {β:Type} (kn:(Int × LV)→Option β) (kr:((Unit) ⊕ (Int × Bool × LV))→Option β):Option β:=
 bif decide ((uq:Int)<t144) then
  aH PO uq fun oD=>
  bif (((oD.cell 0).toInt):Int)==1 then
  kr (.inl ())
  else
  (C yp [V.int .i64 ((oD.cell 0).toInt),V.int .i64 ((oD.cell 1).toInt),.list aa ((oD.cell 2).toList)]).bind fun pT=>
  bif !((V.nth pT 0).toBool) then
   (C B5 [.list aa pS,V.int .i64 ((oD.cell 0).toInt),V.int .i64 ((oD.cell 1).toInt),.list aa ((oD.cell 2).toList)]).bind fun w4=>
   kn (IntKind.wrap .i64 (uq+1),(V.nth w4 0).toList)
  else
   kn (IntKind.wrap .i64 (uq+1),pS)
 else
  kr (.inr (uq,decide ((uq:Int)<t144),pS))
noncomputable def zS (C:ah) (t144 kC kD D4 D5:Int) (D6:LV) (fU eY um uo:Int) (PO cB cZ:LV):=un fun uq pS=>zR C t144 kC kD D4 D5 D6 fU eY um uo PO cB cZ uq pS (fun y=>some (Sum.inl y)) (fun r=>some (Sum.inr r))
noncomputable def IL (C:ah):cr:=cq 49 Mj [false,false,true,false,false,false,false,false,true,false] [[1,2,0,0,4,5,6,7,8,0,10]] (@D3 C) (cq 465 Mk [false,true,false,false,false,false,false,false,false,false,false,false,false,true,false] [[5,6,7],[1,0,0,3,4,5,6,7,8,9,10,11,12,13,0,15]] (@zN C) (cq 609 Ml [false,true,false,false,false,false,false,false,true,false,false,false,false,false,false] [[5,6,15],[1,0,0,3,4,5,6,7,8,0,10,11,12,13,14,15]] (@zP C) (cq 769 Mm [false,true,false,false,false,false,false,false,false,true,false,false,false,false,false] [[5,6,7],[1,0,0,3,4,5,6,7,8,9,0,11,12,13,14,15]] (@zR C) aZ)))
theorem aku (C:ah):bC C (IL C) 24 (Lp [1,1,0,1,0,0] 24):=cp Mj [false,false,true,false,false,false,false,false,true,false] [[1,2,0,0,4,5,6,7,8,0,10]] (@D3 C) (a9 av)
theorem akv (C:ah):bC C (IL C) 24 (Lp [1,1,1,1,1,1,1,0,1,0,1,1,1,1,1,0,1,1,0,0] 24):=cp Mk [false,true,false,false,false,false,false,false,false,false,false,false,false,true,false] [[5,6,7],[1,0,0,3,4,5,6,7,8,9,10,11,12,13,0,15]] (@zN C) (a9 av)
theorem akw (C:ah):bC C (IL C) 24 (Lp [1,1,1,1,1,1,1,0,1,0,1,1,1,1,1,1,1,0,1,0,0] 24):=cp Ml [false,true,false,false,false,false,false,false,true,false,false,false,false,false,false] [[5,6,15],[1,0,0,3,4,5,6,7,8,0,10,11,12,13,14,15]] (@zP C) (a9 av)
theorem akx (C:ah):bC C (IL C) 24 (Lp [1,1,1,1,1,1,1,0,1,0,1,1,1,1,1,1,1,1,1,0,1,1,0,0] 24):=cp Mm [false,true,false,false,false,false,false,false,false,true,false,false,false,false,false] [[5,6,7],[1,0,0,3,4,5,6,7,8,9,0,11,12,13,14,15]] (@zR C) (a9 av)
noncomputable def Yf (C:ah) (ag aq:Int) (ae:LV):Option LV:=
 (Loop (IK C ae (ae.length:Int) ag aq ae 0 0 ([]:LV)) (0,([]:LV))).bind (un fun (jz:Int)=>un fun (ia:Bool) (pU:LV)=>
  bif (ag:Int)==8 then
   bif decide (0<(pU.length:Int)) then
   (pU[0]?).bind fun x6=>
   bif (((x6.cell 0).toInt):Int)==8 then
    bif decide (0<(pU.length:Int)) then
    (pU[0]?).bind fun x7=>
    (((x7.cell 2).toList)[0]?).bind fun x8=>
    some [V.int .i64 ((x8.cell 0).toInt),V.int .i64 ((x8.cell 1).toInt),.list aa ((x8.cell 2).toList)]
    else none
   else
    some [V.int .i64 ag,V.int .i64 aq,.list aa pU]
   else none
  else
   bif (ag:Int)==7 then
   bif decide (0<(pU.length:Int)) then
    (pU[0]?).bind fun x9=>
    bif (((x9.cell 0).toInt):Int)==1 then
    some [V.int .i64 2,V.int .i64 0,.list aa ([]:LV)]
    else
    bif (((x9.cell 0).toInt):Int)==2 then
     some [V.int .i64 2,V.int .i64 0,.list aa ([]:LV)]
    else
     bif (((x9.cell 0).toInt):Int)==7 then
     some [V.int .i64 ((x9.cell 0).toInt),V.int .i64 ((x9.cell 1).toInt),.list aa ((x9.cell 2).toList)]
     else
     (C yp [V.int .i64 ((x9.cell 0).toInt),V.int .i64 ((x9.cell 1).toInt),.list aa ((x9.cell 2).toList)]).bind fun df=>
     bif (V.nth df 0).toBool then
      some [V.int .i64 ((x9.cell 0).toInt),V.int .i64 ((x9.cell 1).toInt),.list aa ((x9.cell 2).toList)]
     else
      some [V.int .i64 ag,V.int .i64 aq,.list aa pU]
   else none
   else
   bif (ag:Int)==5 then
    (C yq [V.int .i64 ag,.list aa pU]).bind fun eW=>
    (Loop (zO C (((V.nth eW 0).toList).length:Int) 0 0 1 0 ([]:LV) ag aq 2 0 ((V.nth eW 0).toList) ([]:LV) ([]:LV)) (0,([]:LV))).bind (cf (fun _=>
     some [V.int .i64 1,V.int .i64 0,.list aa ([]:LV)]) (un fun (Ny:Int)=>un fun (tI:Bool) (nJ:LV)=>
     bif ((nJ.length:Int):Int)==0 then
     some [V.int .i64 2,V.int .i64 0,.list aa ([]:LV)]
     else
     bif ((nJ.length:Int):Int)==1 then
      (nJ[0]?).bind fun mK=>
      some [V.int .i64 ((mK.cell 0).toInt),V.int .i64 ((mK.cell 1).toInt),.list aa ((mK.cell 2).toList)]
     else
      some [V.int .i64 ag,V.int .i64 aq,.list aa nJ]))
   else
    bif (ag:Int)==4 then
    (C yq [V.int .i64 ag,.list aa pU]).bind fun ei=>
    (Loop (zQ C (((V.nth ei 0).toList).length:Int) 0 0 8 0 ag aq 1 0 ([]:LV) ((V.nth ei 0).toList) ([]:LV) ([.agg [V.int .i64 1,V.int .i64 0,.list aa ([]:LV)]]:LV)) (0,([]:LV))).bind (cf (fun _=>
     some [V.int .i64 8,V.int .i64 0,.list aa ([.agg [V.int .i64 1,V.int .i64 0,.list aa ([]:LV)]]:LV)]) (un fun (Cs:Int)=>un fun (Hs:Bool) (IM:LV)=>
     bif ((IM.length:Int):Int)==0 then
      some [V.int .i64 1,V.int .i64 0,.list aa ([]:LV)]
     else
      bif ((IM.length:Int):Int)==1 then
      (IM[0]?).bind fun wz=>
      some [V.int .i64 ((wz.cell 0).toInt),V.int .i64 ((wz.cell 1).toInt),.list aa ((wz.cell 2).toList)]
      else
      some [V.int .i64 ag,V.int .i64 aq,.list aa IM]))
    else
    bif (ag:Int)==6 then
     (C yq [V.int .i64 ag,.list aa pU]).bind fun CQ=>
     (Loop (zS C (((V.nth CQ 0).toList).length:Int) 0 0 1 0 ([]:LV) ag aq 8 0 ((V.nth CQ 0).toList) ([]:LV) ([.agg [V.int .i64 1,V.int .i64 0,.list aa ([]:LV)]]:LV)) (0,([]:LV))).bind (cf (fun _=>
      some [V.int .i64 1,V.int .i64 0,.list aa ([]:LV)]) (un fun (ND:Int)=>un fun (Hu:Bool) (zT:LV)=>
      bif ((zT.length:Int):Int)==0 then
      some [V.int .i64 8,V.int .i64 0,.list aa ([.agg [V.int .i64 1,V.int .i64 0,.list aa ([]:LV)]]:LV)]
      else
      bif ((zT.length:Int):Int)==1 then
       (zT[0]?).bind fun PQ=>
       some [V.int .i64 ((PQ.cell 0).toInt),V.int .i64 ((PQ.cell 1).toInt),.list aa ((PQ.cell 2).toList)]
      else
       some [V.int .i64 ag,V.int .i64 aq,.list aa zT]))
    else
     some [V.int .i64 ag,V.int .i64 aq,.list aa ([]:LV)])
theorem aky {ag aq:Int} {ae:LV} {r:Option LV} (h:Yf CC ag aq ae=r):CC vH [V.int .i64 ag,V.int .i64 aq,.list aa ae]=r:=aY (bB (aku CC) (bB (akv CC) (bB (akw CC) (bB (akx CC) av)))) h
end Go.AM
set_option maxRecDepth 100000
namespace Go.AM
open Go.Proofs Ex
section
variable {f:List Ex} {a1 a2 a3 a4 a5 a6 a7 a8:Int} {b0 b1 b2:List V}
theorem akz (hn:f.length≤1000000): ∀(ay pre acc:List Ex),f=pre++ay→acc.length≤pre.length→
  Loop (zO CC ((f.map enc).length:Int) a1 a2 a3 a4 b0 a5 a6 a7 a8 (f.map enc) b1 b2) (((pre.length:Nat):Int),acc.map enc)=
   some (if ay.any (fun k=>decide (k.op=1))=true then .inl () else .inr (((f.map enc).length:Int),false,(acc++ay.filter fun k=>decide (k.op≠2)).map enc)):=by
 intro ay
 induction ay with
 | nil=>
  intro pre acc e _
  rw[dr] at e
  subst e
  refine aV ?_
  simp only[zO,zN,un,aK]
  rw[aA,aM,eP]
  simp
 | cons k ay ih=>
  intro pre acc e ha
  have aJ:pre.length<f.length:=by rw[e];simp
  have hg:(f.map enc)[pre.length]? =some k.enc:=by rw[e];simp
  have t1:((pre.length:Nat):Int)<(f.length:Int):=by omega
  have t2:(0:Int)≤((pre.length:Nat):Int):=by omega
  by_cases h1:k.op=1
  ·rw[aj (by simp[h1])]
   refine aV ?_
   simp only[zO,zN,un,aK,dk,aA,dx,Int.toNat_natCast,t1,t2,c6,hg,Option.bind_some,bu,h1]
  ·have ca:zO CC ((f.map enc).length:Int) a1 a2 a3 a4 b0 a5 a6 a7 a8 (f.map enc) b1 b2 (((pre.length:Nat):Int),acc.map enc)=some (.inl (((pre.length+1:Nat):Int),(if k.op=2 then acc else acc++[k]).map enc)):=by
    simp only[zO,zN,un,aK,dk,aA,dx,tp,BR,Int.toNat_natCast,t1,t2,c6,hg,Option.bind_some,bu,bE,bD,List.length_singleton]
    rw[an h1,bP]
    by_cases U:k.op=2
    ·rw[aj U,aj U];rfl
    ·rw[an U,an U,aj (by rw[iK];omega),eJ,←dA];rfl
   rw[bQ ca]
   have:=ih (pre++[k]) (if k.op=2 then acc else acc++[k]) (by simp[e]) (by split<;>simp<;>omega)
   rw[cg,List.length_singleton] at this
   rw[this]
   congr 1
   by_cases U:k.op=2
   ·simp[h1,U]
   ·simp[h1,U]
end
section
variable {f:List Ex} {a1 a2 a3 a4 a5 a6 a7 a8:Int} {b0 b1 b2:List V}
theorem akA (hn:f.length≤1000000) (hf: ∀k∈f,k.Ok): ∀(ay pre acc:List Ex),f=pre++ay→acc.length≤pre.length→(∀k∈acc,k.Ok)→
  Loop (zQ CC ((f.map enc).length:Int) a1 a2 a3 a4 a5 a6 a7 a8 b0 (f.map enc) b1 b2) (((pre.length:Nat):Int),acc.map enc)=
   some (if ay.any univ=true then .inl () else .inr (((f.map enc).length:Int),false,((ay.filter fun k=>decide (k.op≠1)).foldl ep acc).map enc)):=by
 intro ay
 induction ay with
 | nil=>
  intro pre acc e _ _
  rw[dr] at e
  subst e
  refine aV ?_
  simp only[zQ,zP,un,aK]
  rw[aA,aM,eP]
  simp
 | cons k ay ih=>
  intro pre acc e ha ar
  have kY:k∈f:=by rw[e];simp
  have aJ:pre.length<f.length:=by rw[e];simp
  have hg:(f.map enc)[pre.length]? =some k.enc:=by rw[e];simp
  have t1:((pre.length:Nat):Int)<(f.length:Int):=by omega
  have t2:(0:Int)≤((pre.length:Nat):Int):=by omega
  have cu:=PK k
  have ci:=Ya ar (hf k kY) (by omega)
  cases hu:univ k with
  | true=>
   rw[hu] at cu
   rw[aj (by simp[hu])]
   refine aV ?_
   simp only[zQ,zP,un,aK,dk,aA,Int.toNat_natCast,t1,t2,c6,hg,Option.bind_some,bu,bE,bD]
   refine (congrArg (fun o=>Option.bind o _) cu).trans ?_
   rfl
  | false=>
   rw[hu] at cu
   have ca:zQ CC ((f.map enc).length:Int) a1 a2 a3 a4 a5 a6 a7 a8 b0 (f.map enc) b1 b2 (((pre.length:Nat):Int),acc.map enc)=some (.inl (((pre.length+1:Nat):Int),(if k.op=1 then acc else ep acc k).map enc)):=by
    simp only[zQ,zP,un,aK,dk,aA,Int.toNat_natCast,t1,t2,c6,hg,Option.bind_some,bu,bE,bD]
    refine (congrArg (fun o=>Option.bind o _) cu).trans ?_
    simp only[Option.bind_some,V.aQ,V.dD,cond_false,tp]
    rw[bP]
    by_cases U:k.op=1
    ·rw[aj U,aj U];rfl
    ·rw[an U,an U]
     refine (congrArg (fun o=>Option.bind o _) ci).trans ?_
     simp only[Option.bind_some,V.aQ,V.kZ]
     rfl
   rw[bQ ca]
   have sY:=Vf acc k
   have:=ih (pre++[k]) (if k.op=1 then acc else ep acc k) (by simp[e]) (by rw[cg,List.length_singleton];split<;>omega) (by split;exact ar;exact Vg ar (hf k kY))
   rw[cg,List.length_singleton] at this
   rw[this]
   congr 1
   by_cases U:k.op=1
   ·simp[hu,U]
   ·simp[hu,U]
theorem akB (hn:f.length≤1000000) (hf: ∀k∈f,k.Ok): ∀(ay pre acc:List Ex),f=pre++ay→acc.length≤pre.length→(∀k∈acc,k.Ok)→
  Loop (zS CC ((f.map enc).length:Int) a1 a2 a3 a4 b0 a5 a6 a7 a8 (f.map enc) b1 b2) (((pre.length:Nat):Int),acc.map enc)=
   some (if ay.any (fun k=>decide (k.op=1))=true then .inl () else .inr (((f.map enc).length:Int),false,((ay.filter fun k=> !(univ k)).foldl ep acc).map enc)):=by
 intro ay
 induction ay with
 | nil=>
  intro pre acc e _ _
  rw[dr] at e
  subst e
  refine aV ?_
  simp only[zS,zR,un,aK]
  rw[aA,aM,eP]
  simp
 | cons k ay ih=>
  intro pre acc e ha ar
  have kY:k∈f:=by rw[e];simp
  have aJ:pre.length<f.length:=by rw[e];simp
  have hg:(f.map enc)[pre.length]? =some k.enc:=by rw[e];simp
  have t1:((pre.length:Nat):Int)<(f.length:Int):=by omega
  have t2:(0:Int)≤((pre.length:Nat):Int):=by omega
  have cu:=PK k
  have ci:=Ya ar (hf k kY) (by omega)
  by_cases h1:k.op=1
  ·rw[aj (by simp[h1])]
   refine aV ?_
   simp only[zS,zR,un,aK,dk,aA,dx,Int.toNat_natCast,t1,t2,c6,hg,Option.bind_some,bu,h1]
  ·have ca:zS CC ((f.map enc).length:Int) a1 a2 a3 a4 b0 a5 a6 a7 a8 (f.map enc) b1 b2 (((pre.length:Nat):Int),acc.map enc)=some (.inl (((pre.length+1:Nat):Int),(if univ k=true then acc else ep acc k).map enc)):=by
    simp only[zS,zR,un,aK,dk,aA,dx,Int.toNat_natCast,t1,t2,c6,hg,Option.bind_some,bu,bE,bD]
    rw[an h1]
    refine (congrArg (fun o=>Option.bind o _) cu).trans ?_
    simp only[Option.bind_some,V.aQ,V.dD,iJ]
    rw[bP]
    cases hu:univ k with
    | true=>rw[cond_true,aj rfl];rfl
    | false=>
     rw[cond_false,an (by simp)]
     refine (congrArg (fun o=>Option.bind o _) ci).trans ?_
     simp only[Option.bind_some,V.aQ,V.kZ]
     rfl
   rw[bQ ca]
   have sY:=Vf acc k
   have:=ih (pre++[k]) (if univ k=true then acc else ep acc k) (by simp[e]) (by rw[cg,List.length_singleton];split<;>omega) (by split;exact ar;exact Vg ar (hf k kY))
   rw[cg,List.length_singleton] at this
   rw[this]
   congr 1
   cases hu:univ k<;>simp[h1,hu]
end
theorem akC {ks:List Ex} {a b c d:Int} {l1 l2:List V} (hn:ks.length≤1000000) (ih: ∀k∈ks,CC vH (bV k [])=some (eM (aL k))):
  ∀(ay pre:List Ex),ks=pre++ay→∃t,Loop (IK CC (ks.map enc) ((ks.map enc).length:Int) a b l1 c d l2) (((pre.length:Nat):Int),(pre.map aL).map enc)=some (((ks.map enc).length:Int),t,(ks.map aL).map enc):=by
 intro ay
 induction ay with
 | nil=>
  intro pre e
  rw[dr] at e
  subst e
  refine ⟨false,aV ?_⟩
  simp only[IK,D3,un,aK]
  rw[aA,aM,eP]
 | cons k ay eF=>
  intro pre e
  have ch:pre.length<ks.length:=by rw[e];simp
  have bY:idx (ks.map enc) (pre.length:Int)=some k.enc:=by rw[e];exact gM _ _ _
  obtain ⟨t,ht⟩:=eF (pre++[k]) (by simp[e])
  refine ⟨t,(bQ ?_).trans ht⟩
  simp only[IK,D3,un,aK]
  rw[aA,bf,bY]
  simp only[Option.bind_some,bu,bE,bD]
  refine bs (ih k (by rw[e];simp)) ?_
  refine bT (by simp only[dq,iK,aK,List.length_singleton];omega) ?_
  rw[bP]
  show some (Sum.inl _)=some (Sum.inl _)
  refine congrArg (fun x=>some (Sum.inl x)) (Prod.ext ?_ ?_)
  ·simp
  ·simp only[eJ,cM,fJ]
   rw[dA (aL k)];rfl
theorem PR {op z:Int} {r:List Ex} {lz:List V} {e:Ex} (he:eM e=[.int .i64 z,.int .i64 0,.list aa lz]):
  (bif (((r.map enc).length:Int):Int)==0 then some [V.int .i64 z,V.int .i64 0,V.list aa lz] else bif (((r.map enc).length:Int):Int)==1 then ((r.map enc)[0]?).bind fun x=>some [V.int .i64 ((x.cell 0).toInt),V.int .i64 ((x.cell 1).toInt),V.list aa ((x.cell 2).toList)] else some [V.int .i64 op,V.int .i64 0,V.list aa (r.map enc)])=some (eM (iM op r e)):=by
 simp only[dx,aK]
 match r with
 | []=>rw[aj (by simp),←he];rfl
 | [k]=>rw[an (by simp),aj (by simp)];simp[iM,eM,bu,bE,bD]
 | k::k2::r=>
  rw[an (by simp only[List.length_cons];omega),an (by simp only[List.length_cons];omega)]
  rfl
theorem Yg {n:Int} (hn:n≤6): ∀e:Ex,e.wf n=true→e.size≤1000000→CC vH (bV e [])=some (eM (aL e)):=
 ind fun o l ks ih hw hs=>by
  obtain ⟨h1,U⟩:=ib hw
  have hl:=lg ks
  simp only[size] at hs
  have h3:=eU h1
  refine aky ?_
  unfold Yf
  obtain ⟨t,ht⟩:=akC (a:=o) (b:=l) (c:=0) (d:=0) (l1:=ks.map enc) (l2:=[]) (ks:=ks) (by omega) (fun k hk=>ih k hk (U k hk) (by have:=tJ hk;omega)) ks [] rfl
  refine bs ht ?_
  have hg: ∀k∈ks.map aL,Gd n k:=fun x hx=>by
   obtain ⟨k,hk,rfl⟩:=gT.1 hx
   exact lR k (U k hk)
  have hz:aR (ks.map aL)≤aR ks:=by
   clear ht h3 h1 hw ih hl hs hg
   induction ks with
   | nil=>simp[aR]
   | cons k ks ih=>have a:=y7 k (U k (by simp));have b:=ih fun k hk=>U k (by simp[hk]);simp only[cM,aR];omega
  have ar: ∀k∈ks.map aL,k.Ok:=fun k hk=>nA hn k (hg k hk).2 (by have:=tJ hk;omega)
  have hlen:(ks.map aL).length=ks.length:=by simp
  rw[mJ]
  simp only[un,Ex.op,Ex.bH,Ex.kids]
  generalize ks.map aL=ns at*
  have j4:=lg ns
  rcases h3 with ⟨rfl,h4,_⟩|⟨rfl,⟨rfl,h4⟩|⟨rfl,h4⟩|⟨rfl,h4⟩|⟨rfl,h4⟩|⟨rfl,h4⟩|⟨rfl,h4⟩|⟨rfl,h4⟩⟩
  ·obtain rfl:ns=[]:=jY.1 (by omega)
   rw[ku (by omega)]
   exact bF rfl (bF rfl (bF rfl (bF rfl (bF rfl rfl))))
  ·obtain rfl:ns=[]:=jY.1 (by omega)
   rw[ku (by omega)]
   exact bF rfl (bF rfl (bF rfl (bF rfl (bF rfl rfl))))
  ·obtain rfl:ns=[]:=jY.1 (by omega)
   rw[ku (by omega)]
   exact bF rfl (bF rfl (bF rfl (bF rfl (bF rfl rfl))))
  ·refine bF rfl (bF rfl (bF rfl (bT rfl ?_)))
   have a1:=sc 4 ns
   have a2:=lg (bp 4 ns)
   refine bs (PL (by omega) (by omega)) ?_
   refine bs (akA (by omega) (H6 ar) (bp 4 ns) [] [] rfl (cl _) (by simp)) ?_
   rw[wc]
   cases (bp 4 ns).any univ with
   | true=>simp only[c6];rfl
   | false=>
    simp only[Ak,fW]
    exact PR rfl
  ·refine bF rfl (bF rfl (bT rfl ?_))
   have a1:=sc 5 ns
   have a2:=lg (bp 5 ns)
   refine bs (PL (by omega) (by omega)) ?_
   refine bs (akz (by omega) (bp 5 ns) [] [] rfl (cl _)) ?_
   rw[tQ]
   cases (bp 5 ns).any (fun k=>decide (k.op=1)) with
   | true=>simp only[c6];rfl
   | false=>
    simp only[Ak,fW,List.nil_append]
    exact PR rfl
  ·refine bF rfl (bF rfl (bF rfl (bF rfl (bT rfl ?_))))
   have a1:=sc 6 ns
   have a2:=lg (bp 6 ns)
   refine bs (PL (by omega) (by omega)) ?_
   refine bs (akB (by omega) (H6 ar) (bp 6 ns) [] [] rfl (cl _) (by simp)) ?_
   rw[yZ]
   cases (bp 6 ns).any (fun k=>decide (k.op=1)) with
   | true=>simp only[c6];rfl
   | false=>
    simp only[Ak,fW]
    refine PR ?_
    simp[eM,jB,eG,Ex.op,Ex.bH,Ex.kids,dA]
  ·match ns,(show ns.length=1 by omega) with
   | [k],_=>
    refine bF rfl (bT rfl (bT rfl (bs (a:=k.enc) rfl ?_)))
    rw[y4,bu,bE,bD,dx,dx,dx]
    by_cases h1:k.op=1
    ·rw[aj h1,aj (.inl h1)];rfl
    ·rw[an h1]
     by_cases U:k.op=2
     ·rw[aj U,aj (.inr U)];rfl
     ·rw[an U,an (show¬(k.op=1∨k.op=2) by omega)]
      by_cases h7:k.op=7
      ·rw[aj h7,aj (.inl h7)];rfl
      ·rw[an h7]
       refine bs (PK k) ?_
       cases hu:univ k with
       | true=>rw[aj (.inr rfl)];exact bT rfl rfl
       | false=>
        rw[an (by rintro (h|h);exact h7 h;cases h)]
        exact bF rfl rfl
  ·match ns,(show ns.length=1 by omega) with
   | [k],_=>
    refine bT rfl (bT rfl (bs (a:=k.enc) rfl ?_))
    rw[y5,bu,dx]
    by_cases h8:k.op=8
    ·rw[aj h8,aj h8]
     have hs:=eU (hg k (by simp)).shape
     obtain ⟨o2,l2,jV⟩:=k
     simp only[Ex.op,Ex.kids,Ex.bH] at*
     match jV,(show (jV.length:Int)=1 by omega) with
     | [x],_=>
      refine bT (by simp) (bs (a:=_) rfl (bs (a:=x.enc) (by rw[bD];rfl) ?_))
      rw[bu,bE,bD];rfl
    ·rw[an h8,an h8];rfl
end Go.AM
set_option maxRecDepth 100000
namespace Go.AM
open Go.Proofs
noncomputable def Yh (C:ah) (op:Int) (l:LV):Option LV:=
 bif ((l.length:Int):Int)==1 then
  (l[0]?).bind fun x1=>
  some [V.int .i64 ((x1.cell 0).toInt),V.int .i64 ((x1.cell 1).toInt),.list aa ((x1.cell 2).toList)]
 else
  some [V.int .i64 op,V.int .i64 0,.list aa l]
theorem akD {op:Int} {l:LV} {r:Option LV} (h:Yh CC op l=r):CC vN [V.int .i64 op,.list aa l]=r:=aY (L:=aZ) av h
noncomputable def D7 (C:ah) (bH:Int) (t28:LV) (t29 er et fU eY:Int) (b8:LV) (t30:Int) (bj:LV) {β:Type} (kn:(Int × LV)→Option β) (kr:(Int × Bool × LV)→Option β):Option β:=
 bif decide ((t30:Int)<t29) then
  (idx t28 t30).bind fun x1=>
  (C pr [V.int .i64 ((x1.cell 0).toInt),V.int .i64 ((x1.cell 1).toInt),.list aa ((x1.cell 2).toList),V.int .i64 bH]).bind fun r2=>
  bif Nat.ble ((bj.length+([.agg [V.int .i64 ((V.nth r2 0).toInt),V.int .i64 ((V.nth (r2.drop 1) 0).toInt),.list aa ((V.nth ((r2.drop 1).drop 1) 0).toList)]]:LV).length)*40) bZ then
  kn (IntKind.wrap .i64 (t30+1),bj++([.agg [V.int .i64 ((V.nth r2 0).toInt),V.int .i64 ((V.nth (r2.drop 1) 0).toInt),.list aa ((V.nth ((r2.drop 1).drop 1) 0).toList)]]:LV))
  else none
 else
  kr (t30,decide ((t30:Int)<t29),bj)
noncomputable def zU (C:ah) (bH:Int) (t28:LV) (t29 er et fU eY:Int) (b8:LV):=un fun t30 bj=>D7 C bH t28 t29 er et fU eY b8 t30 bj (fun y=>some (Sum.inl y)) (fun r=>some (Sum.inr r))
noncomputable def D8 (C:ah) (bH:Int) (t58:LV) (t59 dN dy:Int) (cV:LV) (er et:Int) (bj:LV) (t60:Int) (zV:LV) {β:Type} (kn:(Int × LV)→Option β) (kr:(Int × LV)→Option β):Option β:=
 bif decide ((t60:Int)<t59) then
  (idx t58 t60).bind fun x8=>
  (C pr [V.int .i64 ((x8.cell 0).toInt),V.int .i64 ((x8.cell 1).toInt),.list aa ((x8.cell 2).toList),V.int .i64 bH]).bind fun r9=>
  bif (decide (0≤(IntKind.wrap .i64 (t60+1))))&&(decide ((IntKind.wrap .i64 (t60+1))≤(cV.length:Int))) then
  bif Nat.ble ((([.agg [V.int .i64 ((V.nth r9 0).toInt),V.int .i64 ((V.nth (r9.drop 1) 0).toInt),.list aa ((V.nth ((r9.drop 1).drop 1) 0).toList)]]:LV).length+((cV.drop ((IntKind.wrap .i64 (t60+1):Int).toNat)).take (cV.length-((IntKind.wrap .i64 (t60+1):Int).toNat))).length)*40) bZ then
   (C vN [V.int .i64 5,.list aa (([.agg [V.int .i64 ((V.nth r9 0).toInt),V.int .i64 ((V.nth (r9.drop 1) 0).toInt),.list aa ((V.nth ((r9.drop 1).drop 1) 0).toList)]]:LV)++((cV.drop ((IntKind.wrap .i64 (t60+1):Int).toNat)).take (cV.length-((IntKind.wrap .i64 (t60+1):Int).toNat))))]).bind fun df=>
   bif Nat.ble ((zV.length+([.agg [V.int .i64 ((V.nth df 0).toInt),V.int .i64 ((V.nth (df.drop 1) 0).toInt),.list aa ((V.nth ((df.drop 1).drop 1) 0).toList)]]:LV).length)*40) bZ then
   (C B9 [V.int .i64 ((x8.cell 0).toInt),V.int .i64 ((x8.cell 1).toInt),.list aa ((x8.cell 2).toList)]).bind fun eW=>
   bif !((V.nth eW 0).toBool) then
    kr (t60,zV++([.agg [V.int .i64 ((V.nth df 0).toInt),V.int .i64 ((V.nth (df.drop 1) 0).toInt),.list aa ((V.nth ((df.drop 1).drop 1) 0).toList)]]:LV))
   else
    kn (IntKind.wrap .i64 (t60+1),zV++([.agg [V.int .i64 ((V.nth df 0).toInt),V.int .i64 ((V.nth (df.drop 1) 0).toInt),.list aa ((V.nth ((df.drop 1).drop 1) 0).toList)]]:LV))
   else none
  else none
  else none
 else
  kr (t60,zV)
noncomputable def w5 (C:ah) (bH:Int) (t58:LV) (t59 dN dy:Int) (cV:LV) (er et:Int) (bj:LV):=un fun t60 zV=>D8 C bH t58 t59 dN dy cV er et bj t60 zV (fun y=>some (Sum.inl y)) (fun r=>some (Sum.inr r))
noncomputable def Yi (C:ah):cr:=cq 161 MA [false,false,false,true,false,false,false,false,false,true] [[1,2,3,0,0,5,6,7,8,9,0]] (@D7 C) (cq 321 MB [false,false,false,true,false,false,false,false,false,true,false] [[1,2,3,0,5,6,7,8,9,0,11]] (@D8 C) aZ)
theorem akE (C:ah):bC C (Yi C) 53 (Lp [1,0,1,0,1,1,1,0,1,0,1,0,0] 53):=cp MA [false,false,false,true,false,false,false,false,false,true] [[1,2,3,0,0,5,6,7,8,9,0]] (@D7 C) (a9 av)
theorem akF (C:ah):bC C (Yi C) 53 (Lp [1,0,1,0,1,1,1,1,1,1,1,0,1,0,1,0,0] 53):=cp MB [false,false,false,true,false,false,false,false,false,true,false] [[1,2,3,0,5,6,7,8,9,0,11]] (@D8 C) (a9 av)
noncomputable def Yj (C:ah) (ag aq:Int) (ae:LV) (bH:Int):Option LV:=
 bif (ag:Int)==3 then
  bif (aq:Int)==bH then
  some [V.int .i64 2,V.int .i64 0,.list aa ([]:LV)]
  else
  some [V.int .i64 1,V.int .i64 0,.list aa ([]:LV)]
 else
  bif (ag:Int)==4 then
  bif (ag:Int)==4 then
   (Loop (zU C bH ae (ae.length:Int) 0 0 ag 0 ([]:LV)) (0,([]:LV))).bind (un fun (jz:Int)=>un fun (ia:Bool) (PD:LV)=>
    some [V.int .i64 ag,V.int .i64 0,.list aa PD])
  else
   bif (ag:Int)==7 then
   (ae[0]?).bind fun x6=>
   (C pr [V.int .i64 ((x6.cell 0).toInt),V.int .i64 ((x6.cell 1).toInt),.list aa ((x6.cell 2).toList),V.int .i64 bH]).bind fun r7=>
   some [V.int .i64 5,V.int .i64 0,.list aa ([.agg [V.int .i64 ((V.nth r7 0).toInt),V.int .i64 ((V.nth (r7.drop 1) 0).toInt),.list aa ((V.nth ((r7.drop 1).drop 1) 0).toList)],.agg [V.int .i64 ag,V.int .i64 aq,.list aa ae]]:LV)]
   else
   bif (ag:Int)==5 then
    (Loop (w5 C bH ae (ae.length:Int) ag aq ae 0 0 ([]:LV)) (0,([]:LV))).bind (un fun (Hq:Int) (akG:LV)=>
     (C vN [V.int .i64 4,.list aa akG]).bind fun ko=>
     some [V.int .i64 ((V.nth ko 0).toInt),V.int .i64 ((V.nth (ko.drop 1) 0).toInt),.list aa ((V.nth ((ko.drop 1).drop 1) 0).toList)])
   else
    some [V.int .i64 1,V.int .i64 0,.list aa ([]:LV)]
  else
  bif (ag:Int)==6 then
   bif (ag:Int)==6 then
   (Loop (zU C bH ae (ae.length:Int) 0 0 ag 0 ([]:LV)) (0,([]:LV))).bind (un fun (sa:Int)=>un fun (Hr:Bool) (wS:LV)=>
    some [V.int .i64 ag,V.int .i64 0,.list aa wS])
   else
   bif (ag:Int)==7 then
    (ae[0]?).bind fun jT=>
    (C pr [V.int .i64 ((jT.cell 0).toInt),V.int .i64 ((jT.cell 1).toInt),.list aa ((jT.cell 2).toList),V.int .i64 bH]).bind fun ef=>
    some [V.int .i64 5,V.int .i64 0,.list aa ([.agg [V.int .i64 ((V.nth ef 0).toInt),V.int .i64 ((V.nth (ef.drop 1) 0).toInt),.list aa ((V.nth ((ef.drop 1).drop 1) 0).toList)],.agg [V.int .i64 ag,V.int .i64 aq,.list aa ae]]:LV)]
   else
    bif (ag:Int)==5 then
    (Loop (w5 C bH ae (ae.length:Int) ag aq ae 0 0 ([]:LV)) (0,([]:LV))).bind (un fun (NB:Int) (akH:LV)=>
     (C vN [V.int .i64 4,.list aa akH]).bind fun jd=>
     some [V.int .i64 ((V.nth jd 0).toInt),V.int .i64 ((V.nth (jd.drop 1) 0).toInt),.list aa ((V.nth ((jd.drop 1).drop 1) 0).toList)])
    else
    some [V.int .i64 1,V.int .i64 0,.list aa ([]:LV)]
  else
   bif (ag:Int)==8 then
   (Loop (zU C bH ae (ae.length:Int) 0 0 ag 0 ([]:LV)) (0,([]:LV))).bind (un fun (NC:Int)=>un fun (Ht:Bool) (nM:LV)=>
    some [V.int .i64 ag,V.int .i64 0,.list aa nM])
   else
   bif (ag:Int)==7 then
    (ae[0]?).bind fun oD=>
    (C pr [V.int .i64 ((oD.cell 0).toInt),V.int .i64 ((oD.cell 1).toInt),.list aa ((oD.cell 2).toList),V.int .i64 bH]).bind fun pT=>
    some [V.int .i64 5,V.int .i64 0,.list aa ([.agg [V.int .i64 ((V.nth pT 0).toInt),V.int .i64 ((V.nth (pT.drop 1) 0).toInt),.list aa ((V.nth ((pT.drop 1).drop 1) 0).toList)],.agg [V.int .i64 ag,V.int .i64 aq,.list aa ae]]:LV)]
   else
    bif (ag:Int)==5 then
    (Loop (w5 C bH ae (ae.length:Int) ag aq ae 0 0 ([]:LV)) (0,([]:LV))).bind (un fun (acT:Int) (akI:LV)=>
     (C vN [V.int .i64 4,.list aa akI]).bind fun mL=>
     some [V.int .i64 ((V.nth mL 0).toInt),V.int .i64 ((V.nth (mL.drop 1) 0).toInt),.list aa ((V.nth ((mL.drop 1).drop 1) 0).toList)])
    else
    some [V.int .i64 1,V.int .i64 0,.list aa ([]:LV)]
theorem akJ {ag aq:Int} {ae:LV} {bH:Int} {r:Option LV} (h:Yj CC ag aq ae bH=r):CC pr [V.int .i64 ag,V.int .i64 aq,.list aa ae,V.int .i64 bH]=r:=aY (bB (akE CC) (bB (akF CC) av)) h
noncomputable def Yk (C:ah) (ag aq:Int) (ae:LV) (bH:Int):Option LV:=
 (C qy [V.int .i64 ag,V.int .i64 aq,.list aa ae,V.int .i64 6]).bind fun r1=>
 bif (((V.nth r1 0).toInt):Int) != 0 then
  some [V.int .i64 0,V.int .i64 0,.list aa ([]:LV),V.int .i64 ((V.nth r1 0).toInt)]
 else
  bif decide ((bH:Int)<0) then
  some [V.int .i64 0,V.int .i64 0,.list aa ([]:LV),V.int .i64 1]
  else
  bif decide ((bH:Int)≥6) then
   some [V.int .i64 0,V.int .i64 0,.list aa ([]:LV),V.int .i64 1]
  else
   (C pr [V.int .i64 ag,V.int .i64 aq,.list aa ae,V.int .i64 bH]).bind fun r2=>
   (C vH [V.int .i64 ((V.nth r2 0).toInt),V.int .i64 ((V.nth (r2.drop 1) 0).toInt),.list aa ((V.nth ((r2.drop 1).drop 1) 0).toList)]).bind fun r3=>
   (C BY [V.int .i64 ((V.nth r3 0).toInt),V.int .i64 ((V.nth (r3.drop 1) 0).toInt),.list aa ((V.nth ((r3.drop 1).drop 1) 0).toList)]).bind fun r4=>
   bif !((V.nth r4 0).toBool) then
   some [V.int .i64 0,V.int .i64 0,.list aa ([]:LV),V.int .i64 3]
   else
   some [V.int .i64 ((V.nth r3 0).toInt),V.int .i64 ((V.nth (r3.drop 1) 0).toInt),.list aa ((V.nth ((r3.drop 1).drop 1) 0).toList),V.int .i64 0]
theorem akK {ag aq:Int} {ae:LV} {bH:Int} {r:Option LV} (h:Yk CC ag aq ae bH=r):CC GK [V.int .i64 ag,V.int .i64 aq,.list aa ae,V.int .i64 bH]=r:=aY (L:=aZ) av h
end Go.AM
set_option maxRecDepth 100000
namespace Go.AM
open Go.Proofs Ex
theorem Yl {o:Int} {l:List Ex}:CC vN [.int .i64 o,.list aa (l.map enc)]=some (eM (oneOf o l)):=by
 refine akD ?_
 unfold Yh
 match l with
 | []=>exact bF rfl rfl
 | [k]=>
  refine bT rfl (bs (a:=k.enc) rfl ?_)
  rw[bu,bE,bD];rfl
 | k::k2::l=>
  refine bF ?_ rfl
  simp only[cM,List.length_cons]
  rw[l7];omega
section
variable {c:Int} {ks:List Ex} (hn:ks.length≤1000) (ih: ∀k∈ks,CC pr (bV k [.int .i64 c])=some (eM (bU c k)))
include hn ih
theorem PS {a b x y:Int} {l:List V}: ∀(ay pre:List Ex),ks=pre++ay→
  Loop (zU CC c (ks.map enc) (ks.length:Int) a b x y l) (((pre.length:Nat):Int),(pre.map (bU c)).map enc)=some ((ks.length:Int),false,(ks.map (bU c)).map enc):=by
 intro ay
 induction ay with
 | nil=>
  intro pre e
  rw[dr] at e
  subst e
  refine aV ?_
  simp only[zU,D7,un]
  rw[aA,aM,eP]
 | cons k ay eF=>
  intro pre e
  have ch:pre.length<ks.length:=by rw[e];simp
  have bY:idx (ks.map enc) (pre.length:Int)=some k.enc:=by rw[e];exact gM _ _ _
  refine (bQ ?_).trans (eF (pre++[k]) (by simp[e]))
  simp only[zU,D7,un]
  refine bT (mO ch) (bs bY ?_)
  rw[bu,bE,bD]
  refine bs (ih k (by rw[e];simp)) ?_
  refine bT (zD (by simp;omega)) ?_
  rw[lT (by omega)]
  simp only[eJ,cM,fJ,cg,List.length_cons,List.length_nil]
  rw[dA (bU c k)]
  rfl
theorem akL {a b x y:Int} {l:List V} (hw: ∀k∈ks,k.Ok): ∀(ay pre S:List Ex),ks=pre++ay→S.length≤pre.length→
  ∃i,Loop (w5 CC c (ks.map enc) (ks.length:Int) a b (ks.map enc) x y l) (((pre.length:Nat):Int),S.map enc)=some (i,(S++iO c ay).map enc):=by
 intro ay
 induction ay with
 | nil=>
  intro pre S e hS
  rw[dr] at e
  subst e
  refine ⟨((ks.length:Nat):Int),aV ?_⟩
  simp only[w5,D8,un]
  rw[aA,aM,iO,dr]
 | cons k ay eF=>
  intro pre S e hS
  have ch:pre.length<ks.length:=by rw[e];simp
  have hm:k∈ks:=by rw[e];simp
  have bY:idx (ks.map enc) (pre.length:Int)=some k.enc:=by rw[e];exact gM _ _ _
  have dc: ∀{β:Type} (r:Option β) (K:V→Option β),K=K→True:=fun _ _ _=>trivial
  have hd:((ks.map enc).drop (pre.length+1)).take ((ks.map enc).length-(pre.length+1))=ay.map enc:=by
   rw[Am (by simp),←List.map_drop,e,show pre.length+1=(pre++[k]).length by simp,show pre++k::ay=(pre++[k])++ay by simp,List.drop_left]
  have main:w5 CC c (ks.map enc) (ks.length:Int) a b (ks.map enc) x y l (((pre.length:Nat):Int),S.map enc)=some (if k.da=true then .inl ((((pre++[k]).length:Nat):Int),(S++[oneOf 5 (bU c k::ay)]).map enc) else .inr (((pre.length:Nat):Int),(S++[oneOf 5 (bU c k::ay)]).map enc)):=by
   simp only[w5,D8,un]
   refine bT (mO ch) (bs bY ?_)
   rw[bu,bE,bD]
   refine bs (ih k hm) ?_
   rw[lT (by omega),Int.toNat_natCast,hd]
   refine bT (uB.2 ⟨cz (by omega),cz (by rw[aK];omega)⟩) ?_
   have ql:ay.length≤1000:=by rw[e] at hn;simp at hn;omega
   refine bT (zD (by simp;omega)) ?_
   have hj:=Yl (o:=5) (l:=bU c k::ay)
   rw[cM,dA (bU c k)] at hj
   refine bs hj ?_
   refine bT (zD (by simp;omega)) ?_
   refine bs (akd k (hw k hm)) ?_
   have hr:S.map enc++[(oneOf 5 (bU c k::ay)).enc]=(S++[oneOf 5 (bU c k::ay)]).map enc:=by simp
   rw[dA] at hr
   cases hk:k.da with
   | true=>
    refine bF (by simp[hk]) ?_
    rw[aj rfl,←hr,cg]
    rfl
   | false=>
    refine bT (by simp[hk]) ?_
    rw[an EI,←hr]
    rfl
  cases hk:k.da with
  | true=>
   rw[hk,aj rfl] at main
   obtain ⟨i,hi⟩:=eF (pre++[k]) (S++[oneOf 5 (bU c k::ay)]) (by simp[e]) (by simp;omega)
   refine ⟨i,(bQ main).trans (hi.trans ?_)⟩
   rw[zG,aj hk,cC];rfl
  | false=>
   rw[hk,an EI] at main
   refine ⟨((pre.length:Nat):Int),(aV main).trans ?_⟩
   rw[zG,an (by rw[hk];exact EI)]
end
theorem akM {c:Int}: ∀e:Ex,e.wf 6=true→e.size≤400→CC pr (bV e [.int .i64 c])=some (eM (bU c e)):=
 ind fun o l ks ih hw hs=>by
  obtain ⟨h1,U⟩:=ib hw
  have hl:=lg ks
  have Ih:aR ks≤399:=by simp only[size] at hs;omega
  have wL: ∀k∈ks,k.size≤399:=fun k hk=>lX (tJ hk) Ih
  have iC: ∀k∈ks,CC pr (bV k [.int .i64 c])=some (eM (bU c k)):=fun k hk=>ih k hk (U k hk) (by have:=wL k hk;omega)
  have ar: ∀k∈ks,k.Ok:=fun k hk=>nA (by omega) k (U k hk) (by have:=wL k hk;omega)
  refine akJ ?_
  unfold Yj
  simp only[Ex.op,Ex.kids,Ex.bH,aK]
  rcases eU h1 with ⟨rfl,h⟩|⟨rfl,⟨rfl,h⟩|⟨rfl,h⟩|⟨rfl,h⟩|⟨rfl,h⟩|⟨rfl,h⟩|⟨rfl,h⟩|⟨rfl,h⟩⟩
  ·refine bT rfl ?_
   rw[oG,aj rfl,dx]
   by_cases pj:l=c
   ·rw[aj pj,aj pj];rfl
   ·rw[an pj,an pj];rfl
  ·rfl
  ·rfl
  ·refine bF rfl (bT rfl (bT rfl ?_))
   refine bs (PS (by omega) iC ks [] rfl) ?_
   rw[oG];rfl
  ·refine bF rfl (bF rfl (bF rfl (bF rfl (bF rfl (bT rfl ?_)))))
   obtain ⟨i,hi⟩:=akL (a:=5) (b:=0) (x:=0) (y:=0) (l:=[]) (by omega) iC ar ks [] [] rfl (cl _)
   refine bs hi ?_
   rw[oG]
   refine bs Yl ?_
   rfl
  ·refine bF rfl (bF rfl (bT rfl (bT rfl ?_)))
   refine bs (PS (by omega) iC ks [] rfl) ?_
   rw[oG];rfl
  ·obtain ⟨k,rfl⟩:=xg.1 (show ks.length=1 by omega)
   refine bF rfl (bF rfl (bF rfl (bF rfl (bT rfl (bs (a:=k.enc) rfl ?_)))))
   rw[bu,bE,bD]
   refine bs (iC k (by simp)) ?_
   have hr:eM (bU c (.node 7 0 [k]))=[.int .i64 5,.int .i64 0,.list aa [(bU c k).enc,(Ex.node 7 0 [k]).enc]]:=by rw[oG];rfl
   rw[hr,dA (bU c k),dA (.node 7 0 [k])]
   rfl
  ·refine bF rfl (bF rfl (bF rfl (bT rfl ?_)))
   refine bs (PS (by omega) iC ks [] rfl) ?_
   rw[oG];rfl
theorem Ym {e:Ex} (h:e.wf 6=true):e.val 6=0↔e.depth≤40∧e.size≤400:=by
 constructor
 ·intro hv;have:=kj hv;exact ⟨this.1,this.2.1⟩
 ·intro hv;exact val_mk ⟨by omega,hv.1,hv.2,h⟩
theorem akN (e:Ex) (h:e.Ok) (c:Int):CC GK (bV e [.int .i64 c])=some (Pl (Pm e c)):=by
 refine akK ?_
 unfold Yk Pm
 refine bs (Hv e h 6) ?_
 by_cases hv:e.val 6=0
 ·obtain ⟨_,U,h3⟩:=kj hv
  rw[aj hv]
  refine bF (by simp[hv]) ?_
  by_cases h0:0≤c
  ·refine bF (cI (by omega)) ?_
   by_cases h6:c<6
   ·rw[aj ⟨h0,h6⟩]
    refine bF (cI (by omega)) ?_
    refine bs (akM (c:=c) e h3 U) ?_
    have hz:=O3 (c:=c) e 6 h3
    have hq:=Dt U
    obtain ⟨g1,g2,g3⟩:=Xa (c:=c) hv
    refine bs (Yg (n:=6) (by omega) (bU c e) (ub e h3) (by omega)) ?_
    refine bs (UP _ g2) ?_
    unfold qJ
    by_cases hw:(aL (bU c e)).val 6=0
    ·rw[aj hw]
     refine bF ?_ rfl
     have:=(Ym g1.2).1 hw
     simp[this]
    ·rw[an hw]
     refine bT ?_ rfl
     have: ¬_:=fun h=>hw ((Ym g1.2).2 h)
     rw[V.aQ,V.dD,cI this]
     rfl
   ·rw[an fun h=>h6 h.2]
    exact bT (cz (by omega)) rfl
  ·rw[an fun h=>h0 h.1]
   exact bT (cz (by omega)) rfl
 ·rw[an hv]
  refine bT (by simp[hv]) rfl
end Go.AM
set_option maxRecDepth 100000
namespace Go.AM
open Go.Proofs
noncomputable def Yn (C:ah) (ag aq:Int) (ae:LV) (letters:Int):Option LV:=
 (C qy [V.int .i64 ag,V.int .i64 aq,.list aa ae,V.int .i64 letters]).bind fun r1=>
 bif (((V.nth r1 0).toInt):Int) != 0 then
  some [V.int .i64 0,V.int .i64 0,V.int .i64 ((V.nth r1 0).toInt),.list aa ([]:LV),.list aI ([]:LV)]
 else
  (C vH [V.int .i64 ag,V.int .i64 aq,.list aa ae]).bind fun r2=>
  some [V.int .i64 letters,V.int .i64 0,V.int .i64 0,.list aa ([.agg [V.int .i64 ((V.nth r2 0).toInt),V.int .i64 ((V.nth (r2.drop 1) 0).toInt),.list aa ((V.nth ((r2.drop 1).drop 1) 0).toList)]]:LV),.list aI ([]:LV)]
theorem akO {ag aq:Int} {ae:LV} {letters:Int} {r:Option LV} (h:Yn CC ag aq ae letters=r):CC tt [V.int .i64 ag,V.int .i64 aq,.list aa ae,V.int .i64 letters]=r:=aY (L:=aZ) av h
noncomputable def D9 (C:ah) (db x t61 er et fU eY:Int) (rows:LV) (dN dy:Int) (cV dS cB cZ pL:LV) (dp t62:Int) {β:Type} (kn:(Int × Int)→Option β) (kr:(Int × Int × Bool)→Option β):Option β:=
 bif decide ((t62:Int)<t61) then
  aH cZ t62 fun x3=>
  (C rY [V.int .i64 ((x3.cell 0).toInt),V.int .i64 ((x3.cell 1).toInt),.list aa ((x3.cell 2).toList),V.int .i64 dN,V.int .i64 dy,.list aa cV]).bind fun r4=>
  bif (((V.nth r4 0).toInt):Int)==0 then
  kn (t62,IntKind.wrap .i64 (t62+1))
  else
  kn (dp,IntKind.wrap .i64 (t62+1))
 else
  kr (dp,t62,decide ((t62:Int)<t61))
noncomputable def IN (C:ah) (db x t61 er et fU eY:Int) (rows:LV) (dN dy:Int) (cV dS cB cZ pL:LV):=un fun dp t62=>D9 C db x t61 er et fU eY rows dN dy cV dS cB cZ pL dp t62 (fun y=>some (Sum.inl y)) (fun r=>some (Sum.inr r))
noncomputable def zW (C:ah) (db x dp:Int) (t76:Bool) (er et fU eY:Int) (rows:LV) (dN dy:Int) (cV dS cB cZ pL:LV) {β:Type} (kr:((Int × Int × Int × LV × LV) ⊕ (Int × LV))→Option β):Option β:=
 bif t76 then
  bif ((cZ.length:Int):Int)==512 then
  kr (.inl (3,0,0,([]:LV),([]:LV)))
  else
  bif Nat.ble ((cZ.length+([.agg [V.int .i64 dN,V.int .i64 dy,.list aa cV]]:LV).length)*40) bZ then
   kr (.inr ((cZ.length:Int),cZ++([.agg [V.int .i64 dN,V.int .i64 dy,.list aa cV]]:LV)))
  else none
 else
  kr (.inr (dp,cZ))
noncomputable def ur (C:ah) (db er et fU eY:Int) (bj dS cZ:LV) (x:Int) (rows cB:LV) {β:Type} (kn:(Int × LV × LV)→Option β) (kr:((Int × Int × Int × LV × LV) ⊕ (Int × Bool × LV × LV))→Option β):Option β:=
 bif decide ((x:Int)<fU) then
  aH cB eY fun x1=>
  (C GK [V.int .i64 ((x1.cell 0).toInt),V.int .i64 ((x1.cell 1).toInt),.list aa ((x1.cell 2).toList),V.int .i64 x]).bind fun r2=>
  bif (((V.nth (r2.drop 3) 0).toInt):Int) != 0 then
  kr (.inl ((V.nth (r2.drop 3) 0).toInt,0,0,([]:LV),([]:LV)))
  else
  (Loop (IN C db x (cB.length:Int) er et fU eY rows ((V.nth r2 0).toInt) ((V.nth (r2.drop 1) 0).toInt) ((V.nth ((r2.drop 1).drop 1) 0).toList) bj dS cB cZ) ((-1),0)).bind (un fun (Yo:Int)=>un fun (ld:Int) (pA:Bool)=>
   zW C db x Yo (decide ((Yo:Int)<0)) er et fU eY rows ((V.nth r2 0).toInt) ((V.nth (r2.drop 1) 0).toInt) ((V.nth ((r2.drop 1).drop 1) 0).toList) bj dS cB cZ (cf (un fun (Ho:Int)=>un fun (akP:Int)=>un fun (akQ:Int)=>un fun (sq:LV) (wP:LV)=>
    kr (.inl (Ho,akP,akQ,sq,wP))) (un fun (Yp:Int) (pM:LV)=>
    bif Nat.ble ((rows.length+([V.int .i64 Yp]:LV).length)*8) bZ then
     kn (IntKind.wrap .i64 (x+1),rows++([V.int .i64 Yp]:LV),pM)
    else none)))
 else
  kr (.inr (x,decide ((x:Int)<fU),rows,cB))
noncomputable def qM (C:ah) (db er et fU eY:Int) (bj dS cZ:LV):=un fun x=>un fun rows cB=>ur C db er et fU eY bj dS cZ x rows cB (fun y=>some (Sum.inl y)) (fun r=>some (Sum.inr r))
noncomputable def uu (C:ah) (er et fU:Int) (b8 bj:LV) (db eY:Int) (dS cB:LV) {β:Type} (kn:(Int × Int × LV × LV)→Option β) (kr:((Int × Int × Int × LV × LV) ⊕ (Int × Bool × Int × LV × LV))→Option β):Option β:=
 bif decide ((db:Int)>0) then
  bif decide ((eY:Int)<(dS.length:Int)) then
  (Loop (qM C db er et fU eY b8 bj cB) (0,([]:LV),dS)).bind (cf (un fun (sa:Int)=>un fun (akR:Int)=>un fun (akS:Int)=>un fun (PT:LV) (DQ:LV)=>
   kr (.inl (sa,akR,akS,PT,DQ))) (un fun (anq:Int)=>un fun (Cs:Bool)=>un fun (akT:LV) (akU:LV)=>
   bif Nat.ble ((cB.length+1)*24) bZ then
    kn (IntKind.wrap .i64 (db-1),IntKind.wrap .i64 (eY+1),akU,cB++([.list eL akT]:LV))
   else none))
  else
  kr (.inr (db,decide ((eY:Int)<(dS.length:Int)),eY,dS,cB))
 else
  kr (.inr (db,false,eY,dS,cB))
noncomputable def su (C:ah) (er et fU:Int) (b8 bj:LV):=un fun db=>un fun eY=>un fun dS cB=>uu C er et fU b8 bj db eY dS cB (fun y=>some (Sum.inl y)) (fun r=>some (Sum.inr r))
noncomputable def IP (C:ah):cr:=cq 209 L9 [false,false,true,false,true,false,false,false,false,false,false,false,false,false,false,false,false] [[1,2,0,4,0,0,6,7,8,9,10,11,12,13,14,15,16,17]] (@D9 C) (hY 1231 Ma [[0,0,0,0,0],[1,2,0,5,6,7,8,9,13,14,0,16]] (@zW C) (cq 97 Mb [false,true,false,false,false,false,true,false,false,true,false] [[0,0,0,0,0],[1,0,0,3,4,5,6,0,8,9,0,11]] (@ur C) (cq 33 Mc [true,false,false,false,true,false,false,true,true] [[0,0,0,0,0],[0,0,2,3,4,0,6,7,0,0]] (@uu C) aZ)))
theorem akV (C:ah):bC C (IP C) 15 (Lp [1,1,0,0,0,1,0,0,1,0,1,0,0,1,0,0,1,1,1,0,1,0,0] 15):=cp L9 [false,false,true,false,true,false,false,false,false,false,false,false,false,false,false,false,false] [[1,2,0,4,0,0,6,7,8,9,10,11,12,13,14,15,16,17]] (@D9 C) (a9 av)
theorem akW (C:ah):bC C (IP C) 15 (Cd 76 [1,1,0,0,0,1,0,0,1,0,1,0,0,1,0,0,1,1,1,1,0,1,0] [1,1,0,0,0,1,0,0,1,0,1,0,0,1,0,0,1,1,1,1,0,1,1] 15):=hX Ma [[0,0,0,0,0],[1,2,0,5,6,7,8,9,13,14,0,16]] (@zW C) (a9 av) (a9 av)
theorem akX (C:ah):bC C (IP C) 15 (Lp [1,1,0,0,0,1,0,0,1,0,1,0,0] 15):=cp Mb [false,true,false,false,false,false,true,false,false,true,false] [[0,0,0,0,0],[1,0,0,3,4,5,6,0,8,9,0,11]] (@ur C) (a9 (bB (akV C) (bB (akW C) av)))
theorem akY (C:ah):bC C (IP C) 15 (Lp [1,1,0,0,0] 15):=cp Mc [true,false,false,false,true,false,false,true,true] [[0,0,0,0,0],[0,0,2,3,4,0,6,7,0,0]] (@uu C) (a9 (bB (akX C) av))
noncomputable def Yq (C:ah) (bI:Int) (bw cP:LV) (cL db:Int):Option LV:=
 bif Nat.ble ((([]:LV).length+bw.length)*40) bZ then
  bif Nat.beq cP.length 0 then
  (Loop (su C 0 0 bI ([]:LV) ([]:LV)) (db,cL,([]:LV)++bw,([]:LV))).bind (cf (un fun (Ht:Int)=>un fun (akZ:Int)=>un fun (ak0:Int)=>un fun (ak1:LV) (ak2:LV)=>
   some [V.int .i64 akZ,V.int .i64 ak0,V.int .i64 Ht,.list aa ak2,.list aI ak1]) (un fun (anr:Int)=>un fun (Hu:Bool)=>un fun (zT:Int)=>un fun (ak3:LV) (ak4:LV)=>
   some [V.int .i64 bI,V.int .i64 zT,V.int .i64 0,.list aa ak3,.list aI ak4]))
  else none
 else none
theorem ak5 {bI:Int} {bw cP:LV} {cL db:Int} {r:Option LV} (h:Yq CC bI bw cP cL db=r):CC BX [V.int .i64 bI,.list aa bw,.list aI cP,V.int .i64 cL,V.int .i64 db]=r:=aY (bB (akY CC) av) h
noncomputable def Ea (C:ah) (t40 oK:Int) (nK kH:LV) (sw oL:Int) (nL kI:LV) (sy t41:Int) {β:Type} (kn:Int→Option β) (kr:((Bool) ⊕ (Int × Bool))→Option β):Option β:=
 bif decide ((t41:Int)<t40) then
  (idx nK t41).bind fun x1=>
  (idx nL t41).bind fun x2=>
  (C rY [V.int .i64 ((x1.cell 0).toInt),V.int .i64 ((x1.cell 1).toInt),.list aa ((x1.cell 2).toList),V.int .i64 ((x2.cell 0).toInt),V.int .i64 ((x2.cell 1).toInt),.list aa ((x2.cell 2).toList)]).bind fun r3=>
  bif (((V.nth r3 0).toInt):Int) != 0 then
  kr (.inl false)
  else
  kn (IntKind.wrap .i64 (t41+1))
 else
  kr (.inr (t41,decide ((t41:Int)<t40)))
noncomputable def Eb (C:ah) (t40 oK:Int) (nK kH:LV) (sw oL:Int) (nL kI:LV) (sy:Int):=fun t41=>Ea C t40 oK nK kH sw oL nL kI sy t41 (fun y=>some (Sum.inl y)) (fun r=>some (Sum.inr r))
noncomputable def Ec (C:ah) (i t59 t60 t81 oK:Int) (nK kH:LV) (sw oL:Int) (nL kI:LV) (sy t82:Int) {β:Type} (kn:Int→Option β) (kr:((Bool) ⊕ (Int × Bool))→Option β):Option β:=
 bif decide ((t82:Int)<t81) then
  (idx kH i).bind fun tT=>
  (idx tT.toList t82).bind fun gv=>
  (idx kI i).bind fun km=>
  (idx km.toList t82).bind fun pE=>
  bif (gv.toInt:Int) != pE.toInt then
  kr (.inl false)
  else
  kn (IntKind.wrap .i64 (t82+1))
 else
  kr (.inr (t82,decide ((t82:Int)<t81)))
noncomputable def Ed (C:ah) (i t59 t60 t81 oK:Int) (nK kH:LV) (sw oL:Int) (nL kI:LV) (sy:Int):=fun t82=>Ec C i t59 t60 t81 oK nK kH sw oL nL kI sy t82 (fun y=>some (Sum.inl y)) (fun r=>some (Sum.inr r))
noncomputable def Ee (C:ah) (t59 oK:Int) (nK kH:LV) (sw oL:Int) (nL kI:LV) (sy t60:Int) {β:Type} (kn:Int→Option β) (kr:((Bool) ⊕ (Int × Bool))→Option β):Option β:=
 bif decide ((t60:Int)<t59) then
  (idx kH t60).bind fun x7=>
  (idx kI t60).bind fun x8=>
  bif ((x7.toList.length:Int):Int) != (x8.toList.length:Int) then
  kr (.inl false)
  else
  (idx kH t60).bind fun x9=>
  (Loop (Ed C t60 t59 t60 (x9.toList.length:Int) oK nK kH sw oL nL kI sy) 0).bind (cf (fun (tI:Bool)=>
   kr (.inl tI)) (un fun (sa:Int) (Hr:Bool)=>
   kn (IntKind.wrap .i64 (t60+1))))
 else
  kr (.inr (t60,decide ((t60:Int)<t59)))
noncomputable def Ef (C:ah) (t59 oK:Int) (nK kH:LV) (sw oL:Int) (nL kI:LV) (sy:Int):=fun t60=>Ee C t59 oK nK kH sw oL nL kI sy t60 (fun y=>some (Sum.inl y)) (fun r=>some (Sum.inr r))
noncomputable def PU (C:ah):cr:=cq 65 Md [false,true,false,false,false,false,false,false,false,false] [[0],[1,0,0,3,4,5,6,7,8,9,10]] (@Ea C) (cq 241 Me [false,false,false,false,true,false,false,false,false,false,false,false,false] [[0],[1,2,3,4,0,0,6,7,8,9,10,11,12,13]] (@Ec C) (cq 161 Mf [false,true,false,false,false,false,false,false,false,false] [[0],[1,0,0,3,4,5,6,7,8,9,10]] (@Ee C) aZ))
theorem ak6 (C:ah):bC C (PU C) 16 (Lp [1,1,0,1,0,0] 16):=cp Md [false,true,false,false,false,false,false,false,false,false] [[0],[1,0,0,3,4,5,6,7,8,9,10]] (@Ea C) (a9 av)
theorem ak7 (C:ah):bC C (PU C) 16 (Lp [1,1,1,0,1,0,0,1,1,0,0,1,1,1,0,0] 16):=cp Me [false,false,false,false,true,false,false,false,false,false,false,false,false] [[0],[1,2,3,4,0,0,6,7,8,9,10,11,12,13]] (@Ec C) (a9 av)
theorem ak8 (C:ah):bC C (PU C) 16 (Lp [1,1,1,0,1,0,0] 16):=cp Mf [false,true,false,false,false,false,false,false,false,false] [[0],[1,0,0,3,4,5,6,7,8,9,10]] (@Ee C) (a9 (bB (ak7 C) av))
noncomputable def Yr (C:ah) (fe:Int) (eT ff:LV) (zX fg:Int) (fh fv:LV) (zY:Int):Option LV:=
 bif (fe:Int) != fg then
  some [.bool false]
 else
  bif (zX:Int) != zY then
  some [.bool false]
  else
  bif ((eT.length:Int):Int) != (fh.length:Int) then
   some [.bool false]
  else
   bif ((ff.length:Int):Int) != (fv.length:Int) then
   some [.bool false]
   else
   (Loop (Eb C (eT.length:Int) fe eT ff zX fg fh fv zY) 0).bind (cf (fun (ia:Bool)=>
    some [.bool ia]) (un fun (mH:Int) (ld:Bool)=>
    (Loop (Ef C (ff.length:Int) fe eT ff zX fg fh fv zY) 0).bind (cf (fun (Nz:Bool)=>
     some [.bool Nz]) (un fun (NA:Int) (acR:Bool)=>
     some [.bool true]))))
theorem ak9 {fe:Int} {eT ff:LV} {zX fg:Int} {fh fv:LV} {zY:Int} {r:Option LV} (h:Yr CC fe eT ff zX fg fh fv zY=r):CC GD [V.int .i64 fe,.list aa eT,.list aI ff,V.int .i64 zX,V.int .i64 fg,.list aa fh,.list aI fv,V.int .i64 zY]=r:=aY (bB (ak6 CC) (bB (ak8 CC) av)) h
end Go.AM
set_option maxRecDepth 100000
namespace Go.AM
open Go.Proofs Ex
def IQ (e:Ex) (L:Int):Dv × Int:=if e.val L=0 then (eO e L,0) else (.zero,e.val L)
theorem Ys {e:Ex} (h:e.Ok) (L:Int):CC tt (bV e [.int .i64 L])=some (wX (IQ e L)):=by
 refine akO ?_
 unfold Yn IQ
 refine bs (Hv e h L) ?_
 by_cases hv:e.val L=0
 ·rw[aj hv]
  refine bF (by rw[V.aQ,V.toInt_int,hv];rfl) ?_
  obtain ⟨_,U,h3⟩:=kj (wM hv)
  refine bs (Yg (n:=6) (by omega) e h3 (by omega)) ?_
  unfold wX eO
  simp only[cM,fJ]
  rw[dA (aL e)]
  rfl
 ·rw[an hv]
  refine bT ?_ rfl
  rw[V.aQ,V.toInt_int,lu];exact hv
def qN (d:Ex) (es:List Ex):Int:=if d∈es then (es.idxOf d:Int) else-1
theorem ala {d k:Ex} {es:List Ex} (h:(es++[k]).Nodup):qN d (es++[k])=if k=d then (es.length:Int) else qN d es:=by
 have hn:k∉es:=by
  rw[xf] at h
  exact fun hk=>h.2.2 k hk k (by simp) rfl
 unfold qN
 by_cases he:k=d
 ·subst he
  rw[aj (by simp),aj rfl,List.idxOf_append,an hn]
  simp
 ·rw[an he]
  by_cases hm:d∈es
  ·rw[aj (by simp[hm]),aj hm,List.idxOf_append,aj hm]
  ·rw[an hm,an]
   simp[hm,Ne.symm he]
theorem alb {es:List Ex} {d:Ex} (hn:es.length≤1000) (ho: ∀e∈es,e.Ok) (hd:d.Ok) (jv:es.Nodup) {a1 a2 a3 a4 a5 a6:Int} {l1 l2 l3 l4:List V}: ∀(ay pre:List Ex),es=pre++ay→
  Loop (IN CC a1 a2 (es.length:Int) a3 a4 a5 a6 l1 d.op d.bH (d.kids.map enc) l2 l3 (es.map enc) l4) (qN d pre,((pre.length:Nat):Int))=some (qN d es,(es.length:Int),false):=by
 intro ay
 induction ay with
 | nil=>
  intro pre e
  rw[dr] at e
  subst e
  refine aV ?_
  simp only[IN,D9,un]
  rw[aA,aM,eP]
 | cons k ay eF=>
  intro pre e
  have ch:pre.length<es.length:=by rw[e];simp
  have hk:k∈es:=by rw[e];simp
  have bY:(es.map enc)[pre.length]? =some k.enc:=by rw[e];simp
  have hs:qN d (pre++[k])=if k=d then (pre.length:Int) else qN d pre:=ala (by
   rw[e,show pre++k::ay=(pre++[k])++ay by simp,xf] at jv
   exact jv.1)
  refine (bQ ?_).trans (eF (pre++[k]) (by simp[e]))
  simp only[IN,D9,un]
  refine bT (mO ch) ((nE bY).trans ?_)
  rw[bu,bE,bD]
  refine bs (IJ k (ho k hk) d hd) ?_
  rw[V.aQ,V.toInt_int,lT (by omega),dx,hs,cg]
  by_cases he:k=d
  ·rw[aj (tP.2 he),aj he];rfl
  ·rw[an (fun h=>he (tP.1 h)),an he];rfl
theorem PV {L dn:Int} {e:Ex} {k:Nat} (hk:dn=(k:Int)) (Yt:L≤6) (he:Nv e) {bud a1 a2:Int} {l1 l2 l3:List V}: ∀(n x:Nat) (es:List Ex) (row:List Int),L=((x+n:Nat):Int)→Es es→k<es.length→es.getD k aF=e→row.length=x→
  (∀p,kE e n x es row=some p→Loop (qM CC bud a1 a2 L dn l1 l2 l3) (((x:Nat):Int),row.map (fun n=>V.int .i64 n),es.map enc)=some (.inr (L,false,p.2.map (fun n=>V.int .i64 n),p.1.map enc)))
  ∧(kE e n x es row=none→Loop (qM CC bud a1 a2 L dn l1 l2 l3) (((x:Nat):Int),row.map (fun n=>V.int .i64 n),es.map enc)=some (.inl (3,0,0,[],[])))
 | 0,x,es,row,hL,jP,fO,oj,hr=>by
  refine ⟨fun p hp=> ?_,fun hp=>by simp[kE] at hp⟩
  cases hp
  refine aV ?_
  simp only[qM,ur,un]
  rw[aA,aM,eP,show L=((x:Nat):Int) by omega]
 | n+1,x,es,row,hL,jP,fO,oj,hr=>by
  subst hk
  have aJ:decide ((x:Int)<L)=true:=cz (by omega)
  have bY:(es.map enc)[k]? =some e.enc:=by
   rw[e7,bA fO,←oj,fA,bA fO];rfl
  have hb:=akN e (nA (by omega) e he.1.2 (by have:=kj he.2;omega)) (x:Int)
  have Pz:qJ (aL (bU x e))=match oH e x with|some d=>(d,0)|none=>(aF,3):=by
   unfold qJ oH;split<;>rfl
  unfold Pm at hb
  rw[aj he.2,bf,Pz] at hb
  have hle:=jP.le
  have ar: ∀{x:Ex},Nv x→x.Ok:=fun {x} h=>nA (by omega) x h.1.2 (by have:=kj h.2;omega)
  rw[kE]
  cases ca:oH e x with
  | none=>
   rw[ca] at hb
   refine ⟨fun p hp=>(by cases hp),fun _=>aV ?_⟩
   simp only[qM,ur,un]
   refine bT aJ ((nE bY).trans ?_)
   rw[bu,bE,bD]
   refine bs hb ?_
   exact bT rfl rfl
  | some d=>
   rw[ca] at hb
   have hd:=(Pe he ca).1
   have IS:=fun {a1 a2 a3 a4 a5 a6:Int} {l1 l2 l3 l4:List V}=>alb (es:=es) (d:=d) (a1:=a1) (a2:=a2) (a3:=a3) (a4:=a4) (a5:=a5) (a6:=a6) (l1:=l1) (l2:=l2) (l3:=l3) (l4:=l4) (by omega) (fun e he=>ar (jP.nv e he)) (ar hd) jP.nd es [] rfl
   have hp0:qN d []= -1:=rfl
   rw[hp0] at IS
   simp only[Option.bind_some]
   have cO:Nat.ble ((row.map (fun n=>V.int .i64 n)).length+1) 1000=true:=by rw[dq,aK];omega
   by_cases hm:d∈es
   ·rw[aj hm]
    have QC:es.idxOf d<es.length:=EJ.2 hm
    have IT:qN d es=(es.idxOf d:Int):=aj hm
    obtain ⟨i1,i2⟩:=PV (L:=L) (e:=e) (k:=k) (bud:=bud) (a1:=a1) (a2:=a2) (l1:=l1) (l2:=l2) (l3:=l3) rfl Yt he n (x+1) es (row++[(es.idxOf d:Int)]) (by omega) jP fO oj (by simp[hr])
    have dc:qM CC bud a1 a2 L (k:Int) l1 l2 l3 (((x:Nat):Int),row.map (fun n=>V.int .i64 n),es.map enc)=some (.inl (((x+1:Nat):Int),(row++[(es.idxOf d:Int)]).map (fun n=>V.int .i64 n),es.map enc)):=by
     simp only[qM,ur,zW,un]
     refine bT aJ ((nE bY).trans ?_)
     rw[bu,bE,bD]
     refine bs hb (bF rfl ?_)
     rw[aK]
     refine bs IS ?_
     simp only[un]
     rw[IT]
     refine bF (cI (by omega)) ?_
     refine bT (by rw[dq,iK];simp;omega) ?_
     rw[lT (by omega),eJ]
     rfl
    exact ⟨fun p hp=>(bQ dc).trans (i1 p hp),fun hp=>(bQ dc).trans (i2 hp)⟩
   ·rw[an hm]
    have IT:qN d es= -1:=an hm
    by_cases sr:es.length=512
    ·rw[aj sr]
     refine ⟨fun p hp=>(by cases hp),fun _=>aV ?_⟩
     simp only[qM,ur,zW,un]
     refine bT aJ ((nE bY).trans ?_)
     rw[bu,bE,bD]
     refine bs hb (bF rfl ?_)
     rw[aK]
     refine bs IS ?_
     simp only[un]
     rw[IT]
     refine bT rfl (bT (by rw[sr];rfl) rfl)
    ·rw[an sr]
     obtain ⟨i1,i2⟩:=PV (L:=L) (e:=e) (k:=k) (bud:=bud) (a1:=a1) (a2:=a2) (l1:=l1) (l2:=l2) (l3:=l3) rfl Yt he n (x+1) (es++[d]) (row++[(es.length:Int)]) (by omega) (jP.snoc hd hm sr) (by simp;omega) (by rw[Dx fO,oj]) (by simp[hr])
     have dc:qM CC bud a1 a2 L (k:Int) l1 l2 l3 (((x:Nat):Int),row.map (fun n=>V.int .i64 n),es.map enc)=some (.inl (((x+1:Nat):Int),(row++[(es.length:Int)]).map (fun n=>V.int .i64 n),(es++[d]).map enc)):=by
      simp only[qM,ur,zW,un]
      refine bT aJ ((nE bY).trans ?_)
      rw[bu,bE,bD]
      refine bs hb (bF rfl ?_)
      rw[aK]
      refine bs IS ?_
      simp only[un]
      rw[IT]
      refine bT rfl (bF (by rw[l7];omega) ?_)
      refine bT (by rw[dq,iK];simp;omega) ?_
      simp only[cf,un]
      refine bT (by rw[dq,iK];simp;omega) ?_
      rw[lT (by omega),eJ,eJ,cM (f:=enc),dA d]
      rfl
     exact ⟨fun p hp=>(bQ dc).trans (i1 p hp),fun hp=>(bQ dc).trans (i2 hp)⟩
theorem Yu {a1 a2:Int} {l1 l2:List V}: ∀(n:Nat) (s:Dv),Gs s→n≤1000000→
  (∀t,eN n s=some t→∃b c,Loop (su CC a1 a2 s.L l1 l2) ((n:Int),s.dn,s.es.map enc,s.nx.map cj)=some (.inr (b,c,t.dn,t.es.map enc,t.nx.map cj)))
  ∧(eN n s=none→Loop (su CC a1 a2 s.L l1 l2) ((n:Int),s.dn,s.es.map enc,s.nx.map cj)=some (.inl (3,0,0,[],[])))
 | 0,s,hs,_=>by
  refine ⟨fun t ht=>⟨0,false,?_⟩,fun h=>by simp[eN] at h⟩
  cases ht
  refine aV ?_
  simp only[su,uu,un]
  rfl
 | n+1,s,hs,hn=>by
  rw[eN]
  have iE:decide (((n+1:Nat):Int)>0)=true:=cz (by omega)
  have Dy:=hs.dn
  by_cases hd:s.dn<s.es.length
  ·rw[aj hd]
   have hL:=hs.L
   have hq:s.dn.toNat<s.es.length:=by omega
   have hle:=hs.es.le
   have gI:=hs.nl
   have Eg:decide (s.dn<((s.es.map enc).length:Int))=true:=cz (by rw[aK];exact hd)
   obtain ⟨l1',l2'⟩:=PV (L:=s.L) (dn:=s.dn) (e:=s.es.getD s.dn.toNat aF) (k:=s.dn.toNat) (bud:=((n+1:Nat):Int)) (a1:=a1) (a2:=a2) (l1:=l1) (l2:=l2) (l3:=s.nx.map cj) (by omega) hL.2 (hs.es.nv _ (nH hq)) s.L.toNat 0 s.es [] (by omega) hs.es hq rfl rfl
   cases hp:proc s with
   | none=>
    have hr:kE (s.es.getD s.dn.toNat aF) s.L.toNat 0 s.es []=none:=by
     unfold proc at hp
     rwa [Option.map_eq_none_iff] at hp
    refine ⟨fun t ht=>(by cases ht),fun _=>aV ?_⟩
    simp only[su,uu,un]
    refine bT iE (bT Eg ?_)
    refine bs (l2' hr) ?_
    rfl
   | some u=>
    obtain ⟨p,bz,ey⟩:=Pg hp
    obtain ⟨g,gL,g2,_⟩:=zI hs hd hp
    obtain ⟨i1,i2⟩:=Yu (a1:=a1) (a2:=a2) (l1:=l1) (l2:=l2) n u g (by omega)
    have dc:su CC a1 a2 s.L l1 l2 (((n+1:Nat):Int),s.dn,s.es.map enc,s.nx.map cj)=some (.inl ((n:Int),u.dn,u.es.map enc,u.nx.map cj)):=by
     simp only[su,uu,un]
     refine bT iE (bT Eg ?_)
     refine bs (l1' p bz) ?_
     simp only[cf,un]
     refine bT (by rw[dq,iK];simp;omega) ?_
     rw[bP,bP,ey,show ((n+1:Nat):Int)-1=(n:Int) by omega]
     simp only[eJ]
     rfl
    rw[gL] at i1 i2
    refine ⟨fun t ht=> ?_,fun ht=>(bQ dc).trans (i2 ht)⟩
    obtain ⟨b,c,h⟩:=i1 t ht
    exact ⟨b,c,(bQ dc).trans h⟩
  ·rw[an hd]
   refine ⟨fun t ht=>⟨((n+1:Nat):Int),false,?_⟩,fun ht=>(by cases ht)⟩
   cases ht
   refine aV ?_
   have Eg:decide (s.dn<((s.es.map enc).length:Int))=false:=cI (by rw[aK];exact hd)
   simp only[su,uu,un]
   refine bT iE (bF Eg ?_)
   rw[Eg]
def IU (d:Dv) (b:Int):Dv × Int:=match eN b.toNat d with|some t=>(t,0)|none=>(.zero,3)
theorem Yv {d:Dv} (hs:Gs d) (hn:d.nx=[]) (b:Int) (hb:b≤1000000):CC BX (gz d [.int .i64 b])=some (wX (IU d b)):=by
 have hle:=hs.es.le
 have zK:=hs.dn
 refine ak5 ?_
 unfold Yq IU
 refine bT (by rw[dq,iK];simp;omega) (bT (by rw[hn];rfl) ?_)
 rw[List.nil_append]
 by_cases h0:0≤b
 ·obtain ⟨l1,l2⟩:=Yu (a1:=0) (a2:=0) (l1:=[]) (l2:=[]) b.toNat d hs (by omega)
  rw[show ((b.toNat:Nat):Int)=b by omega] at l1 l2
  rw[hn,fJ] at l1 l2
  cases hp:eN b.toNat d with
  | none=>exact bs (l2 hp) rfl
  | some t=>
   obtain ⟨x,y,h⟩:=l1 t hp
   refine bs h ?_
   have hL:=(uf _ _ _ hs hp).2.1
   unfold wX
   rw[hL]
   rfl
 ·rw[show b.toNat=0 by omega,eN]
  refine bs (a:= .inr (b,false,d.dn,d.es.map enc,([]:List V))) (aV ?_) (by unfold wX;simp only[hn];rfl)
  simp only[su,uu,un]
  rw[aA,aM]
theorem alc {a b:List Ex} (ha: ∀e∈a,e.Ok) (hb: ∀e∈b,e.Ok) (hl:a.length≤maxLen) (he:a.length=b.length) {x1 x2 x3 x4:Int} {l1 l2:List V}:Loop (Eb CC (a.length:Int) x1 (a.map enc) l1 x2 x3 (b.map enc) l2 x4) 0=some (if a=b then .inr ((a.length:Int),false) else .inl false):=by
 have hm:=lb
 have loop:Loop (Eb CC (a.length:Int) x1 (a.map enc) l1 x2 x3 (b.map enc) l2 x4) 0=some (if∀i,i<a.length→a.getD i aF=b.getD i aF then .inr ((a.length:Int),false) else .inl false):=by
  refine yN (good:=fun i=>a.getD i aF=b.getD i aF) a.length (fun i=>(i:Int)) (Sum.inl false:Bool ⊕ (Int × Bool)) (Sum.inr ((a.length:Int),false)) (fun i hi=> ?_) ?_
  ·simp only[Eb,Ea]
   refine bT (mO hi) (bs (ll (z:=aF) hi) (bs (ll (z:=aF) (by omega)) ?_))
   rw[bu,bE,bD,bu,bE,bD]
   refine bs (IJ _ (ha _ (nH hi)) _ (hb _ (nH (by omega)))) ?_
   by_cases h:a.getD i aF=b.getD i aF
   ·rw[aj h]
    refine bF (by rw[V.aQ,V.toInt_int,tP.2 h];rfl) ?_
    rw[bP]
    rfl
   ·rw[an h]
    refine bT ?_ rfl
    rw[V.aQ,V.toInt_int,lu]
    exact fun hx=>h (tP.1 hx)
  ·simp only[Eb,Ea]
   rw[aA,aM,eP]
 rw[loop]
 by_cases h:a=b
 ·rw[aj ((oJ he).2 h),aj h]
 ·rw[an fun hx=>h ((oJ he).1 hx),an h]
theorem ald {A B:List (List Int)} {i:Nat} (hi:i<A.length) (hiB:i<B.length) (hr:(A.getD i []).length≤maxLen) (he:(A.getD i []).length=(B.getD i []).length) {y1 y2 x1 x2 x3 x4:Int} {l1 l2:List V}:Loop (Ed CC (i:Int) y1 y2 ((A.getD i []).length:Int) x1 l1 (A.map cj) x2 x3 l2 (B.map cj) x4) 0=some (if A.getD i []=B.getD i [] then .inr (((A.getD i []).length:Int),false) else .inl false):=by
 have hm:=lb
 have loop:Loop (Ed CC (i:Int) y1 y2 ((A.getD i []).length:Int) x1 l1 (A.map cj) x2 x3 l2 (B.map cj) x4) 0=some (if∀j,j<(A.getD i []).length→(A.getD i []).getD j 0=(B.getD i []).getD j 0 then .inr (((A.getD i []).length:Int),false) else .inl false):=by
  refine yN (good:=fun j=>(A.getD i []).getD j 0=(B.getD i []).getD j 0) (A.getD i []).length (fun j=>(j:Int)) (Sum.inl false:Bool ⊕ (Int × Bool)) (Sum.inr (((A.getD i []).length:Int),false)) (fun j hj=> ?_) ?_
  ·simp only[Ed,Ec]
   refine bT (mO hj) (bs (ll (z:=[]) hi) (bs (ll (f:=fun n=>V.int .i64 n) (z:=0) hj) (bs (ll (z:=[]) hiB) (bs (ll (f:=fun n=>V.int .i64 n) (z:=0) (by omega)) ?_))))
   rw[V.toInt_int,V.toInt_int]
   by_cases h:(A.getD i []).getD j 0=(B.getD i []).getD j 0
   ·rw[aj h]
    refine bF (by rw[sH];exact h) ?_
    rw[bP]
    rfl
   ·rw[an h]
    exact bT (by rw[lu];exact h) rfl
  ·simp only[Ed,Ec]
   rw[aA,aM,eP]
 rw[loop]
 by_cases h:A.getD i []=B.getD i []
 ·rw[aj ((oJ he).2 h),aj h]
 ·rw[an fun hx=>h ((oJ he).1 hx),an h]
theorem ale {A B:List (List Int)} (hr: ∀r∈A,r.length≤maxLen) (hl:A.length≤maxLen) (he:A.length=B.length) {x1 x2 x3 x4:Int} {l1 l2:List V}:Loop (Ef CC (A.length:Int) x1 l1 (A.map cj) x2 x3 l2 (B.map cj) x4) 0=some (if A=B then .inr ((A.length:Int),false) else .inl false):=by
 have hm:=lb
 have PW: ∀r:List Int,((cj r).toList.length:Int)=(r.length:Int):=fun r=>by show (((r.map fun n=>V.int .i64 n).length:Nat):Int)=_;rw[aK]
 have loop:Loop (Ef CC (A.length:Int) x1 l1 (A.map cj) x2 x3 l2 (B.map cj) x4) 0=some (if∀i,i<A.length→A.getD i []=B.getD i [] then .inr ((A.length:Int),false) else .inl false):=by
  refine yN (good:=fun i=>A.getD i []=B.getD i []) A.length (fun i=>(i:Int)) (Sum.inl false:Bool ⊕ (Int × Bool)) (Sum.inr ((A.length:Int),false)) (fun i hi=> ?_) ?_
  ·have bY:=ll (f:=cj) (z:=[]) hi
   simp only[Ef,Ee]
   refine bT (mO hi) (bs bY (bs (ll (z:=[]) (by omega)) ?_))
   rw[PW,PW]
   by_cases hlen:(A.getD i []).length=(B.getD i []).length
   ·refine bF (by rw[sH,hlen]) (bs bY ?_)
    rw[PW]
    refine bs (ald hi (by omega) (hr _ (nH hi)) hlen) ?_
    by_cases h:A.getD i []=B.getD i []
    ·rw[aj h,aj h]
     simp only[cf,un]
     rw[bP]
     rfl
    ·rw[an h,an h]
     rfl
   ·rw[an fun h=>hlen (by rw[h])]
    exact bT (by rw[lu];omega) rfl
  ·simp only[Ef,Ee]
   rw[aA,aM,eP]
 rw[loop]
 by_cases h:A=B
 ·rw[aj ((oJ he).2 h),aj h]
 ·rw[an fun hx=>h ((oJ he).1 hx),an h]
theorem alf {a b:Dv} (ha:a.Ok) (hb:b.Ok):CC GD (gz a (gz b []))=some [.bool (decide (a=b))]:=by
 refine ak9 ?_
 unfold Yr
 obtain ⟨L,es,nx,dn⟩:=a
 obtain ⟨L',aN,DY,IF⟩:=b
 simp only[aK]
 by_cases h1:L=L'
 case neg=>
  rw[cI fun h=>h1 (Dv.mk.inj h).1]
  exact bT (by rw[lu];exact h1) rfl
 refine bF (by rw[sH];exact h1) ?_
 by_cases U:dn=IF
 case neg=>
  rw[cI fun h=>U (Dv.mk.inj h).2.2.2]
  exact bT (by rw[lu];exact U) rfl
 refine bF (by rw[sH];exact U) ?_
 by_cases h3:es.length=aN.length
 case neg=>
  rw[cI fun h=>h3 (by rw[(Dv.mk.inj h).2.1])]
  exact bT (by rw[lu];omega) rfl
 refine bF (by rw[sH,h3]) ?_
 by_cases h4:nx.length=DY.length
 case neg=>
  rw[cI fun h=>h4 (by rw[(Dv.mk.inj h).2.2.1])]
  exact bT (by rw[lu];omega) rfl
 refine bF (by rw[sH,h4]) ?_
 refine bs (alc ha.es hb.es ha.el h3) ?_
 by_cases h5:es=aN
 case neg=>
  rw[an h5,cI fun h=>h5 (Dv.mk.inj h).2.1];rfl
 rw[aj h5]
 simp only[cf,un]
 refine bs (ale ha.rl ha.nl h4) ?_
 by_cases h6:nx=DY
 ·rw[aj h6,cz (by rw[h1,U,h5,h6])];rfl
 ·rw[an h6,cI fun h=>h6 (Dv.mk.inj h).2.2.1];rfl
end Go.AM
set_option maxRecDepth 100000
namespace Go.AM
open Go.Proofs
noncomputable def Yw (C:ah) (bI:Int) (bw cP:LV) (cL:Int):Option LV:=
 bif decide (((bw.length:Int):Int)<1) then
  some [V.int .i64 8]
 else
  bif decide (((bw.length:Int):Int)>512) then
  some [V.int .i64 8]
  else
  bif decide ((cL:Int)<0) then
   some [V.int .i64 8]
  else
   bif decide ((cL:Int)>(bw.length:Int)) then
   some [V.int .i64 8]
   else
   bif ((cP.length:Int):Int) != cL then
    some [V.int .i64 8]
   else
    (bw[0]?).bind fun x1=>
    (C tt [V.int .i64 ((x1.cell 0).toInt),V.int .i64 ((x1.cell 1).toInt),.list aa ((x1.cell 2).toList),V.int .i64 bI]).bind fun r2=>
    bif (((V.nth (r2.drop 2) 0).toInt):Int) != 0 then
    some [V.int .i64 8]
    else
    (C BX [V.int .i64 ((V.nth r2 0).toInt),.list aa ((V.nth (r2.drop 3) 0).toList),.list aI ((V.nth ((r2.drop 3).drop 1) 0).toList),V.int .i64 ((V.nth (r2.drop 1) 0).toInt),V.int .i64 cL]).bind fun r3=>
    bif (((V.nth (r3.drop 2) 0).toInt):Int) != 0 then
     some [V.int .i64 8]
    else
     (C GD [V.int .i64 ((V.nth r3 0).toInt),.list aa ((V.nth (r3.drop 3) 0).toList),.list aI ((V.nth ((r3.drop 3).drop 1) 0).toList),V.int .i64 ((V.nth (r3.drop 1) 0).toInt),V.int .i64 bI,.list aa bw,.list aI cP,V.int .i64 cL]).bind fun r4=>
     bif !((V.nth r4 0).toBool) then
     some [V.int .i64 8]
     else
     some [V.int .i64 0]
theorem alg {bI:Int} {bw cP:LV} {cL:Int} {r:Option LV} (h:Yw CC bI bw cP cL=r):CC qx [V.int .i64 bI,.list aa bw,.list aI cP,V.int .i64 cL]=r:=aY (L:=aZ) av h
end Go.AM
set_option maxRecDepth 100000
namespace Go.AM
open Go.Proofs Ex
theorem PX {d:Dv} (hd:d.Ok):CC qx (gz d [])=some [.int .i64 (if gR d=true then 0 else 8)]:=by
 refine alg ?_
 unfold Yw
 simp only[aK]
 have no: ∀{r:Option (List V)},gR d=false→some [V.int .i64 8]=r→r=some [V.int .i64 (if gR d=true then 0 else 8)]:=fun h e=>by rw[←e,h];rfl
 have g:gR d=true→Gs d:=fun h=>(Il h).1
 have fl: ∀{p:Prop},(gR d=true→p)→¬p→gR d=false:=fun h hn=>by
  cases hs:gR d with
  | false=>rfl
  | true=>exact absurd (h hs) hn
 by_cases h1:(d.es.length:Int)<1
 ·exact bT (cz h1) (by rw[fl (fun h=>(g h).ne) fun bq=>bq (jY.1 (by omega))];rfl)
 refine bF (cI h1) ?_
 by_cases U:(d.es.length:Int)>512
 ·exact bT (cz U) (by rw[fl (fun h=>(g h).es.le) (by omega)];rfl)
 refine bF (cI U) ?_
 by_cases h3:d.dn<0
 ·exact bT (cz h3) (by rw[fl (fun h=>(g h).dn.1) (by omega)];rfl)
 refine bF (cI h3) ?_
 by_cases h4:d.dn>(d.es.length:Int)
 ·exact bT (cz h4) (by rw[fl (fun h=>(g h).dn.2) (by omega)];rfl)
 refine bF (cI h4) ?_
 by_cases h5:(d.nx.length:Int)=d.dn
 case neg=>exact bT (by rw[lu];exact h5) (by rw[fl (fun h=>(g h).nl) (by omega)];rfl)
 refine bF (by rw[sH];exact h5) ?_
 have hp:0<d.es.length:=by omega
 have hx:(d.es.map enc)[0]? =some (d.es.getD 0 aF).enc:=by
  rw[e7,bA hp,fA,bA hp];rfl
 have ho:=hd.es _ (nH (z:=aF) hp)
 refine bs hx ?_
 rw[bu,bE,bD]
 refine bs (Ys ho d.L) ?_
 unfold IQ
 by_cases hv:(d.es.getD 0 aF).val d.L=0
 case neg=>
  rw[an hv]
  refine bT ?_ (by rw[fl (fun h=>(gB h).2.2.1) hv];rfl)
  show ((d.es.getD 0 aF).val d.L != 0)=true
  rw[lu];exact hv
 rw[aj hv]
 have hg:=wO hv
 refine bF rfl ?_
 refine bs (Yv hg rfl d.dn (by omega)) ?_
 unfold IU
 cases IV:eN d.dn.toNat (eO (d.es.getD 0 aF) d.L) with
 | none=>
  refine bT rfl ?_
  rw[fl (fun h=>Dz _ _ _ (gB h).2.2.2.2) (by rw[IV];simp)]
  rfl
 | some t=>
  refine bF rfl ?_
  refine bs (alf (IA (uf _ _ _ hg IV).1) hd) ?_
  by_cases he:t=d
  ·refine bF (by rw[V.aQ,V.dD,cz he];rfl) ?_
   rw[W7 hv (n:=d.dn.toNat) (by rw[IV,he])]
   rfl
  ·refine bT (by rw[V.aQ,V.dD,cI he];rfl) ?_
   rw[fl (fun h=>Dz _ _ _ (gB h).2.2.2.2) (by rw[IV];simpa using he)]
   rfl
end Go.AM
set_option maxRecDepth 100000
namespace Go.AM
open Go.Proofs
noncomputable def Yx (C:ah) (bI:Int) (bw cP:LV) (cL db:Int):Option LV:=
 (C qx [V.int .i64 bI,.list aa bw,.list aI cP,V.int .i64 cL]).bind fun r1=>
 bif (((V.nth r1 0).toInt):Int) != 0 then
  some [V.int .i64 0,V.int .i64 0,V.int .i64 ((V.nth r1 0).toInt),.list aa ([]:LV),.list aI ([]:LV)]
 else
  bif decide ((db:Int)<0) then
  some [V.int .i64 0,V.int .i64 0,V.int .i64 1,.list aa ([]:LV),.list aI ([]:LV)]
  else
  (C BX [V.int .i64 bI,.list aa bw,.list aI cP,V.int .i64 cL,V.int .i64 db]).bind fun r2=>
  some [V.int .i64 ((V.nth r2 0).toInt),V.int .i64 ((V.nth (r2.drop 1) 0).toInt),V.int .i64 ((V.nth (r2.drop 2) 0).toInt),.list aa ((V.nth (r2.drop 3) 0).toList),.list aI ((V.nth ((r2.drop 3).drop 1) 0).toList)]
theorem alh {bI:Int} {bw cP:LV} {cL db:Int} {r:Option LV} (h:Yx CC bI bw cP cL db=r):CC vG [V.int .i64 bI,.list aa bw,.list aI cP,V.int .i64 cL,V.int .i64 db]=r:=aY (L:=aZ) av h
end Go.AM
set_option maxRecDepth 100000
namespace Go.AM
open Go.Proofs Ex
theorem ali {d:Dv} (hd:d.Ok) (hn:d.nx=[]) (b:Int) (hb:b≤1000000):CC vG (gz d [.int .i64 b])=some (wX (ue d b)):=by
 refine alh ?_
 unfold Yx ue
 refine bs (PX hd) ?_
 cases hs:gR d with
 | false=>exact bT rfl rfl
 | true=>
  refine bF rfl ?_
  rw[aj rfl]
  by_cases h0:b<0
  ·rw[aj h0];exact bT (cz h0) rfl
  ·rw[an h0]
   refine bF (cI h0) (bs (Yv (Il hs).1 hn b hb) ?_)
   unfold IU
   cases eN b.toNat d with
   | none=>rfl
   | some t=>rfl
end Go.AM
set_option maxRecDepth 100000
namespace Go.AM
open Go.Proofs
noncomputable def Yy (C:ah) (bI:Int) (bw cP:LV) (cL:Int):Option LV:=
 (C pq [V.int .i64 bI,.list aa bw,.list aI cP,V.int .i64 cL]).bind fun r1=>
 bif (V.nth r1 0).toBool then
  some [V.int .i64 0,V.int .i64 0,V.int .i64 8,.list jy ([]:LV),.list aI ([]:LV)]
 else
  bif !((V.nth (r1.drop 1) 0).toBool) then
  some [V.int .i64 0,V.int .i64 0,V.int .i64 8,.list jy ([]:LV),.list aI ([]:LV)]
  else
  (C tx [V.int .i64 ((V.nth ((r1.drop 1).drop 1) 0).toInt),V.int .i64 ((V.nth (((r1.drop 1).drop 1).drop 1) 0).toInt),.list aa ((V.nth (((r1.drop 1).drop 1).drop 2) 0).toList),.list aI ((V.nth ((((r1.drop 1).drop 1).drop 2).drop 1) 0).toList),.list cK ((V.nth (((((r1.drop 1).drop 1).drop 2).drop 1).drop 1) 0).toList)]).bind fun r2=>
  bif !((V.nth r2 0).toBool) then
   some [V.int .i64 0,V.int .i64 0,V.int .i64 7,.list jy ([]:LV),.list aI ([]:LV)]
  else
   (C BZ [V.int .i64 ((V.nth (r2.drop 1) 0).toInt),V.int .i64 ((V.nth ((r2.drop 1).drop 1) 0).toInt),.list aa ((V.nth (((r2.drop 1).drop 2).drop 1) 0).toList),.list aI ((V.nth ((((r2.drop 1).drop 2).drop 1).drop 1) 0).toList),.list cK ((V.nth ((r2.drop 1).drop 2) 0).toList)]).bind fun r3=>
   some [V.int .i64 ((V.nth r3 0).toInt),V.int .i64 ((V.nth (r3.drop 1) 0).toInt),V.int .i64 0,.list jy ((V.nth (((r3.drop 2).drop 2).drop 1) 0).toList),.list aI ((V.nth ((((r3.drop 2).drop 2).drop 1).drop 1) 0).toList)]
theorem alj {bI:Int} {bw cP:LV} {cL:Int} {r:Option LV} (h:Yy CC bI bw cP cL=r):CC tv [V.int .i64 bI,.list aa bw,.list aI cP,V.int .i64 cL]=r:=aY (L:=aZ) av h
end Go.AM
set_option maxRecDepth 100000
namespace Go.AM
open Go.Proofs Ex
def IW (d:Dv):Fa × Int:=if gR d=true then (if d.dn<d.es.length then (.zero,7) else (XQ d,0)) else (.zero,8)
theorem alk {d:Dv} (hd:d.Ok):CC tv (gz d [])=some (XP (IW d)):=by
 obtain ⟨h1,U⟩:=IG hd
 refine alj ?_
 unfold Yy IW
 cases hs:gR d with
 | false=>
  rcases U hs with h|⟨s,h⟩
  ·exact bs h (bT rfl rfl)
  ·exact bs h (bF rfl (bT rfl rfl))
 | true=>
  have g:=(Il hs).1
  have zK:=g.dn
  refine bs (h1 hs) (bF rfl (bF rfl (bs (pO d) ?_)))
  rw[aj rfl]
  by_cases h:d.dn<(d.es.length:Int)
  ·rw[aj h]
   refine bT ?_ rfl
   show (!(d.dn==(d.es.length:Int)))=true
   rw[kJ,l7];omega
  ·rw[an h]
   refine bF ?_ ?_
   ·show (!(d.dn==(d.es.length:Int)))=false
    rw[Bool.not_eq_false',nR];omega
   ·obtain ⟨l,a1,a2,a3,a4,a5⟩:=XR g
    refine bs a1 ?_
    rw[a2,a3,a4,a5]
    rfl
end Go.AM
set_option maxRecDepth 100000
namespace Go.AM
open Go.Proofs
noncomputable def Yz (C:ah) (ag aq:Int) (ae:LV) (c9:Int):Option LV:=
 (C GF [V.int .i64 ag,V.int .i64 aq,.list aa ae]).bind fun r1=>
 bif (V.nth r1 0).toBool then
  (C GG [V.int .i64 ag,V.int .i64 aq,.list aa ae]).bind fun r2=>
  some [.bool (decide ((((V.nth r2 0).toInt):Int)≤c9))]
 else
  some [.bool false]
theorem alm {ag aq:Int} {ae:LV} {c9:Int} {r:Option LV} (h:Yz CC ag aq ae c9=r):CC vF [V.int .i64 ag,V.int .i64 aq,.list aa ae,V.int .i64 c9]=r:=aY (L:=aZ) av h
end Go.AM
set_option maxRecDepth 100000
namespace Go.AM
open Go.Proofs Ex
theorem aln (e:Ex) (h:e.Ok) (m:Int):CC vF (bV e [.int .i64 m])=some [.bool (decide (e.val 6=0∧(e.size:Int)≤m))]:=by
 refine alm ?_
 unfold Yz
 refine bs (aeE e h) ?_
 by_cases hv:e.val 6=0
 ·refine bT (cz hv) (bs (aeH e h (kj hv).2.1) ?_)
  rw[V.aQ,V.toInt_int]
  refine congrArg (fun b=>some [V.bool b]) ?_
  rw[Al]
  exact ⟨fun x=>⟨hv,x⟩,fun x=>x.2⟩
 ·refine bF (cI hv) ?_
  rw[cI fun x=>hv x.1]
end Go.AM
set_option maxRecDepth 100000
namespace Go.AM
open Go.Proofs
noncomputable def YA (C:ah):Option LV:=
 some [V.int .i64 7,V.int .i64 0,.list aa ([.agg [V.int .i64 5,V.int .i64 0,.list aa ([.agg [V.int .i64 3,V.int .i64 0,.list aa ([]:LV)],.agg [V.int .i64 3,V.int .i64 1,.list aa ([]:LV)]]:LV)]]:LV)]
theorem alo {r:Option LV} (h:YA CC=r):CC GJ []=r:=aY (L:=aZ) av h
noncomputable def YB (C:ah):Option LV:=
 (C GJ []).bind fun r1=>
 (C GI [V.int .i64 ((V.nth r1 0).toInt),V.int .i64 ((V.nth (r1.drop 1) 0).toInt),.list aa ((V.nth (r1.drop 2) 0).toList),V.int .i64 2]).bind fun r2=>
 bif (((V.nth (r2.drop 2) 0).toInt):Int)==0 then
  bif ((((V.nth (r2.drop 3) 0).toList).length:Int):Int)==3 then
  bif decide (0<(((V.nth (r2.drop 3) 0).toList).length:Int)) then
   (((V.nth (r2.drop 3) 0).toList)[0]?).bind fun x3=>
   bif x3.toBool then
   bif decide (1<(((V.nth (r2.drop 3) 0).toList).length:Int)) then
    (((V.nth (r2.drop 3) 0).toList)[1]?).bind fun x4=>
    some [.bool (!x4.toBool)]
   else none
   else
   some [.bool false]
  else none
  else
  some [.bool false]
 else
  some [.bool false]
theorem alp {r:Option LV} (h:YB CC=r):CC fc []=r:=aY (L:=aZ) av h
end Go.AM
set_option maxRecDepth 100000
namespace Go.AM
open Go.Proofs Ex
def zZ:Ex:= .node 7 0 [.node 5 0 [.node 3 0 [],.node 3 1 []]]
theorem alq:zZ.Ok:=by
 refine .node (by omega) (by omega) (by unfold maxLen;simp) fun k hk=> ?_
 rw[eH.1 hk]
 refine .node (by omega) (by omega) (by unfold maxLen;simp) fun k hk=> ?_
 rcases dO.1 hk with rfl|hk
 ·exact .node (by omega) (by omega) (by simp) (by simp)
 ·rw[eH.1 hk]
  exact .node (by omega) (by omega) (by simp) (by simp)
theorem alr:(DT zZ 2).2=0∧(DT zZ 2).1.F=[true,false,false]:=by decide+kernel
theorem z0:CC fc []=some [.bool true]:=by
 refine alp ?_
 unfold YB
 have fN:CC GJ []=some (eM zZ):=by
  refine alo ?_
  unfold YA zZ
  simp only[eM,Ex.op,Ex.bH,Ex.kids,cM,fJ,dA]
 refine bs fN ?_
 refine bs (ajG alq 2) ?_
 obtain ⟨h1,U⟩:=alr
 generalize DT zZ 2=p at h1 U
 obtain ⟨⟨L,F,N⟩,f⟩:=p
 simp only at h1 U
 subst h1 U
 rfl
end Go.AM
set_option maxRecDepth 100000
namespace Go.AM
theorem WT.w8 {P:Program} {t:TypeId} {x:V} (hu:P.underlying t=some (.int .i64)) (h:WT P t x): ∃n:Int,x= .int .i64 n∧ -9223372036854775808≤n∧n≤9223372036854775807:=by
 obtain ⟨n,rfl,h1,U⟩:=h.en hu
 have e1:IntKind.min .i64= -9223372036854775808:=by decide
 have e2:IntKind.max .i64=9223372036854775807:=by decide
 rw[e1] at h1
 rw[e2] at U
 exact ⟨n,rfl,h1,U⟩
theorem WT.Ew {P:Program} {t:TypeId} {x:V} (hu:P.underlying t=some (.int .u8)) (h:WT P t x): ∃n:Int,x= .int .u8 n∧0≤n∧n≤255:=by
 obtain ⟨n,rfl,h1,U⟩:=h.en hu
 have e1:IntKind.min .u8=0:=by decide
 have e2:IntKind.max .u8=255:=by decide
 rw[e1] at h1
 rw[e2] at U
 exact ⟨n,rfl,h1,U⟩
end Go.AM
set_option maxRecDepth 100000
namespace Go.AM
open Go.Proofs Ex
def als (r:List Int):V:=cj r
theorem alu {t:TypeId} {x:V} (hu:Tryz.prog.underlying t=some (.slice eL)) (hi:Tryz.prog.underlying eL=some (.int .i64)) (h:fV Tryz.prog t x): ∃r:List Int,x=als r∧(r.length≤maxLen∧∀q∈r,-9223372036854775808≤q∧q≤9223372036854775807):=by
 obtain ⟨es,rfl,e1,e2⟩:=WT.Gx hu (fV.one (by simp[bM,hu]) h)
 obtain ⟨r,rfl,hr⟩:=BT (f:=fun n=>V.int .i64 n) (p:=fun q=> -9223372036854775808≤q∧q≤9223372036854775807) fun y hy=>WT.w8 hi (fV.one (by simp[bM,hi]) (e2 y hy))
 exact ⟨r,rfl,by simpa using e1,hr⟩
end Go.AM
set_option maxRecDepth 100000
namespace Go.AM
open Go.Proofs
noncomputable def IX (C:ah) (dp to:Int) (t96:Bool) (z7 Eh:Int) (bt b8:LV) {β:Type} (kr:(LV × LV)→Option β):Option β:=
 bif t96 then
  bif decide ((dp:Int)≥0) then
  bif decide ((dp:Int)<(b8.length:Int)) then
   aH b8 dp fun gv=>
   (jI Tryz.prog aI b8 [((dp:Int).toNat,0)]).bind fun km=>
   bif decide (0<(km.toList.length:Int)) then
   (jI Tryz.prog aI b8 [((dp:Int).toNat,0)]).bind fun pE=>
   (pE.toList[0]?).bind fun wq=>
   kr (bt,setRow Tryz.prog (pE.toList.set 0 (V.int .i64 to)) aI b8 [((dp:Int).toNat,0)])
   else none
  else
   kr (bt,b8)
  else
  kr (bt,b8)
 else
  bif decide ((dp:Int)≥0) then
  bif decide ((dp:Int)<(bt.length:Int)) then
   bif decide (0<(bt.length:Int)) then
   (bt[0]?).bind fun oC=>
   aH bt dp fun mK=>
   kr (ba bt dp (.agg [V.int .i64 ((oC.cell 0).toInt),V.int .i64 ((oC.cell 1).toInt),.list aa ((oC.cell 2).toList)]),b8)
   else none
  else
   kr (bt,b8)
  else
  kr (bt,b8)
noncomputable def IY (C:ah) (dp to t70:Int) (t92:Bool) (z7 Eh:Int) (bt b8:LV) {β:Type} (kr:(Int × LV × LV)→Option β):Option β:=
 bif t92 then
  kr (to,bt,b8)
 else
  IX C dp to ((t70:Int)==2) z7 Eh bt b8 (un fun (wS:LV) (PT:LV)=>
   kr (z7,wS,PT))
noncomputable def uv (C:ah) (dp to t70:Int) (t88:Bool) (z7 Eh:Int) (bt b8:LV) {β:Type} (kr:(Int × Int × LV × LV)→Option β):Option β:=
 bif t88 then
  kr (z7,to,bt,b8)
 else
  IY C dp to t70 ((t70:Int)==1) z7 Eh bt b8 (un fun (alv:Int)=>un fun (wU:LV) (alw:LV)=>
   kr (alv,Eh,wU,alw))
noncomputable def PY (C:ah):cr:=hY 1551 L4 [[4,5,0,0]] (@IX C) (hY 1487 L5 [[0,6,0,0]] (@IY C) (hY 1423 L6 [[0,0,0,0]] (@uv C) aZ))
theorem alx (C:ah):bC C (PY C) 3 (Cd 96 [1,1,1,1,1,1,1,0,1,0,1,1,1,1,1,0] [1,1,1,1,1,1,1,0,1,0,1,1,1,1,1,1] 3):=hX L4 [[4,5,0,0]] (@IX C) (a9 av) (a9 av)
theorem aly (C:ah):bC C (PY C) 3 (Cd 92 [1,1,1,1,1,1,1,0,1,0,1,1,1,0] [1,1,1,1,1,1,1,0,1,0,1,1,1,1] 3):=hX L5 [[0,6,0,0]] (@IY C) (a9 av) (a9 (bB (alx C) av))
theorem alz (C:ah):bC C (PY C) 3 (Cd 88 [1,1,1,1,1,1,1,0,1,0,1,0] [1,1,1,1,1,1,1,0,1,0,1,1] 3):=hX L6 [[0,0,0,0]] (@uv C) (a9 av) (a9 (bB (aly C) av))
noncomputable def YC (C:ah) (Ei:Int) (z8 Ej:LV) (z9 ag aq:Int) (ae:LV) (db lV dp to:Int):Option LV:=
 bif decide (((z8.length:Int):Int)≤12) then
  bif decide ((z9:Int)≤12) then
  (C rX [V.int .i64 Ei,.list aa z8,.list aI Ej,V.int .i64 z9]).bind fun r1=>
  (C qx [V.int .i64 Ei,.list aa z8,.list aI Ej,V.int .i64 z9]).bind fun r2=>
  bif (((V.nth r1 0).toInt):Int) != ((V.nth r2 0).toInt) then
   some [.bool false]
  else
   (C vF [V.int .i64 ag,V.int .i64 aq,.list aa ae,V.int .i64 10]).bind fun r3=>
   bif !((V.nth r3 0).toBool) then
   (C fc []).bind fun r4=>
   some [.bool ((V.nth r4 0).toBool)]
   else
   (C qy [V.int .i64 ag,V.int .i64 aq,.list aa ae,V.int .i64 2]).bind fun r5=>
   bif (((V.nth r5 0).toInt):Int) != 0 then
    (C fc []).bind fun r6=>
    some [.bool ((V.nth r6 0).toBool)]
   else
    (C tt [V.int .i64 ag,V.int .i64 aq,.list aa ae,V.int .i64 2]).bind fun r7=>
    bif (((V.nth (r7.drop 2) 0).toInt):Int) != 0 then
    some [.bool false]
    else
    (C vG [V.int .i64 ((V.nth r7 0).toInt),.list aa ((V.nth (r7.drop 3) 0).toList),.list aI ((V.nth ((r7.drop 3).drop 1) 0).toList),V.int .i64 ((V.nth (r7.drop 1) 0).toInt),V.int .i64 (IntKind.wrap .i64 (IntKind.wrap .u8 ((BitVec.ofInt (IntKind.bits .u8) db&&&BitVec.ofInt (IntKind.bits .u8) 7).toNat)))]).bind fun r8=>
    bif (((V.nth (r8.drop 2) 0).toInt):Int) != 0 then
     (C fc []).bind fun r9=>
     some [.bool ((V.nth r9 0).toBool)]
    else
     bif decide (((((V.nth (r8.drop 3) 0).toList).length:Int):Int)>40) then
     (C fc []).bind fun df=>
     some [.bool ((V.nth df 0).toBool)]
     else
     uv C dp to (IntKind.wrap .i64 ((BitVec.ofInt (IntKind.bits .i64) lV&&&BitVec.ofInt (IntKind.bits .i64) 3).toNat)) (((IntKind.wrap .i64 ((BitVec.ofInt (IntKind.bits .i64) lV&&&BitVec.ofInt (IntKind.bits .i64) 3).toNat)):Int)==0) ((V.nth r8 0).toInt) ((V.nth (r8.drop 1) 0).toInt) ((V.nth (r8.drop 3) 0).toList) ((V.nth ((r8.drop 3).drop 1) 0).toList) (un fun (pV:Int)=>un fun (pW:Int)=>un fun (pX:LV) (nM:LV)=>
      (C qx [V.int .i64 pV,.list aa pX,.list aI nM,V.int .i64 pW]).bind fun mS=>
      (C tu [V.int .i64 pV,.list aa pX,.list aI nM,V.int .i64 pW,V.int .i64 1]).bind fun pT=>
      (C tv [V.int .i64 pV,.list aa pX,.list aI nM,V.int .i64 pW]).bind fun w4=>
      (C rX [V.int .i64 pV,.list aa pX,.list aI nM,V.int .i64 pW]).bind fun Ek=>
      bif (((V.nth Ek 0).toInt):Int)==((V.nth mS 0).toInt) then
       bif (((V.nth mS 0).toInt):Int)==0 then
       (C fc []).bind fun mL=>
       some [.bool ((V.nth mL 0).toBool)]
       else
       bif (((V.nth (pT.drop 2) 0).toInt):Int)==((V.nth mS 0).toInt) then
        bif (((V.nth (w4.drop 2) 0).toInt):Int)==((V.nth mS 0).toInt) then
        (C tw [V.int .i64 pV,.list aa pX,.list aI nM,V.int .i64 pW]).bind fun tV=>
        bif !((V.nth tV 0).toBool) then
         (C fc []).bind fun jX=>
         some [.bool ((V.nth jX 0).toBool)]
        else
         some [.bool false]
        else
        some [.bool false]
       else
        some [.bool false]
      else
       some [.bool false])
  else
  (C vF [V.int .i64 ag,V.int .i64 aq,.list aa ae,V.int .i64 10]).bind fun Oz=>
  bif !((V.nth Oz 0).toBool) then
   (C fc []).bind fun OA=>
   some [.bool ((V.nth OA 0).toBool)]
  else
   (C qy [V.int .i64 ag,V.int .i64 aq,.list aa ae,V.int .i64 2]).bind fun mM=>
   bif (((V.nth mM 0).toInt):Int) != 0 then
   (C fc []).bind fun OB=>
   some [.bool ((V.nth OB 0).toBool)]
   else
   (C tt [V.int .i64 ag,V.int .i64 aq,.list aa ae,V.int .i64 2]).bind fun wB=>
   bif (((V.nth (wB.drop 2) 0).toInt):Int) != 0 then
    some [.bool false]
   else
    (C vG [V.int .i64 ((V.nth wB 0).toInt),.list aa ((V.nth (wB.drop 3) 0).toList),.list aI ((V.nth ((wB.drop 3).drop 1) 0).toList),V.int .i64 ((V.nth (wB.drop 1) 0).toInt),V.int .i64 (IntKind.wrap .i64 (IntKind.wrap .u8 ((BitVec.ofInt (IntKind.bits .u8) db&&&BitVec.ofInt (IntKind.bits .u8) 7).toNat)))]).bind fun Aa=>
    bif (((V.nth (Aa.drop 2) 0).toInt):Int) != 0 then
    (C fc []).bind fun r39=>
    some [.bool ((V.nth r39 0).toBool)]
    else
    bif decide (((((V.nth (Aa.drop 3) 0).toList).length:Int):Int)>40) then
     (C fc []).bind fun r40=>
     some [.bool ((V.nth r40 0).toBool)]
    else
     uv C dp to (IntKind.wrap .i64 ((BitVec.ofInt (IntKind.bits .i64) lV&&&BitVec.ofInt (IntKind.bits .i64) 3).toNat)) (((IntKind.wrap .i64 ((BitVec.ofInt (IntKind.bits .i64) lV&&&BitVec.ofInt (IntKind.bits .i64) 3).toNat)):Int)==0) ((V.nth Aa 0).toInt) ((V.nth (Aa.drop 1) 0).toInt) ((V.nth (Aa.drop 3) 0).toList) ((V.nth ((Aa.drop 3).drop 1) 0).toList) (un fun (El:Int)=>un fun (Em:Int)=>un fun (En:LV) (Eo:LV)=>
      (C qx [V.int .i64 El,.list aa En,.list aI Eo,V.int .i64 Em]).bind fun kB=>
      (C tu [V.int .i64 El,.list aa En,.list aI Eo,V.int .i64 Em,V.int .i64 1]).bind fun OC=>
      (C tv [V.int .i64 El,.list aa En,.list aI Eo,V.int .i64 Em]).bind fun OD=>
      (C rX [V.int .i64 El,.list aa En,.list aI Eo,V.int .i64 Em]).bind fun mN=>
      bif (((V.nth mN 0).toInt):Int)==((V.nth kB 0).toInt) then
      bif (((V.nth kB 0).toInt):Int)==0 then
       (C fc []).bind fun OE=>
       some [.bool ((V.nth OE 0).toBool)]
      else
       bif (((V.nth (OC.drop 2) 0).toInt):Int)==((V.nth kB 0).toInt) then
       bif (((V.nth (OD.drop 2) 0).toInt):Int)==((V.nth kB 0).toInt) then
        (C tw [V.int .i64 El,.list aa En,.list aI Eo,V.int .i64 Em]).bind fun OF=>
        bif !((V.nth OF 0).toBool) then
        (C fc []).bind fun r51=>
        some [.bool ((V.nth r51 0).toBool)]
        else
        some [.bool false]
       else
        some [.bool false]
       else
       some [.bool false]
      else
      some [.bool false])
 else
  (C vF [V.int .i64 ag,V.int .i64 aq,.list aa ae,V.int .i64 10]).bind fun r52=>
  bif !((V.nth r52 0).toBool) then
  (C fc []).bind fun r53=>
  some [.bool ((V.nth r53 0).toBool)]
  else
  (C qy [V.int .i64 ag,V.int .i64 aq,.list aa ae,V.int .i64 2]).bind fun r54=>
  bif (((V.nth r54 0).toInt):Int) != 0 then
   (C fc []).bind fun r55=>
   some [.bool ((V.nth r55 0).toBool)]
  else
   (C tt [V.int .i64 ag,V.int .i64 aq,.list aa ae,V.int .i64 2]).bind fun Ep=>
   bif (((V.nth (Ep.drop 2) 0).toInt):Int) != 0 then
   some [.bool false]
   else
   (C vG [V.int .i64 ((V.nth Ep 0).toInt),.list aa ((V.nth (Ep.drop 3) 0).toList),.list aI ((V.nth ((Ep.drop 3).drop 1) 0).toList),V.int .i64 ((V.nth (Ep.drop 1) 0).toInt),V.int .i64 (IntKind.wrap .i64 (IntKind.wrap .u8 ((BitVec.ofInt (IntKind.bits .u8) db&&&BitVec.ofInt (IntKind.bits .u8) 7).toNat)))]).bind fun Ab=>
   bif (((V.nth (Ab.drop 2) 0).toInt):Int) != 0 then
    (C fc []).bind fun r58=>
    some [.bool ((V.nth r58 0).toBool)]
   else
    bif decide (((((V.nth (Ab.drop 3) 0).toList).length:Int):Int)>40) then
    (C fc []).bind fun r59=>
    some [.bool ((V.nth r59 0).toBool)]
    else
    uv C dp to (IntKind.wrap .i64 ((BitVec.ofInt (IntKind.bits .i64) lV&&&BitVec.ofInt (IntKind.bits .i64) 3).toNat)) (((IntKind.wrap .i64 ((BitVec.ofInt (IntKind.bits .i64) lV&&&BitVec.ofInt (IntKind.bits .i64) 3).toNat)):Int)==0) ((V.nth Ab 0).toInt) ((V.nth (Ab.drop 1) 0).toInt) ((V.nth (Ab.drop 3) 0).toList) ((V.nth ((Ab.drop 3).drop 1) 0).toList) (un fun (Er:Int)=>un fun (Et:Int)=>un fun (Eu:LV) (Ev:LV)=>
     (C qx [V.int .i64 Er,.list aa Eu,.list aI Ev,V.int .i64 Et]).bind fun IZ=>
     (C tu [V.int .i64 Er,.list aa Eu,.list aI Ev,V.int .i64 Et,V.int .i64 1]).bind fun r65=>
     (C tv [V.int .i64 Er,.list aa Eu,.list aI Ev,V.int .i64 Et]).bind fun r66=>
     (C rX [V.int .i64 Er,.list aa Eu,.list aI Ev,V.int .i64 Et]).bind fun r67=>
     bif (((V.nth r67 0).toInt):Int)==((V.nth IZ 0).toInt) then
      bif (((V.nth IZ 0).toInt):Int)==0 then
      (C fc []).bind fun r68=>
      some [.bool ((V.nth r68 0).toBool)]
      else
      bif (((V.nth (r65.drop 2) 0).toInt):Int)==((V.nth IZ 0).toInt) then
       bif (((V.nth (r66.drop 2) 0).toInt):Int)==((V.nth IZ 0).toInt) then
       (C tw [V.int .i64 Er,.list aa Eu,.list aI Ev,V.int .i64 Et]).bind fun r69=>
       bif !((V.nth r69 0).toBool) then
        (C fc []).bind fun r70=>
        some [.bool ((V.nth r70 0).toBool)]
       else
        some [.bool false]
       else
       some [.bool false]
      else
       some [.bool false]
     else
      some [.bool false])
theorem alA {Ei:Int} {z8 Ej:LV} {z9 ag aq:Int} {ae:LV} {db lV dp to:Int} {r:Option LV} (h:YC CC Ei z8 Ej z9 ag aq ae db lV dp to=r):CC Lw [V.int .i64 Ei,.list aa z8,.list aI Ej,V.int .i64 z9,V.int .i64 ag,V.int .i64 aq,.list aa ae,.int .u8 db,V.int .i64 lV,V.int .i64 dp,V.int .i64 to]=r:=aY (bB (alz CC) av) h
end Go.AM
set_option maxRecDepth 100000
namespace Go.AM
open Go.Proofs Ex
theorem alB (a:Int): ∃m:Nat,m<256∧IntKind.wrap .i64 (IntKind.wrap .u8 ((BitVec.ofInt (IntKind.bits .u8) a&&&BitVec.ofInt (IntKind.bits .u8) 7).toNat))=(m:Int):=by
 refine ⟨(BitVec.ofInt (IntKind.bits .u8) a&&&BitVec.ofInt (IntKind.bits .u8) 7).toNat,?_,?_⟩
 ·exact (BitVec.ofInt (IntKind.bits .u8) a&&&BitVec.ofInt (IntKind.bits .u8) 7).isLt
 ·have h:(BitVec.ofInt (IntKind.bits .u8) a&&&BitVec.ofInt (IntKind.bits .u8) 7).toNat<256:=(BitVec.ofInt (IntKind.bits .u8) a&&&BitVec.ofInt (IntKind.bits .u8) 7).isLt
  rw[BQ (by omega) (by omega),bP]
theorem alC:Tryz.prog.underlying aI=some (.slice eL):=by kernel_rfl
theorem alD:bM Tryz.prog aI=false:=by kernel_rfl
theorem YD (r:List Int):parts Tryz.prog aI (cj r)=[cj r]:=by
 unfold parts;rw[alD];simp only[cond_false,fk,alC];rfl
theorem YE {N:List (List Int)} {i:Nat} (h:i<N.length):jI Tryz.prog aI (N.map cj) [(i,0)]=some (cj (N.getD i [])):=by
 have hx:(N.map cj)[i]? =some (cj (N.getD i [])):=by
  rw[e7,bA h,fA,bA h];rfl
 simp only[jI,hx,Option.bind_some,YD]
 rfl
theorem alE {N:List (List Int)} {i:Nat} {l:List V} (h:i<N.length):setRow Tryz.prog l aI (N.map cj) [(i,0)]=(N.map cj).set i (.list eL l):=by
 have hx:(N.map cj)[i]? =some (cj (N.getD i [])):=by
  rw[e7,bA h,fA,bA h];rfl
 simp only[setRow,hx,YD]
 rfl
theorem alF {d:Dv} (hd:d.Ok):((CC qx (gz d [])).bind fun mS=>
      (CC tu (gz d [.int .i64 1])).bind fun pT=>
      (CC tv (gz d [])).bind fun w4=>
      (CC rX (gz d [])).bind fun Ek=>
      bif (((V.nth Ek 0).toInt):Int)==((V.nth mS 0).toInt) then
       bif (((V.nth mS 0).toInt):Int)==0 then
       (CC fc []).bind fun mL=>
       some [.bool ((V.nth mL 0).toBool)]
       else
       bif (((V.nth (pT.drop 2) 0).toInt):Int)==((V.nth mS 0).toInt) then
        bif (((V.nth (w4.drop 2) 0).toInt):Int)==((V.nth mS 0).toInt) then
        (CC tw (gz d [])).bind fun tV=>
        bif !((V.nth tV 0).toBool) then
         (CC fc []).bind fun jX=>
         some [.bool ((V.nth jX 0).toBool)]
        else
         some [.bool false]
        else
        some [.bool false]
       else
        some [.bool false]
      else
       some [.bool false])=some [V.bool true]:=by
 refine bs (PX hd) (bs (aj8 hd 1 (by omega)) (bs (alk hd) (bs (X3 hd) (bT (beq_self_eq_true _) ?_))))
 cases hs:gR d with
 | true=>exact bT rfl (bs z0 rfl)
 | false=>
  have e1:ue d 1=(.zero,8):=by unfold ue;rw[hs];rfl
  have e2:IW d=(.zero,8):=by unfold IW;rw[hs];rfl
  rw[e1,e2]
  refine bF rfl (bT rfl (bT rfl (bs (aj9 hd) ?_)))
  rw[hs]
  exact bT rfl (bs z0 rfl)
theorem alG {t:Dv} (ht:t.Ok) {i:Nat} (e:Ex) (he:e.Ok):(⟨t.L,t.es.set i e,t.nx,t.dn⟩:Dv).Ok:=by
 refine ⟨fun x hx=> ?_,by show (t.es.set i e).length≤_;rw[mT];exact ht.el,ht.nl,ht.rl⟩
 rcases List.mem_or_eq_of_mem_set hx with h|h
 ·exact ht.es x h
 ·exact h▸he
theorem alH {t:Dv} (ht:t.Ok) {i:Nat} (r:List Int) (hr:r.length≤maxLen):(⟨t.L,t.es,t.nx.set i r,t.dn⟩:Dv).Ok:=by
 refine ⟨ht.es,ht.el,by show (t.nx.set i r).length≤_;rw[mT];exact ht.nl,fun x hx=> ?_⟩
 rcases List.mem_or_eq_of_mem_set hx with h|h
 ·exact ht.rl x h
 ·exact h▸hr
theorem alI {t:Dv} (hg:Gs t) (dp to w:Int) {K:Int × Int × List V × List V→Option (List V)} (hK: ∀d:Dv,d.Ok→K (d.L,d.dn,d.es.map enc,d.nx.map cj)=some [.bool true]):
  uv CC dp to w (w==0) t.L t.dn (t.es.map enc) (t.nx.map cj) K=some [.bool true]:=by
 have ht:=IA hg
 have hL:=hg.L
 have gI:=hg.nl
 have zK:=hg.dn
 unfold uv
 by_cases h0:w=0
 ·exact bT (by rw[nR];exact h0) (hK ⟨t.L,t.es,t.nx,to⟩ ⟨ht.es,ht.el,ht.nl,ht.rl⟩)
 refine bF (by rw[l7];exact h0) ?_
 unfold IY
 by_cases h1:w=1
 ·exact bT (by rw[nR];exact h1) (hK ⟨to,t.es,t.nx,t.dn⟩ ⟨ht.es,ht.el,ht.nl,ht.rl⟩)
 refine bF (by rw[l7];exact h1) ?_
 unfold IX aH
 by_cases U:w=2
 ·refine bT (by rw[nR];exact U) ?_
  rw[aA]
  by_cases h3:dp≥0
  case neg=>rw[an h3];exact hK t ht
  rw[aj h3,aA,aK]
  by_cases h4:dp<(t.nx.length:Int)
  case neg=>rw[an h4];exact hK t ht
  rw[aj h4]
  obtain ⟨i,rfl⟩: ∃i:Nat,dp=(i:Int):=⟨dp.toNat,by omega⟩
  have hi:i<t.nx.length:=by omega
  have hx:(t.nx.map cj)[i]? =some (cj (t.nx.getD i [])):=by
   rw[e7,bA hi,fA,bA hi];rfl
  have hr:=(hg.row i (by omega)).1
  have h5:0<(t.nx.getD i []).length:=by omega
  rw[Int.toNat_natCast]
  refine bT (by rw[aO];exact ⟨cz (by omega),cz (by omega)⟩) (bs hx ?_)
  refine bs (YE hi) ?_
  refine bT (cz ?_) ?_
  ·show (0:Int)<(((t.nx.getD i []).map fun n=>V.int .i64 n).length:Nat)
   rw[aK];omega
  refine bs (YE hi) ?_
  have h6:(cj (t.nx.getD i [])).toList[0]? =some (.int .i64 ((t.nx.getD i []).getD 0 0)):=by
   have:=ll (f:=fun n=>V.int .i64 n) (z:=0) h5
   rw[Lj rfl] at this
   exact this
  refine bs h6 ?_
  rw[alE hi]
  have h7:(t.nx.map cj).set i (.list eL ((cj (t.nx.getD i [])).toList.set 0 (V.int .i64 to)))=(t.nx.set i ((t.nx.getD i []).set 0 to)).map cj:=by
   rw[sG]
   congr 1
   show V.list eL (((t.nx.getD i []).map fun n=>V.int .i64 n).set 0 (V.int .i64 to))=V.list eL (((t.nx.getD i []).set 0 to).map fun n=>V.int .i64 n)
   rw[sG]
  rw[h7]
  exact hK ⟨t.L,t.es,t.nx.set i ((t.nx.getD i []).set 0 to),t.dn⟩ (alH ht _ (by rw[mT];exact ht.rl _ (nH hi)))
 ·refine bF (by rw[l7];exact U) ?_
  rw[aA]
  by_cases h3:dp≥0
  case neg=>rw[an h3];exact hK t ht
  rw[aj h3,aA,aK]
  by_cases h4:dp<(t.es.length:Int)
  case neg=>rw[an h4];exact hK t ht
  rw[aj h4]
  obtain ⟨i,rfl⟩: ∃i:Nat,dp=(i:Int):=⟨dp.toNat,by omega⟩
  have hi:i<t.es.length:=by omega
  have hx:(t.es.map enc)[i]? =some (t.es.getD i aF).enc:=by
   rw[e7,bA hi,fA,bA hi];rfl
  have h5:(t.es.map enc)[0]? =some (t.es.getD 0 aF).enc:=by
   have:=ll (f:=enc) (z:=aF) (show 0<t.es.length by omega)
   rw[Lj rfl] at this
   exact this
  refine bT (cz (by omega)) (bs h5 (bT (by rw[aO];exact ⟨cz (by omega),cz (by omega)⟩) (bs (by rw[Int.toNat_natCast];exact hx) ?_)))
  have h8:ba (t.es.map enc) (i:Int) (.agg [V.int .i64 (((t.es.getD 0 aF).enc.cell 0).toInt),V.int .i64 (((t.es.getD 0 aF).enc.cell 1).toInt),.list aa (((t.es.getD 0 aF).enc.cell 2).toList)])=(t.es.set i (t.es.getD 0 aF)).map enc:=by
   rw[bu,bE,bD,sG]
   unfold ba
   rw[Int.toNat_natCast,dA (t.es.getD 0 aF)]
  rw[h8]
  exact hK ⟨t.L,t.es.set i (t.es.getD 0 aF),t.nx,t.dn⟩ (alG ht _ (ht.es _ (nH (by omega))))
theorem alJ (e:Ex) (h:e.Ok) (a lV dp to:Int) {K:Int × Int × List V × List V→Option (List V)} (hK: ∀d:Dv,d.Ok→K (d.L,d.dn,d.es.map enc,d.nx.map cj)=some [.bool true]):
  ((CC vF (bV e [.int .i64 10])).bind fun r3=>
   bif !((V.nth r3 0).toBool) then
   (CC fc []).bind fun r4=>
   some [.bool ((V.nth r4 0).toBool)]
   else
   (CC qy (bV e [.int .i64 2])).bind fun r5=>
   bif (((V.nth r5 0).toInt):Int) != 0 then
    (CC fc []).bind fun r6=>
    some [.bool ((V.nth r6 0).toBool)]
   else
    (CC tt (bV e [.int .i64 2])).bind fun r7=>
    bif (((V.nth (r7.drop 2) 0).toInt):Int) != 0 then
    some [.bool false]
    else
    (CC vG [V.int .i64 ((V.nth r7 0).toInt),.list aa ((V.nth (r7.drop 3) 0).toList),.list aI ((V.nth ((r7.drop 3).drop 1) 0).toList),V.int .i64 ((V.nth (r7.drop 1) 0).toInt),V.int .i64 (IntKind.wrap .i64 (IntKind.wrap .u8 ((BitVec.ofInt (IntKind.bits .u8) a&&&BitVec.ofInt (IntKind.bits .u8) 7).toNat)))]).bind fun r8=>
    bif (((V.nth (r8.drop 2) 0).toInt):Int) != 0 then
     (CC fc []).bind fun r9=>
     some [.bool ((V.nth r9 0).toBool)]
    else
     bif decide (((((V.nth (r8.drop 3) 0).toList).length:Int):Int)>40) then
     (CC fc []).bind fun df=>
     some [.bool ((V.nth df 0).toBool)]
     else
     uv CC dp to (IntKind.wrap .i64 ((BitVec.ofInt (IntKind.bits .i64) lV&&&BitVec.ofInt (IntKind.bits .i64) 3).toNat)) (((IntKind.wrap .i64 ((BitVec.ofInt (IntKind.bits .i64) lV&&&BitVec.ofInt (IntKind.bits .i64) 3).toNat)):Int)==0) ((V.nth r8 0).toInt) ((V.nth (r8.drop 1) 0).toInt) ((V.nth (r8.drop 3) 0).toList) ((V.nth ((r8.drop 3).drop 1) 0).toList) K)=some [.bool true]:=by
 obtain ⟨m,hm,em⟩:=alB a
 rw[em]
 refine bs (aln e h 10) ?_
 by_cases hl:e.val 6=0∧(e.size:Int)≤10
 case neg=>exact bT (by rw[V.aQ,V.dD,cI hl];rfl) (bs z0 rfl)
 refine bF (by rw[V.aQ,V.dD,cz hl];rfl) ?_
 refine bs (Hv e h 2) ?_
 by_cases hv:e.val 2=0
 case neg=>exact bT (by rw[V.aQ,V.toInt_int,lu];exact hv) (bs z0 rfl)
 refine bF (by rw[V.aQ,V.toInt_int,hv];rfl) ?_
 have hS:=Ys h 2
 rw[show IQ e 2=(eO e 2,0) from aj hv] at hS
 refine bs hS (bF rfl ?_)
 have g0:=wO hv
 have st0:gR (eO e 2)=true:=W7 hv (n:=0) rfl
 have h1:=ali (IA g0) rfl (m:Int) (by omega)
 have sx:ue (eO e 2) (m:Int)=match eN m (eO e 2) with|none=>(.zero,3)|some t=>(t,0):=by
  unfold ue
  rw[aj st0,aM,Int.toNat_natCast]
  try rfl
 rw[sx] at h1
 refine bs h1 ?_
 cases hp:eN m (eO e 2) with
 | none=>exact bT rfl (bs z0 rfl)
 | some t=>
  have gt:=(uf _ _ _ g0 hp).1
  refine bF rfl ?_
  by_cases YF:(t.es.length:Int)>40
  ·exact bT (cz (by show (((t.es.map enc).length:Nat):Int)>40;rw[aK];exact YF)) (bs z0 rfl)
  ·refine bF (cI (by show¬(((t.es.map enc).length:Nat):Int)>40;rw[aK];exact YF)) ?_
   exact alI gt dp to _ hK
theorem YM (d:Dv) (hd:d.Ok) (e:Ex) (h:e.Ok) (a lV dp to:Int):CC Lw (gz d (bV e [.int .u8 a,.int .i64 lV,.int .i64 dp,.int .i64 to]))=some [.bool true]:=by
 refine alA ?_
 unfold YC
 have rest:=alJ e h a lV dp to (K:=un fun (pV:Int)=>un fun (pW:Int)=>un fun (pX:List V) (nM:List V)=>
      (CC qx [V.int .i64 pV,.list aa pX,.list aI nM,V.int .i64 pW]).bind fun mS=>
      (CC tu [V.int .i64 pV,.list aa pX,.list aI nM,V.int .i64 pW,V.int .i64 1]).bind fun pT=>
      (CC tv [V.int .i64 pV,.list aa pX,.list aI nM,V.int .i64 pW]).bind fun w4=>
      (CC rX [V.int .i64 pV,.list aa pX,.list aI nM,V.int .i64 pW]).bind fun Ek=>
      bif (((V.nth Ek 0).toInt):Int)==((V.nth mS 0).toInt) then
       bif (((V.nth mS 0).toInt):Int)==0 then
       (CC fc []).bind fun mL=>
       some [.bool ((V.nth mL 0).toBool)]
       else
       bif (((V.nth (pT.drop 2) 0).toInt):Int)==((V.nth mS 0).toInt) then
        bif (((V.nth (w4.drop 2) 0).toInt):Int)==((V.nth mS 0).toInt) then
        (CC tw [V.int .i64 pV,.list aa pX,.list aI nM,V.int .i64 pW]).bind fun tV=>
        bif !((V.nth tV 0).toBool) then
         (CC fc []).bind fun jX=>
         some [.bool ((V.nth jX 0).toBool)]
        else
         some [.bool false]
        else
        some [.bool false]
       else
        some [.bool false]
      else
       some [.bool false]) (fun d hd=>alF hd)
 rw[aA]
 by_cases h1:((d.es.map enc).length:Int)≤12
 case neg=>rw[an h1];exact rest
 rw[aj h1,aA]
 by_cases U:d.dn≤12
 case neg=>rw[an U];exact rest
 rw[aj U]
 refine bs (X3 hd) (bs (PX hd) (bF (bne_self_eq_false _) ?_))
 exact rest
def Dv.alK (d:Dv):V:= .agg (gz d [])
theorem alL {x:V} (h:fV Tryz.prog aI x): ∃r:List Int,x=cj r∧r.length≤maxLen:=by
 obtain ⟨r,h1,U,_⟩:=alu (t:=aI) (by kernel_rfl) (by kernel_rfl) h
 exact ⟨r,h1,U⟩
theorem YK {t t1 t2:TypeId} {x:V} (ha:bM Tryz.prog t=true) (he:aW Tryz.prog t=[eL,t1,t2,eL]) (h1:Tryz.prog.underlying t1=some (.slice aa)) (U:Tryz.prog.underlying t2=some (.slice aI)) (h:fV Tryz.prog t x): ∃d:Dv,x=d.alK∧d.Ok:=by
 obtain ⟨xs,rfl,hl,hx⟩:=fV.kb ha h
 rw[he] at hl hx
 match xs,hl,hx with
 | [a,b,c,d],_,hx=>
  have hu:Tryz.prog.underlying eL=some (.int .i64):=by kernel_rfl
  obtain ⟨L,rfl,_⟩:=WT.w8 hu (hx 0 eL a rfl rfl)
  obtain ⟨n,rfl,_⟩:=WT.w8 hu (hx 3 eL d rfl rfl)
  obtain ⟨es,rfl,e1,e2⟩:=WT.Gx h1 (hx 1 t1 b rfl rfl)
  obtain ⟨E,rfl,hE⟩:=BT (f:=enc) (p:=Ex.Ok) fun y hy=>I5 _ y (w7 _) (e2 y hy)
  obtain ⟨ns,rfl,n1,n2⟩:=WT.Gx U (hx 2 t2 c rfl rfl)
  obtain ⟨N,rfl,hN⟩:=BT (f:=cj) (p:=fun r=>r.length≤maxLen) fun y hy=>alL (n2 y hy)
  exact ⟨⟨L,E,N,n⟩,rfl,⟨hE,by simpa using e1,by simpa using n1,hN⟩⟩
end Go.AM
