/-
  Functions of the program, lifted to plain data.
-/
import Derived.Sort.AssemblyPlain
import Derived.Test.YtmcdbnalaobmpaaDoorP4
set_option linter.unusedVariables false
set_option linter.unusedSimpArgs false
set_option maxRecDepth 100000
namespace Go.AM
section
variable {β:Type} [DecidableEq β]
def aW (g:Nat→β):Nat→List β
 | 0=>[]
 | n+1=>di (aW g n) (g n)
theorem Oc (g:Nat→β): ∀n,(aW g n).Nodup
 | 0=>List.nodup_nil
 | n+1=>VR (Oc g n)
theorem jo {g:Nat→β} {v:β}: ∀{n},v∈aW g n↔∃q,q<n∧g q=v
 | 0=>⟨fun h=>(by cases h),fun ⟨q,h,_⟩=>(by omega)⟩
 | n+1=>by
  have ih:=jo (g:=g) (v:=v) (n:=n)
  rw[aW]
  unfold di
  constructor
  ·intro h
   split at h
   ·obtain ⟨q,h1,h2⟩:=ih.1 h;exact ⟨q,by omega,h2⟩
   ·rcases er.1 h with h|h
    ·obtain ⟨q,h1,h2⟩:=ih.1 h;exact ⟨q,by omega,h2⟩
    ·exact ⟨n,by omega,(gY.1 h).symm⟩
  ·rintro ⟨q,h1,h2⟩
   rcases eg q n with c|c
   ·exact (HY (aW g n) (g n)).subset (ih.2 ⟨q,c,h2⟩)
   ·obtain rfl:q=n:=by omega
    rw[←h2];exact yC
theorem agy {g:Nat→β} {m n:Nat} (h:m≤n):aW g m <+: aW g n:=by
 induction n with
 | zero=>rw[wW.1 h];exact oM _
 | succ n ih=>
  rcases eg m (n+1) with c|c
  ·exact (ih (by omega)).trans (HY _ _)
  ·rw[show m=n+1 by omega];exact oM _
theorem sB (g:Nat→β): ∀n,(aW g n).length≤n
 | 0=>aI _
 | n+1=>by
  have:=sB g n
  rw[aW,tY]
  split<;>omega
def cz (g:Nat→β) (n q:Nat):Nat:=(aW g n).idxOf (g q)
theorem CY {g:Nat→β} {n q:Nat} (h:q<n):cz g n q<(aW g n).length:=uG (jo.2 ⟨q,h,rfl⟩)
theorem CZ {g:Nat→β} {n p q:Nat} (hp:p<n) (hq:q<n):cz g n p=cz g n q↔g p=g q:=by
 constructor
 ·intro h
  have h1:=List.getElem_idxOf (CY (g:=g) hp)
  have h2:=List.getElem_idxOf (CY (g:=g) hq)
  rw[←h1,←h2]
  exact getElem_congr_idx h
 ·intro h;unfold cz;rw[h]
theorem C2 {g:Nat→β} {m n q:Nat} (h:q<m) (hm:m≤n):cz g n q=cz g m q:=yF (agy hm) (jo.2 ⟨q,h,rfl⟩)
theorem Od {g:Nat→β} {q:Nat} (h:g q∈aW g q):aW g (q+1)=aW g q:=by rw[aW];unfold di;rw[af h]
theorem Oe {g:Nat→β} {q:Nat} (h:g q∉aW g q):aW g (q+1)=aW g q++[g q]:=by rw[aW];unfold di;rw[ah h]
theorem WV {g:Nat→β} {n q:Nat} (hq:q<n) (h:g q∈aW g q):cz g n q=(aW g q).idxOf (g q):=by
 rw[C2 (show q<q+1 by omega) (by omega)]
 unfold cz
 rw[Od h]
theorem WW {g:Nat→β} {n q:Nat} (hq:q<n) (h:g q∉aW g q):cz g n q=(aW g q).length:=by
 rw[C2 (show q<q+1 by omega) (by omega)]
 unfold cz
 rw[Oe h,uF,ah h]
 simp
def py (p:Nat→Nat) (n:Nat):Prop:= ∀m,m≤n→aW p m=List.range (aW p m).length
theorem WX (g:Nat→β) (n:Nat): ∀m,m≤n→aW (cz g n) m=List.range (aW g m).length:=by
 intro m
 induction m with
 | zero=>intro _;rfl
 | succ m ih=>
  intro hm
  have ih:=ih (by omega)
  have e1:cz g n m=cz g (m+1) m:=C2 (by omega) hm
  have e2:cz g (m+1) m=if g m∈aW g m then (aW g m).idxOf (g m) else (aW g m).length:=by
   unfold cz
   rw[aW]
   unfold di
   split
   ·rfl
   ·rename_i h
    rw[uF,ah h]
    simp
  rw[aW,ih,aW,tY]
  unfold di
  by_cases h:g m∈aW g m
  ·have:=uG h
   rw[af h] at e2
   rw[af h,af (by rw[e1,e2];exact gG.2 this)]
  ·rw[ah h] at e2
   rw[ah h,ah (by rw[e1,e2];simp),e1,e2,ta]
theorem Of (g:Nat→β) (n:Nat):py (cz g n) n:=fun m hm=>by
 rw[WX g n m hm,E2]
theorem Og {γ:Type} [DecidableEq γ] {f:Nat→β} {c:Nat→γ} {n:Nat} (hr: ∀q q',q<n→q'<n→f q=f q'→c q=c q') (hl:(aW f n).length≤(aW c n).length):
  ∀q q',q<n→q'<n→c q=c q'→f q=f q':=by
 intro q q' hq cj hc
 refine Decidable.byContradiction fun hf=> ?_
 have rep: ∀v∈aW f n,∃q,q<n∧f q=v:=fun v hv=>jo.1 hv
 have: ∃R:β→Nat,∀v∈aW f n,R v<n∧f (R v)=v:=by
  classical
  refine ⟨fun v=>if h:v∈aW f n then Classical.choose (rep v h) else 0,fun v hv=> ?_⟩
  simp only[hv,oI]
  exact Classical.choose_spec (rep v hv)
 obtain ⟨R,hR⟩:=this
 have iI:aW c n ⊆ ((aW f n).filter fun v=>decide (v≠f q')).map fun v=>c (R v):=by
  intro u hu
  obtain ⟨s,hs,rfl⟩:=jo.1 hu
  by_cases h:f s=f q'
  ·refine fg.2 ⟨f q,List.mem_filter.2 ⟨jo.2 ⟨q,hq,rfl⟩,bO hf⟩,?_⟩
   have h1:=hR (f q) (jo.2 ⟨q,hq,rfl⟩)
   rw[hr _ _ h1.1 hq h1.2,hc,hr _ _ hs cj h]
  ·refine fg.2 ⟨f s,List.mem_filter.2 ⟨jo.2 ⟨s,hs,rfl⟩,bO h⟩,?_⟩
   have h1:=hR (f s) (jo.2 ⟨s,hs,rfl⟩)
   exact hr _ _ h1.1 hs h1.2
 have h1:=List.Nodup.length_le_of_subset (Oc c n) iI
 rw[cM] at h1
 have h2:((aW f n).filter fun v=>decide (v≠f q')).length<(aW f n).length:=by
  have hm:f q'∈aW f n:=jo.2 ⟨q',cj,rfl⟩
  have aY:=List.length_filter_lt_length_iff_exists (p:=fun v=>decide (v≠f q')) (l:=aW f n)
  exact aY.2 ⟨f q',hm,by simp⟩
 omega
theorem WY {γ:Type} [DecidableEq γ] {f:Nat→β} {c:Nat→γ} {n:Nat} (hr: ∀q q',q<n→q'<n→f q=f q'→c q=c q'):(aW c n).length≤(aW f n).length:=by
 rcases eg (aW f n).length (aW c n).length with h|h
 ·have:=Og hr (by omega)
  have rep: ∀v∈aW f n,∃q,q<n∧f q=v:=fun v hv=>jo.1 hv
  have: ∃R:β→Nat,∀v∈aW f n,R v<n∧f (R v)=v:=by
   classical
   refine ⟨fun v=>if h:v∈aW f n then Classical.choose (rep v h) else 0,fun v hv=> ?_⟩
   simp only[hv,oI]
   exact Classical.choose_spec (rep v hv)
  obtain ⟨R,hR⟩:=this
  have iI:aW c n ⊆ (aW f n).map fun v=>c (R v):=by
   intro u hu
   obtain ⟨s,hs,rfl⟩:=jo.1 hu
   have h1:=hR (f s) (jo.2 ⟨s,hs,rfl⟩)
   exact fg.2 ⟨f s,jo.2 ⟨s,hs,rfl⟩,hr _ _ h1.1 hs h1.2⟩
  have h1:=List.Nodup.length_le_of_subset (Oc c n) iI
  rw[cM] at h1
  omega
 ·exact h
theorem agz {γ:Type} [DecidableEq γ] {f:Nat→β} {c:Nat→γ} {n:Nat} (h: ∀q q',q<n→q'<n→(f q=f q'↔c q=c q')): ∀q,q<n→cz f n q=cz c n q:=by
 have key: ∀m,m≤n→(aW f m).length=(aW c m).length∧∀q,q<m→cz f m q=cz c m q:=by
  intro m
  induction m with
  | zero=>intro _;exact ⟨rfl,fun q hq=>by omega⟩
  | succ m ih=>
   intro hm
   obtain ⟨i1,i2⟩:=ih (by omega)
   have p7:f m∈aW f m↔c m∈aW c m:=by
    rw[jo,jo]
    exact ⟨fun ⟨q,h1,h2⟩=>⟨q,h1,(h q m (by omega) (by omega)).1 h2⟩,fun ⟨q,h1,h2⟩=>⟨q,h1,(h q m (by omega) (by omega)).2 h2⟩⟩
   refine ⟨?_,fun q hq=> ?_⟩
   ·rw[aW,aW,tY,tY,i1]
    by_cases hx:f m∈aW f m
    ·rw[af hx,af (p7.1 hx)]
    ·rw[ah hx,ah fun h=>hx (p7.2 h)]
   ·rcases eg q m with c1|c1
    ·exact (C2 (g:=f) c1 (by omega)).trans ((i2 q c1).trans (C2 (g:=c) c1 (by omega)).symm)
    ·obtain rfl:q=m:=by omega
     unfold cz
     rw[aW,aW]
     by_cases hx:f q∈aW f q
     ·obtain ⟨r,h1,h2⟩:=jo.1 hx
      have h3:=(h r q (by omega) (by omega)).1 h2
      have:=i2 r h1
      unfold cz at this
      unfold di
      rw[af hx,af (p7.1 hx),←h2,←h3,this]
     ·unfold di
      rw[ah hx,ah fun h=>hx (p7.2 h),uF,uF,ah hx,ah fun h=>hx (p7.2 h)]
      simp[i1]
 exact (key n (aI _)).2
end
namespace Da
structure Part (a:Da) (c:Nat→Nat):Prop where
 coarse: ∀q q',q<a.n→q'<a.n→a.oo q a q'→c q=c q'
 fin: ∀q q',q<a.n→q'<a.n→c q=c q'→a.fin q=a.fin q'
def sig (a:Da) (c:Nat→Nat) (q:Nat):List Nat:=c q::(List.range a.L).map fun x=>c (a.nx q x)
theorem wa {a:Da} {c:Nat→Nat} {q q':Nat}:a.sig c q=a.sig c q'↔c q=c q'∧∀x,x<a.L→c (a.nx q x)=c (a.nx q' x):=by
 unfold sig
 rw[zU]
 refine and_congr Iff.rfl ⟨fun h x hx=> ?_,fun h=>nE fun x hx=>h x (gG.1 hx)⟩
 have:=congrArg (fun l=>l.getD x 0) h
 simpa[hx] using this
def Is (a:Da) (c f:Nat→Nat):Prop:= ∀q q',q<a.n→q'<a.n→(f q=f q'↔a.sig c q=a.sig c q')
theorem Is.part {a:Da} {c f:Nat→Nat} (h:a.Is c f) (ha:a.Ok) (hc:a.Part c):a.Part f where
 coarse q q' hq cj he:=(h q q' hq cj).2 (wa.2 ⟨hc.coarse q q' hq cj he,fun x hx=>hc.coarse _ _ (ha.dH hq hx) (ha.dH cj hx) (he.nx hx)⟩)
 fin q q' hq cj he:=hc.fin q q' hq cj (wa.1 ((h q q' hq cj).1 he)).1
def wc (a:Da) (p:Nat→Nat):Prop:=(∀q q',q<a.n→q'<a.n→(p q=p q'↔a.oo q a q'))∧py p a.n
theorem Part.WZ {a:Da} {c:Nat→Nat} (hc:a.Part c) (ha:a.Ok) (hs: ∀q q',q<a.n→q'<a.n→c q=c q'→a.sig c q=a.sig c q'): ∀q q',q<a.n→q'<a.n→(c q=c q'↔a.oo q a q'):=by
 intro q q' hq cj
 refine ⟨fun h w=> ?_,hc.coarse q q' hq cj⟩
 induction w generalizing q q' with
 | nil=>intro _;rw[oq,oq];exact hc.fin q q' hq cj h
 | cons x w ih=>
  intro hw
  rw[yA,yA]
  exact ih _ _ (ha.dH hq hw.head) (ha.dH cj hw.head) ((wa.1 (hs q q' hq cj h)).2 x hw.head) hw.tail
def eR (p:Nat→Nat):Nat→List Nat
 | 0=>[]
 | n+1=>if p n∈aW p n then eR p n else eR p n++[n]
theorem It {p:Nat→Nat}: ∀n,(eR p n).map p=aW p n
 | 0=>rfl
 | n+1=>by
  rw[eR,aW]
  unfold di
  split
  ·exact It n
  ·rw[s8,It n];rfl
theorem C3 {p:Nat→Nat} {n:Nat}:(eR p n).length=(aW p n).length:=by rw[←It,cM]
theorem we {p:Nat→Nat}: ∀{n q},q∈eR p n→q<n
 | 0,q,h=>by cases h
 | n+1,q,h=>by
  rw[eR] at h
  split at h
  ·have:=we h;omega
  ·rcases er.1 h with h|h
   ·have:=we h;omega
   ·rw[gY.1 h];omega
theorem yL {p:Nat→Nat} {n:Nat} (ho:py p n) {c:Nat} (hc:c<(eR p n).length):p (eR p n)[c]=c:=by
 have h1:=ho n (aI _)
 have h2:((eR p n).map p)[c]? =some c:=by rw[It,h1,z0 (by rw[C3] at hc;exact hc)]
 rw[eM,bI hc] at h2
 exact cX h2
theorem C4 {p:Nat→Nat} {n q:Nat} (ho:py p n) (hq:q<n):p q<(eR p n).length:=by
 have h1:p q∈aW p n:=jo.2 ⟨q,hq,rfl⟩
 rw[ho n (aI _),gG] at h1
 rw[C3];exact h1
def quo (a:Da) (p:Nat→Nat):Da where
 L:=a.L
 st:=p a.st
 F:=(eR p a.n).map a.fin
 N:=(eR p a.n).map fun q=>tab a.L fun x=>p (a.nx q x)
theorem sC {a:Da} {p:Nat→Nat}:(a.quo p).n=(eR p a.n).length:=by simp[quo,n]
theorem W0 {a:Da} {p:Nat→Nat} {c:Nat} (hc:c<(eR p a.n).length):(a.quo p).fin c=a.fin (eR p a.n)[c]:=by
 show ((eR p a.n).map a.fin).getD c false=_
 rw[fI (by simpa using hc),List.getElem_map]
theorem W3 {a:Da} {p:Nat→Nat} {c x:Nat} (hc:c<(eR p a.n).length) (hx:x<a.L):(a.quo p).nx c x=p (a.nx (eR p a.n)[c] x):=by
 show (((eR p a.n).map fun q=>tab a.L fun x=>p (a.nx q x)).getD c []).getD x 0=_
 rw[fI (l:=(eR p a.n).map fun q=>tab a.L fun x=>p (a.nx q x)) (by simpa using hc),List.getElem_map,sw hx]
section
variable {a:Da} {p:Nat→Nat} (ha:a.Ok) (hp:a.wc p)
include ha hp
theorem Oh:(a.quo p).Ok where
 l1:=ha.l1
 l6:=ha.l6
 nN:=by rw[sC];simp[quo]
 row r hr:=by
  rw[sC]
  obtain ⟨q,hq,rfl⟩:=fg.1 (show r∈(eR p a.n).map _ from hr)
  refine ⟨by simp[quo],fun s hs=> ?_⟩
  obtain ⟨x,hx,rfl⟩:=qy.1 hs
  exact C4 hp.2 (ha.dH (we hq) hx)
 s:=by rw[sC];exact C4 hp.2 ha.s
 eE:=by
  rw[sC,C3]
  have:=sB p a.n
  have:=ha.eE
  omega
theorem Iu: ∀(w:List Nat) {q:Nat},q<a.n→WL a.L w→(a.quo p).acc (p q) w=a.acc q w
 | [],q,hq,_=>by
  have hc:=C4 hp.2 hq
  rw[oq,oq,W0 hc]
  have h1:=(hp.1 _ _ (we (eU hc)) hq).1 (yL hp.2 hc)
  have:=h1 [] WL.nil
  rwa [oq,oq] at this
 | x::w,q,hq,hw=>by
  have hc:=C4 hp.2 hq
  have hr:=we (eU hc)
  have h1:=(hp.1 _ _ hr hq).1 (yL hp.2 hc)
  have h2:=(hp.1 _ _ (ha.dH hr hw.head) (ha.dH hq hw.head)).2 (h1.nx hw.head)
  rw[yA,yA,W3 hc hw.head,h2]
  exact Iu w (ha.dH hq hw.head) hw.tail
theorem agA: ∀c d,c<(a.quo p).n→d<(a.quo p).n→(a.quo p).oo c (a.quo p) d→c=d:=by
 intro c d hc hd he
 rw[sC] at hc hd
 have r1:=we (eU hc)
 have r2:=we (eU hd)
 rw[←yL hp.2 hc,←yL hp.2 hd]
 refine (hp.1 _ _ r1 r2).2 fun w hw=> ?_
 rw[←Iu ha hp w r1 hw,←Iu ha hp w r2 hw,yL hp.2 hc,yL hp.2 hd]
 exact he w hw
theorem W4:(a.quo p).trim.Canon a.L (a.acc a.st):=by
 have h:=(Oh ha hp).afp (agA ha hp)
 exact ⟨h.ok,h.hL,h.st,h.num,h.red,fun w hw=>(h.lB w hw).trans (Iu ha hp w ha.s hw)⟩
end
end Da
end Go.AM
set_option maxRecDepth 100000
namespace Go.AM
open Go.Proofs
noncomputable abbrev ua:Code:=cN Tryd.prog (aD.bd 109)
noncomputable def C6 (C:ae) (t24:List V) (t25 a8 bj:Int) (bz br:List V) (count t26:Int) (dc:List V) {β:Type} (kn:(Int × Int × (List V))→Option β) (kr:(Int × Int × Bool × (List V))→Option β):Option β:=
 bif decide ((t26:Int)<t25) then
  (idx t24 t26).bind fun x2=>
  (bz[0]?).bind fun x3=>
  bif !(x2.toBool==x3.toBool) then
  bif (decide (0≤t26))&&(decide (t26<(dc.length:Int))) then
   (dc[(t26:Int).toNat]?).bind fun x4=>
   kn (2,IntKind.wrap .i64 (t26+1),dc.set ((t26:Int).toNat) (.int .i64 1))
  else none
  else
  kn (count,IntKind.wrap .i64 (t26+1),dc)
 else
  kr (count,t26,decide ((t26:Int)<t25),dc)
noncomputable def Iv (C:ae) (t24:List V) (t25 a8 bj:Int) (bz br:List V):(Int × Int × (List V))→Option ((Int × Int × (List V)) ⊕ (Int × Int × Bool × (List V))):=un fun count=>un fun t26 dc=>C6 C t24 t25 a8 bj bz br count t26 dc (fun y=>some (.inl y)) (fun r=>some (.inr r))
noncomputable def C7 (C:ae) (count q:Int) (t46:List V) (t47 t48:Int) (t58:List V) (t59 a8 bj:Int) (bz br dc numbers nj:List V) (t60 Iw Ix Iy Iz IA IB IC:Int) {β:Type} (kn:(Int × Int × Int × Int × Int × Int × Int × Int)→Option β) (kr:(Int × Bool × Int × Int × Int × Int × Int × Int × Int)→Option β):Option β:=
 bif decide ((t60:Int)<t59) then
  (idx t58 t60).bind fun gy=>
  bif (decide (0≤gy.toInt))&&(decide (gy.toInt<(dc.length:Int))) then
  (dc[(gy.toInt:Int).toNat]?).bind fun qv=>
  bif (decide (0≤(IntKind.wrap .i64 (1+t60))))&&(decide ((IntKind.wrap .i64 (1+t60))<7)) then
   bif Nat.blt (0+(((IntKind.wrap .i64 (1+t60):Int).toNat)*1)) 7 then
   kn (IntKind.wrap .i64 (t60+1),bif Nat.beq (0+(((IntKind.wrap .i64 (1+t60):Int).toNat)*1)) 0 then qv.toInt else Iw,bif Nat.beq (0+(((IntKind.wrap .i64 (1+t60):Int).toNat)*1)) 1 then qv.toInt else Ix,bif Nat.beq (0+(((IntKind.wrap .i64 (1+t60):Int).toNat)*1)) 2 then qv.toInt else Iy,bif Nat.beq (0+(((IntKind.wrap .i64 (1+t60):Int).toNat)*1)) 3 then qv.toInt else Iz,bif Nat.beq (0+(((IntKind.wrap .i64 (1+t60):Int).toNat)*1)) 4 then qv.toInt else IA,bif Nat.beq (0+(((IntKind.wrap .i64 (1+t60):Int).toNat)*1)) 5 then qv.toInt else IB,bif Nat.beq (0+(((IntKind.wrap .i64 (1+t60):Int).toNat)*1)) 6 then qv.toInt else IC)
   else none
  else none
  else none
 else
  kr (t60,decide ((t60:Int)<t59),Iw,Ix,Iy,Iz,IA,IB,IC)
noncomputable def ID (C:ae) (count q:Int) (t46:List V) (t47 t48:Int) (t58:List V) (t59 a8 bj:Int) (bz br dc numbers nj:List V):(Int × Int × Int × Int × Int × Int × Int × Int)→Option ((Int × Int × Int × Int × Int × Int × Int × Int) ⊕ (Int × Bool × Int × Int × Int × Int × Int × Int × Int)):=un fun t60=>un fun Iw=>un fun Ix=>un fun Iy=>un fun Iz=>un fun IA=>un fun IB IC=>C7 C count q t46 t47 t48 t58 t59 a8 bj bz br dc numbers nj t60 Iw Ix Iy Iz IA IB IC (fun y=>some (.inl y)) (fun r=>some (.inr r))
noncomputable def C8 (C:ae) (count:Int) (t46:List V) (t47 a8 bj:Int) (bz br dc:List V) (t48:Int) (numbers nj:List V) {β:Type} (kn:(Int × (List V) × (List V))→Option β) (kr:(Int × Bool × (List V) × (List V))→Option β):Option β:=
 bif decide ((t48:Int)<t47) then
  (idx t46 t48).bind fun x9=>
  bif (decide (0≤t48))&&(decide (t48<(dc.length:Int))) then
  (dc[(t48:Int).toNat]?).bind fun jn=>
  (Loop (ID C count t48 t46 t47 t48 x9.toList (x9.toList.length:Int) a8 bj bz br dc numbers nj) (0,jn.toInt,0,0,0,0,0,0)).bind (un fun (su:Int)=>un fun (v7:Bool)=>un fun (C9:Int)=>un fun (Db:Int)=>un fun (Dc:Int)=>un fun (Dd:Int)=>un fun (De:Int)=>un fun (Dg:Int) (Dh:Int)=>
   bif (dq .i64 C9&&(dq .i64 Db&&(dq .i64 Dc&&(dq .i64 Dd&&(dq .i64 De&&(dq .i64 Dg&&(dq .i64 Dh&&true)))))))&&true then
    bif !(gO (.agg [.int .i64 C9,.int .i64 Db,.int .i64 Dc,.int .i64 Dd,.int .i64 De,.int .i64 Dg,.int .i64 Dh]) numbers) then
    bif (dq .i64 C9&&(dq .i64 Db&&(dq .i64 Dc&&(dq .i64 Dd&&(dq .i64 De&&(dq .i64 Dg&&(dq .i64 Dh&&true)))))))&&true then
     bif (decide (0≤t48))&&(decide (t48<(nj.length:Int))) then
     (nj[(t48:Int).toNat]?).bind fun x22=>
     kn (IntKind.wrap .i64 (t48+1),fQ (.agg [.int .i64 C9,.int .i64 Db,.int .i64 Dc,.int .i64 Dd,.int .i64 De,.int .i64 Dg,.int .i64 Dh]) (.int .i64 (numbers.length:Int)) numbers,nj.set ((t48:Int).toNat) (.int .i64 (numbers.length:Int)))
     else none
    else none
    else
    bif (decide (0≤t48))&&(decide (t48<(nj.length:Int))) then
     (nj[(t48:Int).toNat]?).bind fun mg=>
     kn (IntKind.wrap .i64 (t48+1),numbers,nj.set ((t48:Int).toNat) (.int .i64 ((jA (.agg [.int .i64 C9,.int .i64 Db,.int .i64 Dc,.int .i64 Dd,.int .i64 De,.int .i64 Dg,.int .i64 Dh]) numbers (.int .i64 0)).toInt)))
    else none
   else none)
  else none
 else
  kr (t48,decide ((t48:Int)<t47),numbers,nj)
noncomputable def IE (C:ae) (count:Int) (t46:List V) (t47 a8 bj:Int) (bz br dc:List V):(Int × (List V) × (List V))→Option ((Int × (List V) × (List V)) ⊕ (Int × Bool × (List V) × (List V))):=un fun t48=>un fun numbers nj=>C8 C count t46 t47 a8 bj bz br dc t48 numbers nj (fun y=>some (.inl y)) (fun r=>some (.inr r))
noncomputable def Di (C:ae) (a8 bj:Int) (bz br:List V) (count:Int) (dc:List V) {β:Type} (kn:(Int × (List V))→Option β) (kr:(List V)→Option β):Option β:=
 bif (decide (0≤(dc.length:Int)))&&((decide ((dc.length:Int)≤(dc.length:Int)))&&(Nat.ble ((((dc.length:Int):Int).toNat)*8) ct)) then
  (Loop (IE C count br (br.length:Int) a8 bj bz br dc) (0,([]:List V),List.replicate (((dc.length:Int):Int).toNat) (V.int .i64 0))).bind (un fun (aqd:Int)=>un fun (agB:Bool)=>un fun (W5:List V) (W6:List V)=>
   bif ((W5.length:Int):Int)==count then
   kr W6
   else
   kn ((W5.length:Int),W6))
 else none
noncomputable def Dj (C:ae) (a8 bj:Int) (bz br:List V):(Int × (List V))→Option ((Int × (List V)) ⊕ (List V)):=un fun count dc=>Di C a8 bj bz br count dc (fun y=>some (.inl y)) (fun r=>some (.inr r))
noncomputable def W7 (C:ae):cH:=fun β n ds k=>
 bif Nat.beq n 81 then bE MX [true,false,false,true,false,false,false,false,true] [[0,2,3,0,0,5,6,7,8,0]] (@C6 C) ds k else
 bif Nat.beq n 273 then bE MY [false,false,false,false,false,false,false,true,false,false,false,false,false,false,false,true,true,true,true,true,true,true] [[1,2,3,4,5,6,7,0,0,9,10,11,12,13,14,15,0,0,0,0,0,0,0]] (@C7 C) ds k else
 bif Nat.beq n 209 then bE MZ [false,false,false,true,false,false,false,false,false,true,true] [[1,2,3,0,0,5,6,7,8,9,0,0]] (@C8 C) ds k else
 bif Nat.beq n 161 then bE M0 [true,false,false,false,false,true] [[0]] (@Di C) ds k else
 none
abbrev IF (C:ae) (b:cE):Prop:=cF Tryd.prog aD C (W7 C) 109 (cQ Tryd.prog (aD.bd 109)) (aD.sin 109).bf.length b
theorem agC (C:ae):IF C (.loop (av [1,1,1,0,1,0,0] ua)):=
 bH MX [true,false,false,true,false,false,false,false,true] [[0,2,3,0,0,5,6,7,8,0]] (@C6 C) (by kernel_rfl) (bc (bs:=[]) (by kernel_rfl) aC) (fun ds=>by kernel_rfl) (fun i x=>by kernel_rfl) (fun i x β k=>by kernel_rfl) (fun β ds k=>by kernel_rfl)
theorem agD (C:ae):IF C (.loop (av [1,1,1,1,0,0,0,1,1,0,1,0,0,1,1,0,0,1,1,0,1,0,0] ua)):=
 bH MY [false,false,false,false,false,false,false,true,false,false,false,false,false,false,false,true,true,true,true,true,true,true] [[1,2,3,4,5,6,7,0,0,9,10,11,12,13,14,15,0,0,0,0,0,0,0]] (@C7 C) (by kernel_rfl) (bc (bs:=[]) (by kernel_rfl) aC) (fun ds=>by kernel_rfl) (fun i x=>by kernel_rfl) (fun i x β k=>by kernel_rfl) (fun β ds k=>by kernel_rfl)
theorem agE (C:ae):IF C (.loop (av [1,1,1,1,0,0,0,1,1,0,1,0,0] ua)):=
 bH MZ [false,false,false,true,false,false,false,false,false,true,true] [[1,2,3,0,0,5,6,7,8,9,0,0]] (@C8 C) (by kernel_rfl) (bc (bs:=[.loop (av [1,1,1,1,0,0,0,1,1,0,1,0,0,1,1,0,0,1,1,0,1,0,0] ua)]) (by kernel_rfl) (bt (agD C) aC)) (fun ds=>by kernel_rfl) (fun i x=>by kernel_rfl) (fun i x β k=>by kernel_rfl) (fun β ds k=>by kernel_rfl)
theorem agF (C:ae):IF C (.loop (av [1,1,1,1,0,0] ua)):=
 bH M0 [true,false,false,false,false,true] [[0]] (@Di C) (by kernel_rfl) (bc (bs:=[.loop (av [1,1,1,1,0,0,0,1,1,0,1,0,0] ua)]) (by kernel_rfl) (bt (agE C) aC)) (fun ds=>by kernel_rfl) (fun i x=>by kernel_rfl) (fun i x β k=>by kernel_rfl) (fun β ds k=>by kernel_rfl)
noncomputable def W8 (C:ae) (aw az:Int) (ar ay:List V):Option (List V):=
 (C rW [.int .i64 aw,.int .i64 az,.list ag ar,.list ai ay]).bind fun r1=>
 bif (((V.nth r1 0).toInt):Int) != 0 then
  some [.list bD ([]:List V)]
 else
  bif (decide (0≤(ar.length:Int)))&&((decide ((ar.length:Int)≤(ar.length:Int)))&&(Nat.ble ((((ar.length:Int):Int).toNat)*8) ct)) then
  (Loop (Iv C ar (ar.length:Int) aw az ar ay) (1,0,List.replicate (((ar.length:Int):Int).toNat) (V.int .i64 0))).bind (un fun (agG:Int)=>un fun (sg:Int)=>un fun (m8:Bool) (agH:List V)=>
   (Loop (Dj C aw az ar ay) (agG,agH)).bind (fun (agI:List V)=>
    some [.list bD agI]))
  else none
theorem agJ {aw az:Int} {ar ay:List V} {r:Option (List V)} (h:W8 CC aw az ar ay=r):CC Hg [.int .i64 aw,.int .i64 az,.list ag ar,.list ai ay]=r:=
 bC (key:=109) (L:=W7 CC) (bs:=[.loop (av [1,1,1,0,1,0,0] ua),.loop (av [1,1,1,1,0,0] ua)]) (by kernel_rfl) (bt (agC CC) (bt (agF CC) aC)) (bw (by kernel_rfl) h)
def dI (a:Da) (c:Nat→Nat) (q t j:Nat):Nat:=if j=0 then c q else if j≤t then c (a.nx q (j-1)) else 0
def dB (a:Da) (c:Nat→Nat) (q:Nat):List Nat:=tab 7 (dI a c q a.L)
def Dk (s:List Nat):V:= .agg (s.map nV)
theorem W9: ∀s t:List Nat,pR (s.map nV) (t.map nV)=decide (s=t)
 | [],[]=>rfl
 | [],b::t=>rfl
 | a::s,[]=>rfl
 | a::s,b::t=>by
  simp only[jw,pR]
  rw[W9 s t,lM]
  simp only[nV,tk]
  simp only[aS,beq_iff_eq,dv,zU]
  exact and_congr (by omega) Iff.rfl
theorem Oi (s t:List Nat):jz (Dk s) (Dk t)=decide (s=t):=W9 s t
theorem Oj {a:Da} (h:a.Ok) {c:Nat→Nat} {q q':Nat}:dB a c q=dB a c q'↔a.sig c q=a.sig c q':=by
 rw[Da.wa]
 have h6:=h.l6
 constructor
 ·intro e
  have g:=fun j (hj:j<7)=>congrArg (fun l:List Nat=>l.getD j 0) e
  unfold dB at g
  refine ⟨?_,fun x hx=> ?_⟩
  ·have:=g 0 (by omega)
   rw[sw (by omega),sw (by omega)] at this
   exact this
  ·have:=g (x+1) (by omega)
   rw[sw (by omega),sw (by omega)] at this
   unfold dI at this
   rwa [ah (by omega),af (by omega),ah (by omega),af (by omega)] at this
 ·rintro ⟨h1,h2⟩
  refine ep fun j _=> ?_
  unfold dI
  by_cases hj:j=0
  ·rw[af hj,af hj,h1]
  ·rw[ah hj,ah hj]
   by_cases cv:j≤a.L
   ·rw[af cv,af cv,h2 (j-1) (by omega)]
   ·rw[ah cv,ah cv]
theorem wg {a:Da} {c:Nat→Nat} {q t:Nat} (j:Nat):(bif Nat.beq (0+(t+1)*1) j then ((c (a.nx q t):Nat):Int) else ((dI a c q t j:Nat):Int))=((dI a c q (t+1) j:Nat):Int):=by
 by_cases hj:t+1=j
 ·rw[show Nat.beq (0+(t+1)*1) j=true from by rw[aX];omega,cond_true,←hj]
  unfold dI
  rw[ah (by omega),af (by omega)]
  rfl
 ·rw[show Nat.beq (0+(t+1)*1) j=false from by rw[←Bool.not_eq_true,aX];omega,cond_false]
  unfold dI
  by_cases h0:j=0
  ·rw[af h0,af h0]
  ·rw[ah h0,ah h0]
   by_cases h1:j≤t
   ·rw[af h1,af (by omega)]
   ·rw[ah h1,ah (by omega)]
def cV (n:Nat) (c:Nat→Nat):List V:=tab n fun q=>nV (c q)
section
variable {a:Da} (h:a.Ok) {c:Nat→Nat}
include h
theorem agK {q:Nat} (hq:q<a.n) {k1 k2 k3 k4 k5 k6:Int} {l1 l2 l3 l4 l5:List V}:
  Loop (ID CC k1 k2 l1 k3 k4 (tab a.L fun x=>iV (a.nx q x)) ((tab a.L fun x=>iV (a.nx q x)).length:Int) k5 k6 l2 l3 (cV a.n c) l4 l5) (0,(c q:Int),0,0,0,0,0,0)=
   some ((a.L:Int),false,(dI a c q a.L 0:Int),(dI a c q a.L 1:Int),(dI a c q a.L 2:Int),(dI a c q a.L 3:Int),(dI a c q a.L 4:Int),(dI a c q a.L 5:Int),(dI a c q a.L 6:Int)):=by
 have h6:=h.l6
 rw[eo]
 refine (fZ a.L (fun t=>((t:Int),(dI a c q t 0:Int),(dI a c q t 1:Int),(dI a c q t 2:Int),(dI a c q t 3:Int),(dI a c q t 4:Int),(dI a c q t 5:Int),(dI a c q t 6:Int))) _ (fun t ht=> ?_) ?_)
 ·simp only[ID,C7,un]
  refine bT (dA ht) ?_
  refine bs (ou ht) ?_
  refine (dN (i:=a.nx q t) (h.dH hq ht)).trans ?_
  have w:IntKind.wrap .i64 (1+(t:Int))=((t+1:Nat):Int):=by rw[wrap64 (by omega) (by omega)];omega
  rw[w,da (by omega),Int.toNat_natCast]
  refine bT (gZ.2 ⟨bO (by omega),bO (by omega)⟩) ?_
  refine bT (show Nat.ble (0+(t+1)*1+1) 7=true by rw[eL];omega) ?_
  show some (Sum.inl _)=some (Sum.inl _)
  refine congrArg (fun x=>some (Sum.inl x)) ?_
  exact jx rfl (jx (wg 0) (jx (wg 1) (jx (wg 2) (jx (wg 3) (jx (wg 4) (jx (wg 5) (wg 6)))))))
 ·simp only[ID,C7,un]
  refine bF (bJ (aI _)) ?_
  rw[bJ (aI _)]
theorem agL (hc: ∀q,q<a.n→c q≤1000) {q:Nat} (hq:q<a.n) (j:Nat):dI a c q a.L j≤1000:=by
 unfold dI
 split
 ·exact hc q hq
 ·split
  ·exact hc _ (h.dH hq (by omega))
  ·omega
theorem agM (hc: ∀q,q<a.n→c q≤1000) {k1 k2 k3:Int} {l2:List V}:
  Loop (IE CC k1 a.cB (a.cB.length:Int) k2 k3 l2 a.cB (cV a.n c)) (0,([]:List V),List.replicate ((((cV a.n c).length:Int):Int).toNat) (V.int .i64 0))=
   some ((a.n:Int),false,ga Dk 0 (aW (dB a c) a.n),cV a.n (cz (dB a c) a.n)):=by
 have hm:=h.eE
 have hl:(cV a.n c).length=a.n:=by simp[cV]
 rw[hl,Int.toNat_natCast,pt,Da.N4]
 refine (fZ a.n (fun i=>((i:Int),ga Dk 0 (aW (dB a c) i),(tab a.n fun q=>if q<i then nV (cz (dB a c) a.n q) else nV 0))) _ (fun q hq=> ?_) ?_)
 ·have hle:=sB (dB a c) q
  simp only[IE,C8,un]
  refine bT (dA hq) ?_
  refine bs (Da.ot hq) ?_
  refine (dN (i:=q) hq).trans ?_
  simp only[pw]
  refine bs (agK h hq) ?_
  have k0:=agL h hc hq
  have kk: ∀j,dq .i64 ((dI a c q a.L j:Nat):Int)=true:=fun j=>Ig (by have:=k0 j;omega)
  have Xa:((dq .i64 ((dI a c q a.L 0:Nat):Int)&&(dq .i64 ((dI a c q a.L 1:Nat):Int)&&(dq .i64 ((dI a c q a.L 2:Nat):Int)&&(dq .i64 ((dI a c q a.L 3:Nat):Int)&&(dq .i64 ((dI a c q a.L 4:Nat):Int)&&(dq .i64 ((dI a c q a.L 5:Nat):Int)&&(dq .i64 ((dI a c q a.L 6:Nat):Int)&&true)))))))&&true)=true:=by
   simp only[kk,zV]
  refine bT Xa ?_
  have ek:V.agg [V.int .i64 (dI a c q a.L 0:Int),V.int .i64 (dI a c q a.L 1:Int),V.int .i64 (dI a c q a.L 2:Int),V.int .i64 (dI a c q a.L 3:Int),V.int .i64 (dI a c q a.L 4:Int),V.int .i64 (dI a c q a.L 5:Int),V.int .i64 (dI a c q a.L 6:Int)]=Dk (dB a c q):=rfl
  simp only[un,ek]
  have e1:=CK Oi (dB a c q) (aW (dB a c) q) 0
  have fin: ∀v,v=nV (cz (dB a c) a.n q)→(tab a.n fun j=>if j<q then nV (cz (dB a c) a.n j) else nV 0).set q v=tab a.n fun j=>if j<q+1 then nV (cz (dB a c) a.n j) else nV 0:=by
   rintro v rfl
   rw[pr]
   refine ep fun j _=> ?_
   by_cases hj:j=q
   ·rw[af hj,af (by omega),hj]
   ·rw[ah hj]
    by_cases cv:j<q
    ·rw[af cv,af (by omega)]
    ·rw[ah cv,ah (by omega)]
  rw[da (by omega)]
  by_cases hx:dB a c q∈aW (dB a c) q
  ·refine bF (by rw[e1];simpa using hx) ?_
   refine (dN hq).trans ?_
   have e2:=CL Oi (dB a c q) (.int .i64 0) (aW (dB a c) q) 0 hx
   rw[dV,←WV hq hx] at e2
   rw[e2,V.toInt_int,Int.toNat_natCast,show (V.int .i64 (cz (dB a c) a.n q:Int))=nV (cz (dB a c) a.n q) from rfl,fin _ rfl,Od hx]
  ·refine bT (by rw[e1];simpa using hx) ?_
   refine bT Xa ?_
   refine (dN hq).trans ?_
   have e2:=CM Oi (dB a c q) (aW (dB a c) q) 0 hx
   rw[dV] at e2
   rw[yI,e2,Int.toNat_natCast,←WW hq hx,show (V.int .i64 (cz (dB a c) a.n q:Int))=nV (cz (dB a c) a.n q) from rfl,fin _ rfl,Oe hx]
 ·simp only[IE,C8,un]
  refine bF (bJ (aI _)) ?_
  rw[bJ (aI _)]
  have:(tab a.n fun q=>if q<a.n then nV (cz (dB a c) a.n q) else nV 0)=cV a.n (cz (dB a c) a.n):=ep fun q hq=>af hq
  rw[this]
def lI (a:Da):Nat→Nat
 | 0=>1
 | i+1=>if a.fin i=a.fin 0 then lI a i else 2
def fx (a:Da) (q:Nat):Nat:=if a.fin q=a.fin 0 then 0 else 1
theorem agN:(aW (fx a) a.n).length=lI a a.n:=by
 have key: ∀m,(aW (fx a) (m+1)=[0]∧lI a (m+1)=1)∨(aW (fx a) (m+1)=[0,1]∧lI a (m+1)=2):=by
  intro m
  induction m with
  | zero=>left;simp[aW,di,fx,lI]
  | succ m ih=>
   rw[aW,lI]
   unfold fx di
   by_cases hf:a.fin (m+1)=a.fin 0
   ·rw[af hf,af hf]
    rcases ih with ⟨i1,i2⟩|⟨i1,i2⟩
    ·left;refine ⟨?_,i2⟩;unfold fx at i1;rw[i1];rfl
    ·right;refine ⟨?_,i2⟩;unfold fx at i1;rw[i1];rfl
   ·rw[ah hf,ah hf]
    rcases ih with ⟨i1,i2⟩|⟨i1,i2⟩
    ·right;refine ⟨?_,rfl⟩;unfold fx at i1;rw[i1];rfl
    ·right;refine ⟨?_,rfl⟩;unfold fx at i1;rw[i1];rfl
 have hs:=h.s
 obtain ⟨m,hm⟩: ∃m,a.n=m+1:=⟨a.n-1,by omega⟩
 rw[hm]
 rcases key m with ⟨e1,e2⟩|⟨e1,e2⟩<;>rw[e1,e2]<;>rfl
theorem agO {k2 k3:Int} {l2:List V}:Loop (Iv CC a.c8 (a.c8.length:Int) k2 k3 a.c8 l2) (1,0,List.replicate ((((a.c8.length:Nat):Int)).toNat) (V.int .i64 0))=some ((lI a a.n:Int),(a.n:Int),false,cV a.n (fx a)):=by
 have hm:=h.eE
 have hs:=h.s
 rw[Da.lE,Int.toNat_natCast,pt]
 refine (fZ a.n (fun i=>((lI a i:Int),(i:Int),(tab a.n fun q=>if q<i then nV (fx a q) else nV 0))) _ (fun q hq=> ?_) ?_)
 ·simp only[Iv,C6,un]
  refine bT (dA hq) ?_
  refine bs (Da.yH hq) ?_
  refine bs (a:= .bool (a.fin 0)) (by unfold Da.c8;exact NX (by omega)) ?_
  rw[da (by omega)]
  have fin:(tab a.n fun j=>if j<q then nV (fx a j) else nV 0).set q (nV (fx a q))=tab a.n fun j=>if j<q+1 then nV (fx a j) else nV 0:=by
   rw[pr]
   refine ep fun j _=> ?_
   by_cases hj:j=q
   ·rw[af hj,af (by omega),hj]
   ·rw[ah hj]
    by_cases cv:j<q
    ·rw[af cv,af (by omega)]
    ·rw[ah cv,ah (by omega)]
  simp only[V.j8]
  by_cases hf:a.fin q=a.fin 0
  ·refine bF (by rw[hf];simp) ?_
   have e:lI a (q+1)=lI a q:=by rw[lI,af hf]
   have e2:(tab a.n fun j=>if j<q then nV (fx a j) else nV 0)=tab a.n fun j=>if j<q+1 then nV (fx a j) else nV 0:=ep fun j _=>by
    by_cases hj:j=q
    ·rw[ah (by omega),af (by omega),hj];unfold fx;rw[af hf]
    ·by_cases cv:j<q
     ·rw[af cv,af (by omega)]
     ·rw[ah cv,ah (by omega)]
   rw[e,e2]
  ·refine bT (by simpa using hf) ?_
   refine (dN hq).trans ?_
   have e:lI a (q+1)=2:=by rw[lI,ah hf]
   have e3:fx a q=1:=by unfold fx;rw[ah hf]
   rw[e3] at fin
   rw[e,Int.toNat_natCast,show (V.int .i64 1)=nV 1 from rfl,fin];rfl
 ·simp only[Iv,C6,un]
  refine bF (bJ (aI _)) ?_
  rw[bJ (aI _)]
  have:(tab a.n fun q=>if q<a.n then nV (fx a q) else nV 0)=cV a.n (fx a):=ep fun q hq=>af hq
  rw[this]
theorem agP {k2 k3:Int} {l2:List V}: ∃p,Loop (Dj CC k2 k3 l2 a.cB) ((lI a a.n:Int),cV a.n (fx a))=some (cV a.n p)∧a.wc p∧∀q,q<a.n→p q≤1000:=by
 have hm:=h.eE
 have:=Ly (step:=Dj CC k2 k3 l2 a.cB)
  (fun x=> ∃c,x=(((aW c a.n).length:Int),cV a.n c)∧a.Part c∧∀q,q<a.n→c q≤1000)
  (fun x=>a.n-x.1.toNat)
  (fun r=> ∃p,r=cV a.n p∧a.wc p∧∀q,q<a.n→p q≤1000) (fun x hx=> ?_) ((lI a a.n:Int),cV a.n (fx a)) ⟨fx a,by rw[agN h],⟨?_,?_⟩,?_⟩
 ·obtain ⟨r,h1,p,rfl,h2,h3⟩:=this
  exact ⟨p,h1,h2,h3⟩
 ·obtain ⟨c,rfl,hp,hc⟩:=hx
  have hl:(cV a.n c).length=a.n:=by simp[cV]
  have ow:a.Is c (cz (dB a c) a.n):=fun q q' hq cj=>(CZ hq cj).trans (Oj h)
  have hle:=sB (dB a c) a.n
  have hb: ∀q,q<a.n→cz (dB a c) a.n q≤1000:=fun q hq=>by have:=CY (g:=dB a c) hq;omega
  have wh: ∀q q',q<a.n→q'<a.n→dB a c q=dB a c q'→c q=c q':=fun q q' hq cj e=>(Da.wa.1 ((Oj h).1 e)).1
  have agQ:=WY wh
  have cr:=agM h hc (k1:=((aW c a.n).length:Int)) (k2:=k2) (k3:=k3) (l2:=l2)
  by_cases he:(aW (dB a c) a.n).length=(aW c a.n).length
  ·right
   refine ⟨_,?_,cz (dB a c) a.n,rfl,⟨fun q q' hq cj=> ?_,Of _ _⟩,hb⟩
   ·simp only[Dj,Di,un]
    refine bT (by rw[hl];exact ng (by omega) (by omega)) ?_
    refine bs cr ?_
    refine bT (by rw[yI];simp[he]) ?_
    rfl
   ·have b6:=Og wh (by omega)
    rw[CZ hq cj,←hp.WZ h (fun s s' hs tH e=>(Oj h).1 (b6 s s' hs tH e)) q q' hq cj]
    exact ⟨wh q q' hq cj,b6 q q' hq cj⟩
  ·left
   have e2:(aW (cz (dB a c) a.n) a.n).length=(aW (dB a c) a.n).length:=by rw[WX _ _ _ (aI _),E2]
   refine ⟨(((aW (dB a c) a.n).length:Int),cV a.n (cz (dB a c) a.n)),?_,⟨cz (dB a c) a.n,by rw[e2],ow.part h hp,hb⟩,?_⟩
   ·simp only[Dj,Di,un]
    refine bT (by rw[hl];exact ng (by omega) (by omega)) ?_
    refine bs cr ?_
    refine bF (by rw[yI];simpa using fun e=>he (by omega)) ?_
    rw[yI]
   ·simp only[Int.toNat_natCast]
    omega
 ·intro q q' hq cj he
  have:=he [] WL.nil
  rw[Da.oq,Da.oq] at this
  unfold fx;rw[this]
 ·intro q q' hq cj he
  unfold fx at he
  split at he<;>split at he
  ·rename_i h1 h2;rw[h1,h2]
  ·omega
  ·omega
  ·rename_i h1 h2
   revert h1 h2
   cases a.fin q<;>cases a.fin q'<;>cases a.fin 0<;>simp
 ·intro q _
  unfold fx;split<;>omega
theorem agR: ∃p,CC Hg (dt a)=some [.list bD (cV a.n p)]∧a.wc p∧∀q,q<a.n→p q≤1000:=by
 have hm:=h.eE
 obtain ⟨p,h1,h2,h3⟩:=agP h (k2:=(a.L:Int)) (k3:=(a.st:Int)) (l2:=a.c8)
 refine ⟨p,agJ ?_,h2,h3⟩
 unfold W8
 refine bs (CI h) ?_
 refine bF rfl ?_
 refine bT (by rw[Da.lE];exact ng (by omega) (by omega)) ?_
 refine bs (agO h) ?_
 refine bs h1 ?_
 rfl
end
noncomputable abbrev yM:Code:=cN Tryd.prog (aD.bd 86)
noncomputable def Dl (C:ae) (q t29 t30:Int) (t47:List V) (t48 a8 bj:Int) (bz br:List V) (cS cU yN yO:Int) (places dc:List V) (yP yQ:Int) (cf cb db gz nk Xb:List V) (t49:Int) (rows:List V) {β:Type} (kn:(Int × (List V))→Option β) (kr:(Int × Bool × (List V))→Option β):Option β:=
 bif decide ((t49:Int)<t48) then
  (idx t47 t49).bind fun x5=>
  bif (decide (0≤x5.toInt))&&(decide (x5.toInt<(dc.length:Int))) then
  (dc[(x5.toInt:Int).toNat]?).bind fun x6=>
  bif (decide (0≤t49))&&(decide (t49<(rows.length:Int))) then
   (rows[(t49:Int).toNat]?).bind fun x7=>
   kn (IntKind.wrap .i64 (t49+1),rows.set ((t49:Int).toNat) (.int .i64 x6.toInt))
  else none
  else none
 else
  kr (t49,decide ((t49:Int)<t48),rows)
noncomputable def IG (C:ae) (q t29 t30:Int) (t47:List V) (t48 a8 bj:Int) (bz br:List V) (cS cU yN yO:Int) (places dc:List V) (yP yQ:Int) (cf cb db gz nk Xb:List V):(Int × (List V))→Option ((Int × (List V)) ⊕ (Int × Bool × (List V))):=un fun t49 rows=>Dl C q t29 t30 t47 t48 a8 bj bz br cS cU yN yO places dc yP yQ cf cb db gz nk Xb t49 rows (fun y=>some (.inl y)) (fun r=>some (.inr r))
noncomputable def Dm (C:ae) (t29 a8 bj:Int) (bz br:List V) (cS cU yN yO:Int) (places dc:List V) (yP yQ:Int) (cx cf cb db:List V) (t30:Int) (gz nk:List V) {β:Type} (kn:(Int × (List V) × (List V))→Option β) (kr:(Int × Bool × (List V) × (List V))→Option β):Option β:=
 bif decide ((t30:Int)<t29) then
  bif (decide (0≤t30))&&(decide (t30<(dc.length:Int))) then
  (dc[(t30:Int).toNat]?).bind fun x3=>
  bif decide ((x3.toInt:Int)<(gz.length:Int)) then
   kn (IntKind.wrap .i64 (t30+1),gz,nk)
  else
   bif (decide (0≤a8))&&((decide (a8≤a8))&&(Nat.ble (((a8:Int).toNat)*8) ct)) then
   bif (decide (0≤t30))&&(decide (t30<(db.length:Int))) then
    (db[(t30:Int).toNat]?).bind fun x4=>
    (Loop (IG C t30 t29 t30 x4.toList (x4.toList.length:Int) a8 bj bz br cS cU yN yO places dc yP yQ cx cf cb db gz nk) (0,List.replicate ((a8:Int).toNat) (V.int .i64 0))).bind (un fun (tW:Int)=>un fun (v8:Bool) (Xc:List V)=>
     bif (decide (0≤t30))&&(decide (t30<(cb.length:Int))) then
     (cb[(t30:Int).toNat]?).bind fun gy=>
     bif Nat.ble ((gz.length+([.bool gy.toBool]:List V).length)*1) ct then
      bif Nat.ble ((nk.length+([.list bD Xc]:List V).length)*24) ct then
      kn (IntKind.wrap .i64 (t30+1),gz++([.bool gy.toBool]:List V),nk++([.list bD Xc]:List V))
      else none
     else none
     else none)
   else none
   else none
  else none
 else
  kr (t30,decide ((t30:Int)<t29),gz,nk)
noncomputable def IH (C:ae) (t29 a8 bj:Int) (bz br:List V) (cS cU yN yO:Int) (places dc:List V) (yP yQ:Int) (cx cf cb db:List V):(Int × (List V) × (List V))→Option ((Int × (List V) × (List V)) ⊕ (Int × Bool × (List V) × (List V))):=un fun t30=>un fun gz nk=>Dm C t29 a8 bj bz br cS cU yN yO places dc yP yQ cx cf cb db t30 gz nk (fun y=>some (.inl y)) (fun r=>some (.inr r))
noncomputable def Dn (C:ae) (t88 cS cU:Int) (dc:List V) (fy fA:Int) (numbers II cx cf cb db:List V) (t89:Int) (ov:List V) {β:Type} (kn:(Int × (List V))→Option β) (kr:(Int × Bool × (List V))→Option β):Option β:=
 bif decide ((t89:Int)<t88) then
  bif (decide (0≤t89))&&(decide (t89<(II.length:Int))) then
  (II[(t89:Int).toNat]?).bind fun nn=>
  bif (decide (0≤t89))&&(decide (t89<(ov.length:Int))) then
   (ov[(t89:Int).toNat]?).bind fun Dp=>
   bif decide ((nn.toInt:Int)≥0) then
   bif (decide (0≤nn.toInt))&&(decide (nn.toInt<(dc.length:Int))) then
    (dc[(nn.toInt:Int).toNat]?).bind fun mh=>
    bif (decide (0≤mh.toInt))&&(decide (mh.toInt<(numbers.length:Int))) then
    (numbers[(mh.toInt:Int).toNat]?).bind fun sD=>
    bif (decide (0≤t89))&&(decide (t89<((ov.set ((t89:Int).toNat) (.int .i64 (-1))).length:Int))) then
     ((ov.set ((t89:Int).toNat) (.int .i64 (-1)))[(t89:Int).toNat]?).bind fun Dq=>
     kn (IntKind.wrap .i64 (t89+1),(ov.set ((t89:Int).toNat) (.int .i64 (-1))).set ((t89:Int).toNat) (.int .i64 sD.toInt))
    else none
    else none
   else none
   else
   kn (IntKind.wrap .i64 (t89+1),ov.set ((t89:Int).toNat) (.int .i64 (-1)))
  else none
  else none
 else
  kr (t89,decide ((t89:Int)<t88),ov)
noncomputable def IJ (C:ae) (t88 cS cU:Int) (dc:List V) (fy fA:Int) (numbers II cx cf cb db:List V):(Int × (List V))→Option ((Int × (List V)) ⊕ (Int × Bool × (List V))):=un fun t89 ov=>Dn C t88 cS cU dc fy fA numbers II cx cf cb db t89 ov (fun y=>some (.inl y)) (fun r=>some (.inr r))
noncomputable def Xd (C:ae):cH:=fun β n ds k=>
 bif Nat.beq n 161 then bE MK [false,false,false,false,false,true,false,false,false,false,false,false,false,false,false,false,false,false,true,false,false,false,false,false,false] [[1,2,3,4,5,0,0,7,8,9,10,11,12,13,14,15,16,17,18,0,20,21,22,23,24,25]] (@Dl C) ds k else
 bif Nat.beq n 81 then bE ML [false,true,false,false,false,false,false,false,false,false,false,false,false,false,false,false,false,false,true,true] [[1,0,0,3,4,5,6,7,8,9,10,11,12,13,14,15,16,17,18,0,0]] (@Dm C) ds k else
 bif Nat.beq n 321 then bE MM [false,true,false,false,false,false,false,false,true,false,false,false,false,false] [[1,0,0,3,4,5,6,7,8,0,10,11,12,13,14]] (@Dn C) ds k else
 none
abbrev Ol (C:ae) (b:cE):Prop:=cF Tryd.prog aD C (Xd C) 86 (cQ Tryd.prog (aD.bd 86)) (aD.sin 86).bf.length b
theorem agS (C:ae):Ol C (.loop (av [1,1,1,1,0,1,0,0,1,1,0,0,1,1,1,0,1,0,0] yM)):=
 bH MK [false,false,false,false,false,true,false,false,false,false,false,false,false,false,false,false,false,false,true,false,false,false,false,false,false] [[1,2,3,4,5,0,0,7,8,9,10,11,12,13,14,15,16,17,18,0,20,21,22,23,24,25]] (@Dl C) (by kernel_rfl) (bc (bs:=[]) (by kernel_rfl) aC) (fun ds=>by kernel_rfl) (fun i x=>by kernel_rfl) (fun i x β k=>by kernel_rfl) (fun β ds k=>by kernel_rfl)
theorem agT (C:ae):Ol C (.loop (av [1,1,1,1,0,1,0,0] yM)):=
 bH ML [false,true,false,false,false,false,false,false,false,false,false,false,false,false,false,false,false,false,true,true] [[1,0,0,3,4,5,6,7,8,9,10,11,12,13,14,15,16,17,18,0,0]] (@Dm C) (by kernel_rfl) (bc (bs:=[.loop (av [1,1,1,1,0,1,0,0,1,1,0,0,1,1,1,0,1,0,0] yM)]) (by kernel_rfl) (bt (agS C) aC)) (fun ds=>by kernel_rfl) (fun i x=>by kernel_rfl) (fun i x β k=>by kernel_rfl) (fun β ds k=>by kernel_rfl)
theorem agU (C:ae):Ol C (.loop (av [1,1,1,1,1,1,1,0,1,0,0] yM)):=
 bH MM [false,true,false,false,false,false,false,false,true,false,false,false,false,false] [[1,0,0,3,4,5,6,7,8,0,10,11,12,13,14]] (@Dn C) (by kernel_rfl) (bc (bs:=[]) (by kernel_rfl) aC) (fun ds=>by kernel_rfl) (fun i x=>by kernel_rfl) (fun i x β k=>by kernel_rfl) (fun β ds k=>by kernel_rfl)
noncomputable def Xe (C:ae) (aw az:Int) (ar ay:List V):Option (List V):=
 (C yj [.int .i64 aw,.int .i64 az,.list ag ar,.list ai ay]).bind fun r1=>
 (C Hg [.int .i64 ((V.nth r1 0).toInt),.int .i64 ((V.nth (r1.drop 1) 0).toInt),.list ag ((V.nth (r1.drop 2) 0).toList),.list ai ((V.nth ((r1.drop 2).drop 1) 0).toList)]).bind fun r2=>
 (Loop (IH C (((V.nth r2 0).toList).length:Int) aw az ar ay 0 0 ((V.nth r1 0).toInt) ((V.nth (r1.drop 1) 0).toInt) ((V.nth (((r1.drop 2).drop 1).drop 1) 0).toList) ((V.nth r2 0).toList) aw 0 ([]:List V) ([]:List V) ((V.nth (r1.drop 2) 0).toList) ((V.nth ((r1.drop 2).drop 1) 0).toList)) (0,([]:List V),([]:List V))).bind (un fun (yR:Int)=>un fun (su:Bool)=>un fun (CR:List V) (Cp:List V)=>
  (C yj [.int .i64 aw,.int .i64 0,.list ag CR,.list ai Cp]).bind fun mi=>
  bif (decide (0≤(((V.nth (((r1.drop 2).drop 1).drop 1) 0).toList).length:Int)))&&((decide ((((V.nth (((r1.drop 2).drop 1).drop 1) 0).toList).length:Int)≤(((V.nth (((r1.drop 2).drop 1).drop 1) 0).toList).length:Int)))&&(Nat.ble ((((((V.nth (((r1.drop 2).drop 1).drop 1) 0).toList).length:Int):Int).toNat)*8) ct)) then
   (Loop (IJ C (((V.nth (((r1.drop 2).drop 1).drop 1) 0).toList).length:Int) 0 0 ((V.nth r2 0).toList) ((V.nth mi 0).toInt) ((V.nth (mi.drop 1) 0).toInt) ((V.nth (((mi.drop 2).drop 1).drop 1) 0).toList) ((V.nth (((r1.drop 2).drop 1).drop 1) 0).toList) ([]:List V) ([]:List V) ((V.nth (mi.drop 2) 0).toList) ((V.nth ((mi.drop 2).drop 1) 0).toList)) (0,List.replicate (((((V.nth (((r1.drop 2).drop 1).drop 1) 0).toList).length:Int):Int).toNat) (V.int .i64 0))).bind (un fun (agV:Int)=>un fun (Xf:Bool) (agW:List V)=>
    some [.int .i64 ((V.nth mi 0).toInt),.int .i64 ((V.nth (mi.drop 1) 0).toInt),.list ag ((V.nth (mi.drop 2) 0).toList),.list ai ((V.nth ((mi.drop 2).drop 1) 0).toList),.list bD agW])
  else none)
theorem agX {aw az:Int} {ar ay:List V} {r:Option (List V)} (h:Xe CC aw az ar ay=r):CC G9 [.int .i64 aw,.int .i64 az,.list ag ar,.list ai ay]=r:=
 bC (key:=86) (L:=Xd CC) (bs:=[.loop (av [1,1,1,1,0,1,0,0] yM),.loop (av [1,1,1,1,1,1,1,0,1,0,0] yM)]) (by kernel_rfl) (bt (agT CC) (bt (agU CC) aC)) (bw (by kernel_rfl) h)
noncomputable def Xg (C:ae) (aw az:Int) (ar ay:List V):Option (List V):=
 (C rW [.int .i64 aw,.int .i64 az,.list ag ar,.list ai ay]).bind fun r1=>
 bif (((V.nth r1 0).toInt):Int) != 0 then
  some [.int .i64 0,.int .i64 0,.list ag ([]:List V),.list ai ([]:List V)]
 else
  (C G9 [.int .i64 aw,.int .i64 az,.list ag ar,.list ai ay]).bind fun r2=>
  some [.int .i64 ((V.nth r2 0).toInt),.int .i64 ((V.nth (r2.drop 1) 0).toInt),.list ag ((V.nth (r2.drop 2) 0).toList),.list ai ((V.nth ((r2.drop 2).drop 1) 0).toList)]
theorem agY {aw az:Int} {ar ay:List V} {r:Option (List V)} (h:Xg CC aw az ar ay=r):CC vP [.int .i64 aw,.int .i64 az,.list ag ar,.list ai ay]=r:=
 bC (key:=54) (L:=dg) (bs:=[]) (by kernel_rfl) aC (bw (by kernel_rfl) h)
theorem agZ {p:Nat→Nat} {n:Nat} (h:py p n) (hn:0<n):p 0=0:=by
 simpa[aW,di] using h 1 (by omega)
theorem Xh {p:Nat→Nat} {n i:Nat} (h:py p n) (hi:i<n):p i∈aW p i↔p i<(Da.eR p i).length:=by
 rw[Da.C3]
 constructor
 ·intro hm
  rw[h i (by omega)] at hm
  simpa using hm
 ·intro hm
  rw[h i (by omega)]
  simpa using hm
theorem Xi (p:Nat→Nat) (n:Nat):(Da.eR p n).length≤n:=by rw[Da.C3];exact sB p n
def qF (a:Da) (p:Nat→Nat) (i:Nat):List V:=(Da.eR p i).map fun r=>V.bool (a.fin r)
def qN (a:Da) (p:Nat→Nat) (i:Nat):List V:=(Da.eR p i).map fun r=>kf a.L fun x=>p (a.nx r x)
theorem ag0 {a:Da} {p:Nat→Nat}:(a.quo p).c8=qF a p a.n∧(a.quo p).cB=qN a p a.n:=by
 constructor
 ·unfold Da.c8 qF
  rw[CB _ 0,Da.sC]
  exact ep fun i hi=>by rw[Da.W0 hi,fI hi]
 ·unfold Da.cB qN
  rw[CB _ 0,Da.sC]
  refine ep fun i hi=> ?_
  unfold kf
  exact congrArg _ (ep fun x hx=>by rw[Da.W3 hi hx,fI hi])
section
variable {a:Da} (h:a.Ok) {p:Nat→Nat}
include h
theorem ag1 {q:Nat} (hq:q<a.n) {k1 k2 k3 k4 k5 k6 k7 k8 k9 k10 k11:Int} {l1 l2 l3 l4 l5 l6 l7 l8 l9:List V}:
  Loop (IG CC k1 k2 k3 (tab a.L fun x=>iV (a.nx q x)) ((tab a.L fun x=>iV (a.nx q x)).length:Int) k4 k5 l1 l2 k6 k7 k8 k9 l3 (cV a.n p) k10 k11 l4 l5 l6 l7 l8 l9) (0,List.replicate (((a.L:Nat):Int).toNat) (V.int .i64 0))=
   some ((a.L:Int),false,(tab a.L fun x=>nV (p (a.nx q x)))):=by
 have h6:=h.l6
 rw[eo,Int.toNat_natCast,pt]
 refine (fZ a.L (fun t=>((t:Int),(tab a.L fun x=>if x<t then nV (p (a.nx q x)) else nV 0))) _ (fun t ht=> ?_) ?_)
 ·simp only[IG,Dl,un]
  refine bT (dA ht) ?_
  refine bs (ou ht) ?_
  refine (dN (i:=a.nx q t) (h.dH hq ht)).trans ?_
  refine (dN ht).trans ?_
  rw[da (by omega),Int.toNat_natCast,pr]
  refine congrArg (fun x=>some (Sum.inl (((t+1:Nat):Int),x))) (ep fun j _=> ?_)
  by_cases hj:j=t
  ·rw[af hj,af (by omega),hj];rfl
  ·rw[ah hj]
   by_cases cv:j<t
   ·rw[af cv,af (by omega)]
   ·rw[ah cv,ah (by omega)]
 ·simp only[IG,Dl,un]
  refine bF (bJ (aI _)) ?_
  rw[bJ (aI _)]
  refine congrArg (fun x=>some (Sum.inr ((a.L:Int),false,x))) (ep fun j hj=>af hj)
theorem ag2 (ho:py p a.n) {k3 k4 k5 k6 k7 k8 k9:Int} {l1 l2 l3 l4 l5:List V}:
  Loop (IH CC ((cV a.n p).length:Int) (a.L:Int) k3 l1 l2 k4 k5 k6 k7 l3 (cV a.n p) k8 k9 l4 l5 a.c8 a.cB) (0,([]:List V),([]:List V))=
   some ((a.n:Int),false,qF a p a.n,qN a p a.n):=by
 have h6:=h.l6
 have hm:=h.eE
 rw[show (cV a.n p).length=a.n by simp[cV]]
 refine (fZ a.n (fun i=>((i:Int),qF a p i,qN a p i)) _ (fun q hq=> ?_) ?_)
 ·have hle:=Xi p q
  have hF:(qF a p q).length=(Da.eR p q).length:=by simp[qF]
  have hN:(qN a p q).length=(Da.eR p q).length:=by simp[qN]
  simp only[IH,Dm,un]
  refine bT (dA hq) ?_
  refine (dN (i:=q) hq).trans ?_
  rw[da (by omega)]
  simp only[nV,V.toInt_int]
  by_cases hx:p q∈aW p q
  ·refine bT (bO (by rw[hF];have:=(Xh ho hq).1 hx;omega)) ?_
   unfold qF qN
   rw[Da.eR,af hx]
  ·refine bF (dE (by rw[hF];intro h2;exact hx ((Xh ho hq).2 (by omega)))) ?_
   refine bT (ng (by omega) (by omega)) ?_
   refine (dN (i:=q) hq).trans ?_
   simp only[pw]
   refine bs (ag1 h hq) ?_
   refine (dN (i:=q) hq).trans ?_
   refine bT (cap (by rw[hF];simp;omega) (by omega)) ?_
   refine bT (cap (by rw[hN];simp;omega) (by omega)) ?_
   unfold qF qN
   rw[Da.eR,ah hx,s8,s8]
   rfl
 ·simp only[IH,Dm,un]
  refine bF (bJ (aI _)) ?_
  rw[bJ (aI _)]
end
def sE (U U':List Nat) (p:Nat→Nat) (q:Nat):V:=if q∈U then iV ((if p (U.idxOf q)∈U' then nV (U'.idxOf (p (U.idxOf q))) else V.int .i64 (-1)).toInt) else V.int .i64 (-1)
theorem ag3 {n m k:Nat} {U U':List Nat} {p:Nat→Nat} (hn:n≤512) (hU:U.length≤m) (hp: ∀q,q<m→p q<k) {k1 k2 k3 k4:Int} {l1 l2 l3 l4:List V}:
  ∃X,Loop (IJ CC ((lH U n).length:Int) k1 k2 (cV m p) k3 k4 (lH U' k) (lH U n) l1 l2 l3 l4) (0,List.replicate ((((lH U n).length:Int):Int).toNat) (V.int .i64 0))=some ((n:Int),false,X):=by
 rw[show (lH U n).length=n by simp[lH],Int.toNat_natCast,pt]
 refine ⟨tab n fun q=>if q<n then sE U U' p q else V.int .i64 0,fZ n (fun i=>((i:Int),(tab n fun q=>if q<i then sE U U' p q else V.int .i64 0))) _ (fun q hq=> ?_) ?_⟩
 ·simp only[IJ,Dn,un]
  refine bT (dA hq) ?_
  refine (dN (i:=q) hq).trans ?_
  refine (dN (i:=q) hq).trans ?_
  rw[da (by omega)]
  have fin: ∀v,v=sE U U' p q→((tab n fun j=>if j<q then sE U U' p j else V.int .i64 0).set q v)=tab n fun j=>if j<q+1 then sE U U' p j else V.int .i64 0:=by
   rintro v rfl
   rw[pr]
   refine ep fun j _=> ?_
   by_cases hj:j=q
   ·rw[af hj,af (show j<q+1 by omega),hj]
   ·rw[ah hj]
    by_cases cv:j<q
    ·rw[af cv,af (show j<q+1 by omega)]
    ·rw[ah cv,ah (show¬j<q+1 by omega)]
  by_cases hx:q∈U
  ·have es:sE U U' p q=iV ((if p (U.idxOf q)∈U' then nV (U'.idxOf (p (U.idxOf q))) else V.int .i64 (-1)).toInt):=by unfold sE;rw[af hx]
   have hi:=uG hx
   rw[af hx]
   refine bT (bO (by simp only[nV,V.toInt_int];omega)) ?_
   simp only[nV,V.toInt_int]
   refine (dN (i:=U.idxOf q) (by omega)).trans ?_
   simp only[nV,V.toInt_int]
   refine (dN (i:=p (U.idxOf q)) (hp _ (by omega))).trans ?_
   refine bT (by rw[qS,eo];exact afG hq) ?_
   refine bs (a:= .int .i64 (-1)) (by rw[Int.toNat_natCast,uy];simp[hq]) ?_
   rw[Int.toNat_natCast,List.set_set,←fin _ es.symm]
  ·rw[ah hx]
   refine bF (dE (by simp)) ?_
   rw[Int.toNat_natCast,←fin _ (show V.int .i64 (-1)=sE U U' p q by unfold sE;rw[ah hx])]
 ·simp only[IJ,Dn,un]
  refine bF (bJ (aI _)) ?_
  rw[bJ (aI _)]
theorem Canon.congr {m:Da} {L:Nat} {K K':List Nat→Bool} (h:m.Canon L K) (e: ∀w,WL L w→K w=K' w):m.Canon L K':=⟨h.ok,h.hL,h.st,h.num,h.red,fun w hw=>(h.lB w hw).trans (e w hw)⟩
theorem ag4 {a:Da} (h:a.Ok): ∃m X,CC G9 (dt a)=some (dt m++[.list bD X])∧m.Canon a.L (a.acc a.st):=by
 have ht:=h.V3
 have hm:=h.eE
 have hle:=h.qx a.n
 have e3:a.trim.n=(aA a.L a.nx a.st a.n).length:=nd
 obtain ⟨p,c1,c2,c3⟩:=agR ht
 have hq:=Da.Oh ht c2
 obtain ⟨q1,q2⟩:=ag0 (a:=a.trim) (p:=p)
 have ag5:=Da.W4 ht c2
 have b6:(a.trim.quo p).st=0:=agZ c2.2 ht.s
 have Gf:=WU hq
 obtain ⟨X,hX⟩:=ag3 (n:=a.n) (m:=a.trim.n) (k:=(a.trim.quo p).n) (U:=aA a.L a.nx a.st a.n) (U':=aA (a.trim.quo p).L (a.trim.quo p).nx (a.trim.quo p).st (a.trim.quo p).n) (p:=p) hm (by omega) (fun q hq=>by rw[Da.sC];exact Da.C4 c2.2 hq) (k1:=0) (k2:=0) (k3:=((a.trim.quo p).trim.L:Int)) (k4:=((a.trim.quo p).trim.st:Int)) (l1:=[]) (l2:=[]) (l3:=(a.trim.quo p).trim.c8) (l4:=(a.trim.quo p).trim.cB)
 refine ⟨(a.trim.quo p).trim,X,agX ?_,Canon.congr ag5 fun w hw=>h.V4 hw⟩
 unfold Xe
 refine bs (WU h) ?_
 refine bs c1 ?_
 refine bs (ag2 ht c2.2) ?_
 simp only[un]
 rw[←q1,←q2]
 have ag6:CC yj [.int .i64 (a.L:Int),.int .i64 0,.list ag (a.trim.quo p).c8,.list ai (a.trim.quo p).cB]=some (dt (a.trim.quo p).trim++[.list bD (lH (aA (a.trim.quo p).L (a.trim.quo p).nx (a.trim.quo p).st (a.trim.quo p).n) (a.trim.quo p).n)]):=by
  rw[←Gf]
  unfold dt jL
  rw[b6];rfl
 refine bs ag6 ?_
 have e0:(lH (aA a.L a.nx a.st a.n) a.n).length=a.n:=by simp[lH]
 refine bT (show ((decide (0≤((lH (aA a.L a.nx a.st a.n) a.n).length:Int)))&&((decide (((lH (aA a.L a.nx a.st a.n) a.n).length:Int)≤((lH (aA a.L a.nx a.st a.n) a.n).length:Int)))&&(Nat.ble (((((lH (aA a.L a.nx a.st a.n) a.n).length:Nat):Int).toNat)*8) ct)))=true from ng (by rw[e0];omega) (by omega)) ?_
 refine bs hX ?_
 rfl
theorem Xj {a:Da} (h:a.Ok): ∃m,CC vP (dt a)=some (dt m)∧m.Canon a.L (a.acc a.st):=by
 obtain ⟨m,X,h1,h2⟩:=ag4 h
 refine ⟨m,agY ?_,h2⟩
 unfold Xg
 refine bs (CI h) ?_
 refine bF rfl ?_
 refine bs h1 ?_
 rfl
open Classical in
noncomputable def minD (a:Da):Da:=if h: ∃m:Da,m.Canon a.L (a.acc a.st) then Classical.choose h else a
theorem wi {a:Da} (h:a.Ok):(minD a).Canon a.L (a.acc a.st):=by
 obtain ⟨m,_,h2⟩:=Xj h
 have: ∃m:Da,m.Canon a.L (a.acc a.st):=⟨m,h2⟩
 unfold minD
 rw[oI this]
 exact Classical.choose_spec this
theorem Dr {a m:Da} (h:a.Ok) (hm:m.Canon a.L (a.acc a.st)):m=minD a:=hm.eq (wi h)
theorem Om {a:Da} (h:a.Ok):CC vP (dt a)=some (dt (minD a)):=by
 obtain ⟨m,h1,h2⟩:=Xj h
 rw[h1,Dr h h2]
end Go.AM
set_option maxRecDepth 100000
namespace Go.AM
section
variable {α:Type} [DecidableEq α] {L:Nat} {next:α→Nat→α} {a0:α}
theorem Xk (S:List α) (a:α): ∀x,(dm next S a x).length≤S.length+x
 | 0=>aI _
 | x+1=>by
  have:=Xk S a x
  rw[dm,tY]
  split<;>omega
theorem ag7 {m:Nat} (h:(aA L next a0 m).length≤m) (i:Nat):(aA L next a0 i).length≤m:=by
 rcases eg m i with c|c
 ·rw[Cr h (by omega)];exact h
 ·exact kp (nc c).length_le h
theorem ag8 {k:Nat} (hd:(aA L next a0 k).length≤k) (i:Nat):(aA L next a0 i).length≤(aA L next a0 k).length:=by
 rcases eg k i with c|c
 ·rw[Cr hd (by omega)];exact aI _
 ·exact (nc c).length_le
theorem ag9 {k m:Nat} (h:m<(aA L next a0 k).length):m<(aA L next a0 m).length:=by
 rcases eg m (aA L next a0 m).length with c|c
 ·exact c
 ·have:=ag7 c k
  omega
theorem aha {m:Nat} (h:m<(aA L next a0 m).length) (hm:1≤m): ∃i,i<m∧(∀j,j≤i→j<(aA L next a0 j).length∧(aA L next a0 j).length≤m)∧m<(aA L next a0 (i+1)).length:=by
 have key: ∀d k,k+d=m→(∀j,j≤k→(aA L next a0 j).length≤m)→∃i,i<m∧(∀j,j≤i→j<(aA L next a0 j).length∧(aA L next a0 j).length≤m)∧m<(aA L next a0 (i+1)).length:=by
  intro d
  induction d with
  | zero=>
   intro k hk hj
   have:=hj k (aI _)
   rw[show k=m by omega] at this
   omega
  | succ d ih=>
   intro k hk hj
   rcases eg m (aA L next a0 (k+1)).length with c|c
   ·refine ⟨k,by omega,fun j Xl=>⟨?_,hj j Xl⟩,c⟩
    rcases eg j (aA L next a0 j).length with c1|c1
    ·exact c1
    ·have h1:=hj j Xl
     rw[←Cr c1 (show j≤m by omega)] at h1
     omega
   ·refine ih (k+1) (by omega) fun j cv=> ?_
    rcases eg j (k+1) with c1|c1
    ·exact hj j (by omega)
    ·rw[show j=k+1 by omega];exact c
 exact key m 0 (by omega) fun j hj=>by rw[wW.1 hj];simp[aA];omega
theorem ahb {P:α→Prop} (h0:P a0) (hP: ∀a,P a→∀x,x<L→P (next a x)) (i:Nat): ∀a∈aA L next a0 i,P a:=by
 intro a ha
 obtain ⟨w,hw,rfl⟩:=Ct i a ha
 have: ∀(w:List Nat) (b:α),P b→WL L w→P (w.foldl next b):=by
  intro w
  induction w with
  | nil=>intro b hb _;exact hb
  | cons x w ih=>intro b hb hw;exact ih _ (hP b hb x hw.head) hw.tail
 exact this w a0 h0 hw
end
end Go.AM
set_option maxRecDepth 100000
namespace Go.AM
open Go.Proofs
structure NP where
 p:Nat
 q:Nat
deriving DecidableEq
section
variable {a b:Da} (ha:a.Ok) (hb:b.Ok) (hL:a.L=b.L) {op:Nat}
include ha hb hL
end
def zD:Da:=⟨0,0,[],[]⟩
def gd (m:Da) (e:Int):List V:=[.int .i64 (m.L:Int),.int .i64 (m.st:Int),.int .i64 e,.list ag m.c8,.list ai m.cB]
section
variable {a b:Da} (ha:a.Ok) (hb:b.Ok) (hL:a.L=b.L) {op:Nat}
include ha hb hL
end
section
variable {a b:Da} (ha:a.Ok) (hb:b.Ok) (hL:a.L=b.L) {op:Nat}
include ha hb hL
end
noncomputable def Xm (C:ae) (fq letter:Int) (Ds:List V):Option (List V):=
 (idx Ds letter).bind fun x1=>
 (C Hl [.list b9 x1.toList,.int .u64 fq]).bind fun r2=>
 some [.int .u64 ((V.nth r2 0).toInt),.list eD Ds]
theorem ahc {fq letter:Int} {Ds:List V} {r:Option (List V)} (h:Xm CC fq letter Ds=r):CC qm [.int .u64 fq,.int .i64 letter,.list eD Ds]=r:=
 bC (key:=138) (L:=dg) (bs:=[]) (by kernel_rfl) aC (bw (by kernel_rfl) h)
noncomputable def Xn (C:ae) (fq sy sA qz qA:Int) (IK:List V):Option (List V):=
 some [.bool (((IntKind.wrap .u64 ((BitVec.ofInt (IntKind.bits .u64) fq&&&BitVec.ofInt (IntKind.bits .u64) qA).toNat)):Int) != 0),.int .i64 sy,.int .i64 sA,.int .u64 qz,.int .u64 qA,.list aF IK]
theorem ahd {fq sy sA qz qA:Int} {IK:List V} {r:Option (List V)} (h:Xn CC fq sy sA qz qA IK=r):CC rZ [.int .u64 fq,.int .i64 sy,.int .i64 sA,.int .u64 qz,.int .u64 qA,.list aF IK]=r:=
 bC (key:=119) (L:=dg) (bs:=[]) (by kernel_rfl) aC (bw (by kernel_rfl) h)
noncomputable def Xo (C:ae) (x:Int) (bN:List V):Option (List V):=
 bif dq .u64 x&&true then
  bif dq .u64 x&&true then
  bif Nat.ble ((bN.length+([.int .u64 x]:List V).length)*8) ct then
   some [.int .i64 (bN.length:Int),.list b9 (bN++([.int .u64 x]:List V)),.list ji (fQ (.int .u64 x) (.int .i64 (bN.length:Int)) ([]:List V))]
  else none
  else none
 else none
theorem ahe {x:Int} {bN:List V} {r:Option (List V)} (h:Xo CC x bN=r):CC BR [.int .u64 x,.list b9 bN]=r:=
 bC (key:=137) (L:=dg) (bs:=[]) (by kernel_rfl) aC (bw (by kernel_rfl) h)
noncomputable def Xp (C:ae) (x:Int) (bN dk:List V):Option (List V):=
 bif dq .u64 x&&true then
  bif !(gO (.int .u64 x) dk) then
  bif dq .u64 x&&true then
   bif Nat.ble ((bN.length+([.int .u64 x]:List V).length)*8) ct then
   some [.int .i64 (bN.length:Int),.list ji (fQ (.int .u64 x) (.int .i64 (bN.length:Int)) dk),.list b9 (bN++([.int .u64 x]:List V))]
   else none
  else none
  else
  some [.int .i64 ((jA (.int .u64 x) dk (.int .i64 0)).toInt),.list ji dk,.list b9 bN]
 else none
theorem ahf {x:Int} {bN dk:List V} {r:Option (List V)} (h:Xp CC x bN dk=r):CC LY [.int .u64 x,.list b9 bN,.list ji dk]=r:=
 bC (key:=183) (L:=dg) (bs:=[]) (by kernel_rfl) aC (bw (by kernel_rfl) h)
noncomputable abbrev IL:Code:=cN Tryd.prog (aD.bd 117)
noncomputable def Dt (C:ae) (bR i state t36 mj ml mn mo:Int) (mq:List V) (nh ni a8 bj:Int) (cx cf gz nk:List V) (t37:Int) (mr rows cb db:List V) {β:Type} (kn:(Int × (List V) × (List V) × (List V) × (List V))→Option β) (kr:(Int × Bool × (List V) × (List V) × (List V) × (List V))→Option β):Option β:=
 bif decide ((t37:Int)<t36) then
  (C qm [.int .u64 state,.int .i64 t37,.list eD mr]).bind fun r3=>
  (C LY [.int .u64 ((V.nth r3 0).toInt),.list b9 cb,.list ji db]).bind fun r4=>
  bif (decide (0≤t37))&&(decide (t37<(rows.length:Int))) then
  (rows[(t37:Int).toNat]?).bind fun x5=>
  kn (IntKind.wrap .i64 (t37+1),(V.nth (r3.drop 1) 0).toList,rows.set ((t37:Int).toNat) (.int .i64 ((V.nth r4 0).toInt)),(V.nth ((r4.drop 1).drop 1) 0).toList,(V.nth (r4.drop 1) 0).toList)
  else none
 else
  kr (t37,decide ((t37:Int)<t36),mr,rows,cb,db)
noncomputable def IM (C:ae) (bR i state t36 mj ml mn mo:Int) (mq:List V) (nh ni a8 bj:Int) (cx cf gz nk:List V):(Int × (List V) × (List V) × (List V) × (List V))→Option ((Int × (List V) × (List V) × (List V) × (List V)) ⊕ (Int × Bool × (List V) × (List V) × (List V) × (List V))):=un fun t37=>un fun mr=>un fun rows=>un fun cb db=>Dt C bR i state t36 mj ml mn mo mq nh ni a8 bj cx cf gz nk t37 mr rows cb db (fun y=>some (.inl y)) (fun r=>some (.inr r))
noncomputable def Du (C:ae) (bR nh ni a8 bj:Int) (dp cx:List V) (i:Int) (mr:List V) (mj ml mn mo:Int) (mq cf cb db gz:List V) {β:Type} (kn:(Int × (List V) × Int × Int × Int × Int × (List V) × (List V) × (List V) × (List V) × (List V))→Option β) (kr:((Int × (List V) × Int × Int × Int × Int × (List V) × Int × Int × (List V) × (List V) × (List V)) ⊕ (Int × Bool × (List V) × Int × Int × Int × Int × (List V) × (List V) × (List V) × (List V) × (List V)))→Option β):Option β:=
 bif decide ((i:Int)<(cf.length:Int)) then
  bif (decide (0≤i))&&(decide (i<(cf.length:Int))) then
  (cf[(i:Int).toNat]?).bind fun x2=>
  bif (decide (0≤bR))&&((decide (bR≤bR))&&(Nat.ble (((bR:Int).toNat)*8) ct)) then
   (Loop (IM C bR i x2.toInt ((List.replicate ((bR:Int).toNat) (V.int .i64 0)).length:Int) mj ml mn mo mq nh ni a8 bj dp cx db gz) (0,mr,List.replicate ((bR:Int).toNat) (V.int .i64 0),cf,cb)).bind (un fun (sg:Int)=>un fun (m8:Bool)=>un fun (CQ:List V)=>un fun (Xq:List V)=>un fun (yS:List V) (On:List V)=>
    bif decide (((yS.length:Int):Int)>512) then
    kr (.inl (3,CQ,mj,ml,mn,mo,mq,0,0,([]:List V),([]:List V),([]:List V)))
    else
    bif Nat.ble ((gz.length+([.list bD Xq]:List V).length)*24) ct then
     (C rZ [.int .u64 x2.toInt,.int .i64 mj,.int .i64 ml,.int .u64 mn,.int .u64 mo,.list aF mq]).bind fun ao=>
     bif Nat.ble ((db.length+([.bool ((V.nth ao 0).toBool)]:List V).length)*1) ct then
     kn (IntKind.wrap .i64 (i+1),CQ,(V.nth (ao.drop 1) 0).toInt,(V.nth ((ao.drop 1).drop 1) 0).toInt,(V.nth (((ao.drop 1).drop 1).drop 1) 0).toInt,(V.nth ((((ao.drop 1).drop 1).drop 1).drop 1) 0).toInt,(V.nth (((((ao.drop 1).drop 1).drop 1).drop 1).drop 1) 0).toList,yS,On,db++([.bool ((V.nth ao 0).toBool)]:List V),gz++([.list bD Xq]:List V))
     else none
    else none)
  else none
  else none
 else
  kr (.inr (i,decide ((i:Int)<(cf.length:Int)),mr,mj,ml,mn,mo,mq,cf,cb,db,gz))
noncomputable def yT (C:ae) (bR nh ni a8 bj:Int) (dp cx:List V):(Int × (List V) × Int × Int × Int × Int × (List V) × (List V) × (List V) × (List V) × (List V))→Option ((Int × (List V) × Int × Int × Int × Int × (List V) × (List V) × (List V) × (List V) × (List V)) ⊕ ((Int × (List V) × Int × Int × Int × Int × (List V) × Int × Int × (List V) × (List V) × (List V)) ⊕ (Int × Bool × (List V) × Int × Int × Int × Int × (List V) × (List V) × (List V) × (List V) × (List V)))):=un fun i=>un fun mr=>un fun mj=>un fun ml=>un fun mn=>un fun mo=>un fun mq=>un fun cf=>un fun cb=>un fun db gz=>Du C bR nh ni a8 bj dp cx i mr mj ml mn mo mq cf cb db gz (fun y=>some (.inl y)) (fun r=>some (.inr r))
noncomputable def Xr (C:ae):cH:=fun β n ds k=>
 bif Nat.beq n 161 then bE M1 [false,false,false,false,true,true,false,false,false,false,false,false,false,false,false,true,false,false,true,true,false,false] [[1,2,3,4,0,0,0,7,8,9,10,11,12,13,14,15,0,17,18,0,0,21,22]] (@Dt C) ds k else
 bif Nat.beq n 81 then bE M3 [false,true,true,true,true,true,true,true,false,false,false,false,false,false,true,true,true,true] [[0,0,0,0,0,0,0,0,0,0,0,0],[1,0,0,0,0,0,0,0,0,9,10,11,12,13,14,0,0,0,0]] (@Du C) ds k else
 none
abbrev Xs (C:ae) (b:cE):Prop:=cF Tryd.prog aD C (Xr C) 117 (cQ Tryd.prog (aD.bd 117)) (aD.sin 117).bf.length b
theorem ahg (C:ae):Xs C (.loop (av [1,1,1,1,0,1,0,0,1,0,0,1,1,0,1,0,0] IL)):=
 bH M1 [false,false,false,false,true,true,false,false,false,false,false,false,false,false,false,true,false,false,true,true,false,false] [[1,2,3,4,0,0,0,7,8,9,10,11,12,13,14,15,0,17,18,0,0,21,22]] (@Dt C) (by kernel_rfl) (bc (bs:=[]) (by kernel_rfl) aC) (fun ds=>by kernel_rfl) (fun i x=>by kernel_rfl) (fun i x β k=>by kernel_rfl) (fun β ds k=>by kernel_rfl)
theorem ahh (C:ae):Xs C (.loop (av [1,1,1,1,0,1,0,0] IL)):=
 bH M3 [false,true,true,true,true,true,true,true,false,false,false,false,false,false,true,true,true,true] [[0,0,0,0,0,0,0,0,0,0,0,0],[1,0,0,0,0,0,0,0,0,9,10,11,12,13,14,0,0,0,0]] (@Du C) (by kernel_rfl) (bc (bs:=[.loop (av [1,1,1,1,0,1,0,0,1,0,0,1,1,0,1,0,0] IL)]) (by kernel_rfl) (bt (ahg C) aC)) (fun ds=>by kernel_rfl) (fun i x=>by kernel_rfl) (fun i x β k=>by kernel_rfl) (fun β ds k=>by kernel_rfl)
noncomputable def Oo (C:ae) (bR start:Int) (mr:List V) (mj ml mn mo:Int) (mq:List V):Option (List V):=
 (C BR [.int .u64 start,.list b9 ([]:List V)]).bind fun r1=>
 (Loop (yT C bR 0 0 bR 0 ([]:List V) ([]:List V)) (0,mr,mj,ml,mn,mo,mq,(V.nth (r1.drop 1) 0).toList,(V.nth ((r1.drop 1).drop 1) 0).toList,([]:List V),([]:List V))).bind (dy (un fun (su:Int)=>un fun (CR:List V)=>un fun (Cp:Int)=>un fun (ahi:Int)=>un fun (CS:Int)=>un fun (CT:Int)=>un fun (N6:List V)=>un fun (ahj:Int)=>un fun (N7:Int)=>un fun (ahk:List V)=>un fun (N8:List V) (ahl:List V)=>
  some [.int .i64 ahj,.int .i64 N7,.int .i64 su,.list eD CR,.int .i64 Cp,.int .i64 ahi,.int .u64 CS,.int .u64 CT,.list aF N6,.list ag ahk,.list ai N8,.list b9 ahl]) (un fun (aqe:Int)=>un fun (ahm:Bool)=>un fun (ahn:List V)=>un fun (aho:Int)=>un fun (ahp:Int)=>un fun (ahq:Int)=>un fun (ahr:Int)=>un fun (ahs:List V)=>un fun (Im:List V)=>un fun (WN:List V)=>un fun (N9:List V) (aht:List V)=>
  some [.int .i64 bR,.int .i64 0,.int .i64 0,.list eD ahn,.int .i64 aho,.int .i64 ahp,.int .u64 ahq,.int .u64 ahr,.list aF ahs,.list ag N9,.list ai aht,.list b9 Im]))
theorem Xt {bR start:Int} {mr:List V} {mj ml mn mo:Int} {mq:List V} {r:Option (List V)} (h:Oo CC bR start mr mj ml mn mo mq=r):CC vR [.int .i64 bR,.int .u64 start,.list eD mr,.int .i64 mj,.int .i64 ml,.int .u64 mn,.int .u64 mo,.list aF mq]=r:=
 bC (key:=117) (L:=Xr CC) (bs:=[.loop (av [1,1,1,1,0,1,0,0] IL)]) (by kernel_rfl) (bt (ahh CC) aC) (bw (by kernel_rfl) h)
noncomputable def Oq (C:ae) (eQ gx fe gV:Int) (fp:List V):Option (List V):=
 (C Hb [.int .i64 eQ,.int .i64 gx,.int .u64 fe,.int .u64 gV,.list aF fp]).bind fun r1=>
 bif (((V.nth r1 0).toInt):Int) != 0 then
  some [.int .i64 0,.int .i64 0,.int .i64 ((V.nth r1 0).toInt),.list ag ([]:List V),.list ai ([]:List V),.list b9 ([]:List V)]
 else
  (C Hh [.int .i64 eQ,.int .i64 gx,.int .u64 fe,.int .u64 gV,.list aF fp]).bind fun r2=>
  (C vR [.int .i64 eQ,.int .u64 fe,.list eD ((V.nth r2 0).toList),.int .i64 eQ,.int .i64 gx,.int .u64 fe,.int .u64 gV,.list aF fp]).bind fun r3=>
  some [.int .i64 ((V.nth r3 0).toInt),.int .i64 ((V.nth (r3.drop 1) 0).toInt),.int .i64 ((V.nth (r3.drop 2) 0).toInt),.list ag ((V.nth (((r3.drop 3).drop 1).drop 5) 0).toList),.list ai ((V.nth ((((r3.drop 3).drop 1).drop 5).drop 1) 0).toList),.list b9 ((V.nth (((((r3.drop 3).drop 1).drop 5).drop 1).drop 1) 0).toList)]
theorem Xu {eQ gx fe gV:Int} {fp:List V} {r:Option (List V)} (h:Oq CC eQ gx fe gV fp=r):CC BL [.int .i64 eQ,.int .i64 gx,.int .u64 fe,.int .u64 gV,.list aF fp]=r:=
 bC (key:=99) (L:=dg) (bs:=[]) (by kernel_rfl) aC (bw (by kernel_rfl) h)
def uV (q:Nat):V:= .int .u64 (q:Int)
def uM (S:List Nat):List V:=ga uV 0 S
theorem Ot (a b:Nat):jz (uV a) (uV b)=decide (a=b):=af4 a b
theorem ahu {S:List Nat} {i:Nat} (h:i<S.length):(U1 S)[i]? =some (uV S[i]):=v5 (bI h)
theorem Xv {x:Nat} (hx:x<2^64):CC BR [uV x,.list b9 []]=some [nV 0,.list b9 (U1 [x]),.list ji (uM [x])]:=by
 refine ahe ?_
 unfold Xo
 rw[Ww hx]
 exact bT rfl (bT rfl (bT (cap (by simp) (by omega)) rfl))
theorem ahv {S:List Nat} {x:Nat} (hx:x<2^64) (hl:S.length≤1000000):CC LY [uV x,.list b9 (U1 S),.list ji (uM S)]=some [nV ((di S x).idxOf x),.list ji (uM (di S x)),.list b9 (U1 (di S x))]:=by
 refine ahf ?_
 unfold Xp
 have e1:=CK Ot x S 0
 rw[Ww hx]
 refine bT rfl ?_
 rw[show (V.int .u64 (x:Int))=uV x from rfl,Wx]
 by_cases h:x∈S
 ·refine bF (by rw[show gO (uV x) (uM S)=_ from e1];simpa using h) ?_
  have e2:=CL Ot x (.int .i64 0) S 0 h
  rw[show jA (uV x) (uM S) (.int .i64 0)=_ from e2,af h,dV,show di S x=S by unfold di;rw[af h]]
  rfl
 ·refine bT (by rw[show gO (uV x) (uM S)=_ from e1];simpa using h) ?_
  refine bT rfl ?_
  refine bT (cap (by rw[jm];simp;omega) (by omega)) ?_
  have e2:=CM Ot x S 0 h
  rw[dV] at e2
  rw[jm,show fQ (uV x) (.int .i64 (S.length:Int)) (uM S)=_ from e2,ah h,show di S x=S++[x] by unfold di;rw[ah h]]
  simp[U1,nV,uM,uV]
def sn (E:List Ed) (s x:Nat):Nat:=iL E s (x:Int)
def sf (fin s:Nat):Bool:= !((s&&&fin)==0)
structure Nat6 (n:Nf) (L S:Nat):Prop where
 code:n.code=0
 ok:n.Ok
 hL:n.L=(L:Int)
 hS:n.S=(S:Int)
namespace Nat6
variable {n:Nf} {L S:Nat} (h:Nat6 n L S)
include h
theorem good:n.Good:=Nf.aej h.code
theorem l1:1≤L:=by have:=h.good.L1;have:=h.hL;omega
theorem l6:L≤6:=by have:=h.good.L6;have:=h.hL;omega
theorem qw:S≤64:=by have:=h.good.S64;have:=h.hS;omega
theorem sS:n.S.toNat=S:=by have:=h.hS;omega
theorem lL:n.L.toNat=L:=by have:=h.hL;omega
theorem edF: ∀e∈n.E,e.f.toNat<S:=fun e he=>by have:=h.good.E e he;have:=h.hS;unfold Ed.In at*;omega
theorem Xw: ∀e∈n.E,e.t.toNat<S:=fun e he=>by have:=h.good.E e he;have:=h.hS;unfold Ed.In at*;omega
theorem st:n.st<2^S:=by have:=h.good.st;rwa [h.sS] at this
theorem fin:n.fin<2^S:=by have:=h.good.fin;rwa [h.sS] at this
theorem pow:2^S≤2^64:=pN (by omega) h.qw
theorem next (s x:Nat):sn n.E s x<2^S:=NI h.Xw
end Nat6
def iN (n:Nf) (L S:Nat):List Nat:=aA L (sn n.E) n.st (2^S)
def jq (n:Nf) (L S:Nat):Da:=ft L (sn n.E) (sf n.fin) (iN n L S)
def iO (n:Nf) (L S:Nat):Prop:=512<(iN n L S).length
def tV (n:Nf) (L S:Nat):List V:=U2 (kb L S n.E)
def Xx (m:Da) (e:Int) (X:V):List V:=[.int .i64 (m.L:Int),.int .i64 (m.st:Int),.int .i64 e,.list ag m.c8,.list ai m.cB,X]
section
variable {n:Nf} {L S:Nat} (h:Nat6 n L S)
include h
theorem ahw {s x:Nat} (hs:s<2^S) (hx:x<L):CC qm [uV s,nV x,.list eD (tV n L S)]=some [uV (sn n.E s x),.list eD (tV n L S)]:=by
 have hp:=h.pow
 refine ahc ?_
 unfold Xm
 have e1:idx (tV n L S) (x:Int)=some (.list b9 (U1 (ma S n.E (x:Int)))):=by
  rw[Lx rfl]
  unfold tV U2
  rw[eM,NM hx];rfl
 refine bs e1 ?_
 have hr:iM (ma S n.E (x:Int)):=aff h.qw h.Xw
 have e2:=afe hr (s:=s) (by omega)
 have hl:(ma S n.E (x:Int)).length=S:=by simp[ma]
 rw[hl,afg (by omega) h.qw h.edF] at e2
 refine bs e2 ?_
 rfl
theorem ahx {s:Nat} (hs:s<2^S):CC rZ (uV s::m7 n [])=some (.bool (sf n.fin s)::m7 n []):=by
 have hp:=h.pow
 have hf:=h.fin
 refine ahd ?_
 unfold Xn
 have e:IntKind.wrap .u64 ((BitVec.ofInt (IntKind.bits .u64) (s:Int)&&&BitVec.ofInt (IntKind.bits .u64) (n.fin:Int)).toNat)=((s&&&n.fin:Nat):Int):=u64_and (by omega) (by omega)
 rw[e]
 have e2:(((s&&&n.fin:Nat):Int) != 0)=sf n.fin s:=by
  unfold sf
  rw[lM]
  simp
 rw[e2];rfl
theorem sub_lt (i:Nat): ∀s∈aA L (sn n.E) n.st i,s<2^S:=ahb (P:=fun s=>s<2^S) h.st (fun s _ x _=>h.next s x) i
theorem yU (i:Nat):(aA L (sn n.E) n.st i).length≤2^S:=by
 have:=V2 (L:=L) (next:=sn n.E) (a0:=n.st) (U:=List.range (2^S)) (gG.2 h.st) (fun s _ x _=>gG.2 (h.next s x)) i
 simpa using this
theorem ahy {T U:List Nat} {s:Nat} (hs:s<2^S) (hT:T.length≤1000) (hp:dm (sn n.E) T s L <+: U) {i c1 c2:Int} {l1 l2 l3 l4:List V}:
  Loop (IM CC (L:Int) i (s:Int) ((List.replicate (((L:Nat):Int).toNat) (V.int .i64 0)).length:Int) n.L n.S (n.st:Int) (n.fin:Int) (n.E.map Ed.enc) c1 c2 (L:Int) 0 l1 l2 l3 l4) (0,tV n L S,List.replicate (((L:Nat):Int).toNat) (V.int .i64 0),U1 T,uM T)=
   some ((L:Int),false,tV n L S,(tab L fun x=>nV (U.idxOf (sn n.E s x))),U1 (dm (sn n.E) T s L),uM (dm (sn n.E) T s L)):=by
 have h6:=h.l6
 have Xy:=h.pow
 rw[Int.toNat_natCast,pt,eo]
 refine (fZ L (fun x=>((x:Int),tV n L S,(tab L fun j=>if j<x then nV (U.idxOf (sn n.E s j)) else nV 0),U1 (dm (sn n.E) T s x),uM (dm (sn n.E) T s x))) _ (fun x hx=> ?_) ?_)
 ·simp only[IM,Dt,un]
  refine bT (dA hx) ?_
  refine bs (ahw h hs hx) ?_
  have hl:=Xk (next:=sn n.E) T s x
  have hn:=h.next s x
  refine bs (ahv (S:=dm (sn n.E) T s x) (x:=sn n.E s x) (by omega) (by omega)) ?_
  refine (dN hx).trans ?_
  rw[da (by omega),Int.toNat_natCast,pr]
  have e:(di (dm (sn n.E) T s x) (sn n.E s x)).idxOf (sn n.E s x)=U.idxOf (sn n.E s x):=(yF ((yD T s (show x+1≤L by omega)).trans hp) yC).symm
  show some (Sum.inl _)=some (Sum.inl _)
  refine congrArg (fun x=>some (Sum.inl x)) ?_
  refine jx rfl (jx rfl (jx ?_ (jx rfl rfl)))
  refine ep fun j _=> ?_
  by_cases hj:j=x
  ·rw[af hj,af (by omega),hj,←e];rfl
  ·rw[ah hj]
   by_cases cv:j<x
   ·rw[af cv,af (by omega)]
   ·rw[ah cv,ah (by omega)]
 ·simp only[IM,Dt,un]
  refine bF (bJ (aI _)) ?_
  rw[bJ (aI _)]
  have:(tab L fun j=>if j<L then nV (U.idxOf (sn n.E s j)) else nV 0)=tab L fun j=>nV (U.idxOf (sn n.E s j)):=ep fun j hj=>af hj
  rw[this]
theorem Ou {i:Nat} (mT:i<(aA L (sn n.E) n.st i).length) (hlen:(aA L (sn n.E) n.st i).length≤512) {U:List Nat} (hp:aA L (sn n.E) n.st (i+1) <+: U) {l1 l2 l3 l4:List V} (hl3:l3.length≤1000) (hl4:l4.length≤1000):
  yT CC (L:Int) 0 0 (L:Int) 0 l1 l2 ((i:Int),tV n L S,n.L,n.S,(n.st:Int),(n.fin:Int),n.E.map Ed.enc,U1 (aA L (sn n.E) n.st i),uM (aA L (sn n.E) n.st i),l3,l4)=
   if 512<(aA L (sn n.E) n.st (i+1)).length then some (.inr (.inl (3,tV n L S,n.L,n.S,(n.st:Int),(n.fin:Int),n.E.map Ed.enc,0,0,[],[],[])))
   else some (.inl (((i+1:Nat):Int),tV n L S,n.L,n.S,(n.st:Int),(n.fin:Int),n.E.map Ed.enc,U1 (aA L (sn n.E) n.st (i+1)),uM (aA L (sn n.E) n.st (i+1)),l3++[V.bool (sf n.fin (aA L (sn n.E) n.st i)[i])],l4++[V.list bD (tab L fun x=>nV (U.idxOf (sn n.E (aA L (sn n.E) n.st i)[i] x)))])):=by
 have h6:=h.l6
 have hq:=sub_lt h i _ (eU mT)
 have mL:aA L (sn n.E) n.st (i+1)=dm (sn n.E) (aA L (sn n.E) n.st i) (aA L (sn n.E) n.st i)[i] L:=VV (bI mT)
 simp only[yT,Du,un]
 refine bT (bO (by rw[jm];omega)) ?_
 refine (CD (ahu mT)).trans ?_
 refine bT (ng (by omega) (by omega)) ?_
 refine bs (ahy h hq (by omega) (U:=U) (by rw[←mL];exact hp)) ?_
 rw[←mL]
 by_cases vu:512<(aA L (sn n.E) n.st (i+1)).length
 ·rw[af vu]
  refine bT (bO (by rw[jm];omega)) ?_
  rfl
 ·rw[ah vu]
  refine bF (dE (by rw[jm];omega)) ?_
  refine bT (cap (by simp;omega) (by omega)) ?_
  refine bs (ahx h hq) ?_
  refine bT (cap (by simp;omega) (by omega)) ?_
  rw[da (by omega)]
  rfl
theorem ahz (hn: ¬iO n L S): ∃X,CC vR (nV L::uV n.st:: .list eD (tV n L S)::m7 n [])=some ([nV L,nV 0,.int .i64 0,.list eD (tV n L S)]++(m7 n []++[.list ag (jq n L S).c8,.list ai (jq n L S).cB,X])):=by
 have h6:=h.l6
 have b6:=h.st
 have Xy:=h.pow
 have hd:(aA L (sn n.E) n.st (2^S)).length≤2^S:=yU h _
 have hle: ∀i,(aA L (sn n.E) n.st i).length≤(iN n L S).length:=ag8 hd
 have aqf:(iN n L S).length≤512:=by unfold iO at hn;omega
 refine ⟨.list b9 (U1 (iN n L S)),Xt ?_⟩
 unfold Oo
 refine bs (Xv (x:=n.st) (by omega)) ?_
 have key:Loop (yT CC (L:Int) 0 0 (L:Int) 0 ([]:List V) ([]:List V)) (0,tV n L S,n.L,n.S,(n.st:Int),(n.fin:Int),n.E.map Ed.enc,U1 [n.st],uM [n.st],([]:List V),([]:List V))=
   some (.inr (((iN n L S).length:Int),false,tV n L S,n.L,n.S,(n.st:Int),(n.fin:Int),n.E.map Ed.enc,U1 (iN n L S),uM (iN n L S),(jq n L S).c8,(jq n L S).cB)):=by
  refine (fZ (iN n L S).length (fun i=>((i:Int),tV n L S,n.L,n.S,(n.st:Int),(n.fin:Int),n.E.map Ed.enc,U1 (aA L (sn n.E) n.st i),uM (aA L (sn n.E) n.st i),(tab i fun j=>V.bool ((jq n L S).fin j)),(tab i fun j=>kf L ((jq n L S).nx j)))) _ (fun i hi=> ?_) ?_)
  ·have mT:=HZ hd hi
   have hiK:i<2^S:=kq hi hd
   have Ob:(aA L (sn n.E) n.st i)[i]=(iN n L S)[i]:=(nc (show i≤2^S by omega)).getElem mT
   have aqg:=hle (i+1)
   have aqh:=hle i
   have:=Ou h mT (by omega) (U:=iN n L S) (nc (by omega)) (l1:=[]) (l2:=[]) (l3:=(tab i fun j=>V.bool ((jq n L S).fin j))) (l4:=(tab i fun j=>kf L ((jq n L S).nx j))) (by rw[eo];omega) (by rw[eo];omega)
   rw[ah (by omega),Ob] at this
   rw[this,tZ,tZ]
   have e1:(jq n L S).fin i=sf n.fin (iN n L S)[i]:=NT hi
   have e2:kf L ((jq n L S).nx i)= .list bD (tab L fun x=>nV ((iN n L S).idxOf (sn n.E (iN n L S)[i] x))):=by
    unfold kf
    refine congrArg _ (ep fun x hx=> ?_)
    rw[show (jq n L S).nx i x=_ from Cv hi hx];rfl
   rw[e1,e2]
  ·simp only[yT,Du,un]
   rw[show aA L (sn n.E) n.st (iN n L S).length=iN n L S from NV hd,jm]
   refine bF (bJ (aI _)) ?_
   rw[bJ (aI _)]
   have e3:(jq n L S).n=(iN n L S).length:=nd
   unfold Da.c8 Da.cB
   rw[e3];rfl
 refine bs key ?_
 rfl
theorem ahA (hn:iO n L S): ∃X,CC vR (nV L::uV n.st:: .list eD (tV n L S)::m7 n [])=some ([nV 0,nV 0,.int .i64 3,.list eD (tV n L S)]++(m7 n []++[.list ag [],.list ai [],X])):=by
 have h6:=h.l6
 have b6:=h.st
 have Xy:=h.pow
 obtain ⟨m,hm1,u6,hm3⟩:=aha (ag9 (show 512<(aA L (sn n.E) n.st (2^S)).length from hn)) (by omega)
 refine ⟨.list b9 [],Xt ?_⟩
 unfold Oo
 refine bs (Xv (x:=n.st) (by omega)) ?_
 have key: ∃r,Loop (yT CC (L:Int) 0 0 (L:Int) 0 ([]:List V) ([]:List V)) (0,tV n L S,n.L,n.S,(n.st:Int),(n.fin:Int),n.E.map Ed.enc,U1 [n.st],uM [n.st],([]:List V),([]:List V))=some r∧r=(.inl (3,tV n L S,n.L,n.S,(n.st:Int),(n.fin:Int),n.E.map Ed.enc,0,0,[],[],[])):=by
  refine yG (fun i st=> ∃l3 l4:List V,l3.length=i∧l4.length=i∧st=((i:Int),tV n L S,n.L,n.S,(n.st:Int),(n.fin:Int),n.E.map Ed.enc,U1 (aA L (sn n.E) n.st i),uM (aA L (sn n.E) n.st i),l3,l4)) _ m 0 _ (fun i _ hi st b6=> ?_) (fun st b6=> ?_) ⟨[],[],rfl,rfl,rfl⟩
  ·obtain ⟨l3,l4,e3,e4,rfl⟩:=b6
   obtain ⟨h1,h2⟩:=u6 i (by omega)
   have h3:=(u6 (i+1) (by omega)).2
   have:=Ou h h1 h2 (oM _) (l1:=[]) (l2:=[]) (l3:=l3) (l4:=l4) (by omega) (by omega)
   rw[ah (by omega)] at this
   exact ⟨_,this,_,_,by simp[e3],by simp[e4],rfl⟩
  ·obtain ⟨l3,l4,e3,e4,rfl⟩:=b6
   rw[dV] at*
   obtain ⟨h1,h2⟩:=u6 m (by omega)
   have:=Ou h h1 h2 (oM _) (l1:=[]) (l2:=[]) (l3:=l3) (l4:=l4) (by omega) (by omega)
   rw[af (by omega)] at this
   exact ⟨_,this,rfl⟩
 obtain ⟨r,h1,rfl⟩:=key
 refine bs h1 ?_
 rfl
theorem ahB (hn: ¬iO n L S): ∃X,CC BL (m7 n [])=some (Xx (jq n L S) 0 (.list b9 X)):=by
 obtain ⟨X,hX⟩:=ahz h hn
 refine ⟨X.toList,Xu ?_⟩
 unfold Oq
 have hv:=Vp n h.ok
 rw[h.code] at hv
 refine bs hv (bF rfl ?_)
 have hs:=VL n h.ok h.good
 rw[h.lL,h.sS] at hs
 refine bs hs ?_
 refine bs ((congrArg (fun z=>CC vR (.int .i64 z::uV n.st:: .list eD (tV n L S)::m7 n [])) h.hL).trans hX) ?_
 rfl
theorem ahC (hn:iO n L S): ∃X,CC BL (m7 n [])=some (Xx zD 3 (.list b9 X)):=by
 obtain ⟨X,hX⟩:=ahA h hn
 refine ⟨X.toList,Xu ?_⟩
 unfold Oq
 have hv:=Vp n h.ok
 rw[h.code] at hv
 refine bs hv (bF rfl ?_)
 have hs:=VL n h.ok h.good
 rw[h.lL,h.sS] at hs
 refine bs hs ?_
 refine bs ((congrArg (fun z=>CC vR (.int .i64 z::uV n.st:: .list eD (tV n L S)::m7 n [])) h.hL).trans hX) ?_
 rfl
theorem yV (hn: ¬iO n L S):(jq n L S).Ok:=by
 unfold iO at hn
 exact V0 (yU h _) h.l1 h.l6 (show (iN n L S).length≤512 by omega)
theorem ahD {w:List Nat} (hw:WL L w):(jq n L S).acc 0 w=sf n.fin (w.foldl (sn n.E) n.st):=by
 have h1:=VZ (fin:=sf n.fin) (yU h _) (Cs _) hw
 have h2:=VW (L:=L) (next:=sn n.E) (a0:=n.st) (2^S)
 rw[bI (Cs _)] at h2
 rw[cX h2] at h1
 exact h1
end
noncomputable abbrev Xz:Code:=cN Tryd.prog (aD.bd 106)
noncomputable def Dv (C:ae) (a b':List V) (t12 t13:Int) {β:Type} (kn:Int→Option β) (kr:((Bool) ⊕ (Int × Bool))→Option β):Option β:=
 bif decide ((t13:Int)<t12) then
  (idx a t13).bind fun x1=>
  (idx b' t13).bind fun x2=>
  bif (x1.toInt:Int) != x2.toInt then
  kr (.inl false)
  else
  kn (IntKind.wrap .i64 (t13+1))
 else
  kr (.inr (t13,decide ((t13:Int)<t12)))
noncomputable def Ov (C:ae) (a b':List V) (t12:Int):(Int)→Option ((Int) ⊕ ((Bool) ⊕ (Int × Bool))):=fun t13=>Dv C a b' t12 t13 (fun y=>some (.inl y)) (fun r=>some (.inr r))
noncomputable def XA (C:ae):cH:=fun β n ds k=>
 bif Nat.beq n 65 then bE MU [false,false,false,true] [[0],[1,2,3,0,0]] (@Dv C) ds k else
 none
abbrev ahE (C:ae) (b:cE):Prop:=cF Tryd.prog aD C (XA C) 106 (cQ Tryd.prog (aD.bd 106)) (aD.sin 106).bf.length b
theorem ahF (C:ae):ahE C (.loop (av [1,1,0,1,0,0] Xz)):=
 bH MU [false,false,false,true] [[0],[1,2,3,0,0]] (@Dv C) (by kernel_rfl) (bc (bs:=[]) (by kernel_rfl) aC) (fun ds=>by kernel_rfl) (fun i x=>by kernel_rfl) (fun i x β k=>by kernel_rfl) (fun β ds k=>by kernel_rfl)
noncomputable def XB (C:ae) (a b':List V):Option (List V):=
 bif ((a.length:Int):Int) != (b'.length:Int) then
  some [.bool false]
 else
  (Loop (Ov C a b' (a.length:Int)) 0).bind (dy (fun (lA:Bool)=>
   some [.bool lA]) (un fun (ka:Int) (m9:Bool)=>
   some [.bool true]))
theorem ahG {a b':List V} {r:Option (List V)} (h:XB CC a b'=r):CC Hf [.list bD a,.list bD b']=r:=
 bC (key:=106) (L:=XA CC) (bs:=[.loop (av [1,1,0,1,0,0] Xz)]) (by kernel_rfl) (bt (ahF CC) aC) (bw (by kernel_rfl) h)
noncomputable abbrev XC:Code:=cN Tryd.prog (aD.bd 104)
noncomputable def Dw (C:ae) (t13:List V) (t14 t15:Int) (sF outs:List V) {β:Type} (kn:(Int × (List V) × (List V))→Option β) (kr:(Int × Bool × (List V) × (List V))→Option β):Option β:=
 bif decide ((t15:Int)<t14) then
  (idx t13 t15).bind fun x1=>
  bif dq .i64 x1.toInt&&true then
  bif !(gO (.int .i64 x1.toInt) sF) then
   bif dq .i64 x1.toInt&&true then
   bif (decide (0≤t15))&&(decide (t15<(outs.length:Int))) then
    (outs[(t15:Int).toNat]?).bind fun x2=>
    kn (IntKind.wrap .i64 (t15+1),fQ (.int .i64 x1.toInt) (.int .i64 (sF.length:Int)) sF,outs.set ((t15:Int).toNat) (.int .i64 (sF.length:Int)))
   else none
   else none
  else
   bif (decide (0≤t15))&&(decide (t15<(outs.length:Int))) then
   (outs[(t15:Int).toNat]?).bind fun x3=>
   kn (IntKind.wrap .i64 (t15+1),sF,outs.set ((t15:Int).toNat) (.int .i64 ((jA (.int .i64 x1.toInt) sF (.int .i64 0)).toInt)))
   else none
  else none
 else
  kr (t15,decide ((t15:Int)<t14),sF,outs)
noncomputable def Ow (C:ae) (t13:List V) (t14:Int):(Int × (List V) × (List V))→Option ((Int × (List V) × (List V)) ⊕ (Int × Bool × (List V) × (List V))):=un fun t15=>un fun sF outs=>Dw C t13 t14 t15 sF outs (fun y=>some (.inl y)) (fun r=>some (.inr r))
noncomputable def XD (C:ae):cH:=fun β n ds k=>
 bif Nat.beq n 65 then bE MS [false,false,true,true,true] [[1,2,0,0,0,0]] (@Dw C) ds k else
 none
abbrev ahH (C:ae) (b:cE):Prop:=cF Tryd.prog aD C (XD C) 104 (cQ Tryd.prog (aD.bd 104)) (aD.sin 104).bf.length b
theorem ahI (C:ae):ahH C (.loop (av [1,1,1,0,1,0,0] XC)):=
 bH MS [false,false,true,true,true] [[1,2,0,0,0,0]] (@Dw C) (by kernel_rfl) (bc (bs:=[]) (by kernel_rfl) aC) (fun ds=>by kernel_rfl) (fun i x=>by kernel_rfl) (fun i x β k=>by kernel_rfl) (fun β ds k=>by kernel_rfl)
noncomputable def XE (C:ae) (l:List V):Option (List V):=
 bif (decide (0≤(l.length:Int)))&&((decide ((l.length:Int)≤(l.length:Int)))&&(Nat.ble ((((l.length:Int):Int).toNat)*8) ct)) then
  (Loop (Ow C l (l.length:Int)) (0,([]:List V),List.replicate (((l.length:Int):Int).toNat) (V.int .i64 0))).bind (un fun (ka:Int)=>un fun (m9:Bool)=>un fun (aqi:List V) (ahJ:List V)=>
   some [.list bD ahJ])
 else none
theorem ahK {l:List V} {r:Option (List V)} (h:XE CC l=r):CC BN [.list bD l]=r:=
 bC (key:=104) (L:=XD CC) (bs:=[.loop (av [1,1,1,0,1,0,0] XC)]) (by kernel_rfl) (bt (ahI CC) aC) (bw (by kernel_rfl) h)
noncomputable abbrev XF:Code:=cN Tryd.prog (aD.bd 105)
noncomputable def Dx (C:ae) (p q:List V) (t11 t12:Int) (outs:List V) {β:Type} (kn:(Int × (List V))→Option β) (kr:(Int × Bool × (List V))→Option β):Option β:=
 bif decide ((t12:Int)<t11) then
  (idx p t12).bind fun x1=>
  (idx q t12).bind fun x2=>
  bif (decide (0≤t12))&&(decide (t12<(outs.length:Int))) then
  (outs[(t12:Int).toNat]?).bind fun x3=>
  kn (IntKind.wrap .i64 (t12+1),outs.set ((t12:Int).toNat) (.int .i64 (IntKind.wrap .i64 ((IntKind.wrap .i64 ((IntKind.wrap .i64 ((p.length:Int)+1))*x1.toInt))+x2.toInt))))
  else none
 else
  kr (t12,decide ((t12:Int)<t11),outs)
noncomputable def Ox (C:ae) (p q:List V) (t11:Int):(Int × (List V))→Option ((Int × (List V)) ⊕ (Int × Bool × (List V))):=un fun t12 outs=>Dx C p q t11 t12 outs (fun y=>some (.inl y)) (fun r=>some (.inr r))
noncomputable def XG (C:ae):cH:=fun β n ds k=>
 bif Nat.beq n 49 then bE MT [false,false,false,true,true] [[1,2,3,0,0,0]] (@Dx C) ds k else
 none
abbrev ahL (C:ae) (b:cE):Prop:=cF Tryd.prog aD C (XG C) 105 (cQ Tryd.prog (aD.bd 105)) (aD.sin 105).bf.length b
theorem ahM (C:ae):ahL C (.loop (av [1,1,0,1,0,0] XF)):=
 bH MT [false,false,false,true,true] [[1,2,3,0,0,0]] (@Dx C) (by kernel_rfl) (bc (bs:=[]) (by kernel_rfl) aC) (fun ds=>by kernel_rfl) (fun i x=>by kernel_rfl) (fun i x β k=>by kernel_rfl) (fun β ds k=>by kernel_rfl)
noncomputable def XH (C:ae) (p q:List V):Option (List V):=
 bif (decide (0≤(p.length:Int)))&&((decide ((p.length:Int)≤(p.length:Int)))&&(Nat.ble ((((p.length:Int):Int).toNat)*8) ct)) then
  (Loop (Ox C p q (p.length:Int)) (0,List.replicate (((p.length:Int):Int).toNat) (V.int .i64 0))).bind (un fun (ka:Int)=>un fun (m9:Bool) (ahN:List V)=>
   (C BN [.list bD ahN]).bind fun r7=>
   some [.list bD ((V.nth r7 0).toList)])
 else none
theorem ahO {p q:List V} {r:Option (List V)} (h:XH CC p q=r):CC He [.list bD p,.list bD q]=r:=
 bC (key:=105) (L:=XG CC) (bs:=[.loop (av [1,1,0,1,0,0] XF)]) (by kernel_rfl) (bt (ahM CC) aC) (bw (by kernel_rfl) h)
noncomputable abbrev ub:Code:=cN Tryd.prog (aD.bd 84)
noncomputable def Dy (C:ae) (t14 a8 bj:Int) (bz br:List V) (t15:Int) (ps:List V) {β:Type} (kn:(Int × (List V))→Option β) (kr:(Int × Bool × (List V))→Option β):Option β:=
 bif decide ((t15:Int)<t14) then
  (idx bz t15).bind fun x1=>
  bif x1.toBool then
  bif (decide (0≤t15))&&(decide (t15<(ps.length:Int))) then
   (ps[(t15:Int).toNat]?).bind fun x2=>
   kn (IntKind.wrap .i64 (t15+1),ps.set ((t15:Int).toNat) (.int .i64 1))
  else none
  else
  kn (IntKind.wrap .i64 (t15+1),ps)
 else
  kr (t15,decide ((t15:Int)<t14),ps)
noncomputable def Oy (C:ae) (t14 a8 bj:Int) (bz br:List V):(Int × (List V))→Option ((Int × (List V)) ⊕ (Int × Bool × (List V))):=un fun t15 ps=>Dy C t14 a8 bj bz br t15 ps (fun y=>some (.inl y)) (fun r=>some (.inr r))
noncomputable def Dz (C:ae) (p next':List V) (x t37 a8 bj:Int) (bz br:List V) (t38:Int) (DA:List V) {β:Type} (kn:(Int × (List V))→Option β) (kr:(Int × Bool × (List V))→Option β):Option β:=
 bif decide ((t38:Int)<t37) then
  (idx br t38).bind fun x7=>
  (idx x7.toList x).bind fun x8=>
  (idx p x8.toInt).bind fun x9=>
  bif Nat.ble ((DA.length+([.int .i64 x9.toInt]:List V).length)*8) ct then
  kn (IntKind.wrap .i64 (t38+1),DA++([.int .i64 x9.toInt]:List V))
  else none
 else
  kr (t38,decide ((t38:Int)<t37),DA)
noncomputable def IN (C:ae) (p next':List V) (x t37 a8 bj:Int) (bz br:List V):(Int × (List V))→Option ((Int × (List V)) ⊕ (Int × Bool × (List V))):=un fun t38 DA=>Dz C p next' x t37 a8 bj bz br t38 DA (fun y=>some (.inl y)) (fun r=>some (.inr r))
noncomputable def DB (C:ae) (p:List V) (a8 bj:Int) (bz br next':List V) (x:Int) {β:Type} (kn:((List V) × Int)→Option β) (kr:((List V) × Int × Bool)→Option β):Option β:=
 bif decide ((x:Int)<a8) then
  (Loop (IN C p next' x (p.length:Int) a8 bj bz br) (0,([]:List V))).bind (un fun (Oa:Int)=>un fun (yW:Bool) (ahP:List V)=>
   (C He [.list bD next',.list bD ahP]).bind fun yX=>
   kn ((V.nth yX 0).toList,IntKind.wrap .i64 (x+1)))
 else
  kr (next',x,decide ((x:Int)<a8))
noncomputable def IP (C:ae) (p:List V) (a8 bj:Int) (bz br:List V):((List V) × Int)→Option (((List V) × Int) ⊕ ((List V) × Int × Bool)):=un fun next' x=>DB C p a8 bj bz br next' x (fun y=>some (.inl y)) (fun r=>some (.inr r))
noncomputable def DC (C:ae) (a8 bj:Int) (bz br p:List V) {β:Type} (kn:List V→Option β) (kr:(List V)→Option β):Option β:=
 (Loop (IP C p a8 bj bz br) (p,0)).bind (un fun (XI:List V)=>un fun (aqj:Int) (Il:Bool)=>
  (C Hf [.list bD XI,.list bD p]).bind fun eJ=>
  bif (V.nth eJ 0).toBool then
   kr p
  else
   kn XI)
noncomputable def DD (C:ae) (a8 bj:Int) (bz br:List V):(List V)→Option ((List V) ⊕ (List V)):=fun p=>DC C a8 bj bz br p (fun y=>some (.inl y)) (fun r=>some (.inr r))
noncomputable def XJ (C:ae):cH:=fun β n ds k=>
 bif Nat.beq n 49 then bE MG [false,true,false,false,false,false,true] [[1,0,0,3,4,5,6,0]] (@Dy C) ds k else
 bif Nat.beq n 241 then bE MH [false,false,false,false,true,false,false,false,false,true] [[1,2,3,4,0,0,6,7,8,9,0]] (@Dz C) ds k else
 bif Nat.beq n 177 then bE MI [false,true,true,false,false,false,false] [[1,0,0,0,4,5,6,7]] (@DB C) ds k else
 bif Nat.beq n 145 then bE MJ [true,false,false,false,false] [[0]] (@DC C) ds k else
 none
abbrev IQ (C:ae) (b:cE):Prop:=cF Tryd.prog aD C (XJ C) 84 (cQ Tryd.prog (aD.bd 84)) (aD.sin 84).bf.length b
theorem ahQ (C:ae):IQ C (.loop (av [1,1,0,1,0,0] ub)):=
 bH MG [false,true,false,false,false,false,true] [[1,0,0,3,4,5,6,0]] (@Dy C) (by kernel_rfl) (bc (bs:=[]) (by kernel_rfl) aC) (fun ds=>by kernel_rfl) (fun i x=>by kernel_rfl) (fun i x β k=>by kernel_rfl) (fun β ds k=>by kernel_rfl)
theorem ahR (C:ae):IQ C (.loop (av [1,1,1,1,0,0,0,1,0,1,0,0,1,0,0,1,0,1,0,0] ub)):=
 bH MH [false,false,false,false,true,false,false,false,false,true] [[1,2,3,4,0,0,6,7,8,9,0]] (@Dz C) (by kernel_rfl) (bc (bs:=[]) (by kernel_rfl) aC) (fun ds=>by kernel_rfl) (fun i x=>by kernel_rfl) (fun i x β k=>by kernel_rfl) (fun β ds k=>by kernel_rfl)
theorem ahS (C:ae):IQ C (.loop (av [1,1,1,1,0,0,0,1,0,1,0,0] ub)):=
 bH MI [false,true,true,false,false,false,false] [[1,0,0,0,4,5,6,7]] (@DB C) (by kernel_rfl) (bc (bs:=[.loop (av [1,1,1,1,0,0,0,1,0,1,0,0,1,0,0,1,0,1,0,0] ub)]) (by kernel_rfl) (bt (ahR C) aC)) (fun ds=>by kernel_rfl) (fun i x=>by kernel_rfl) (fun i x β k=>by kernel_rfl) (fun β ds k=>by kernel_rfl)
theorem ahT (C:ae):IQ C (.loop (av [1,1,1,1,0,0] ub)):=
 bH MJ [true,false,false,false,false] [[0]] (@DC C) (by kernel_rfl) (bc (bs:=[.loop (av [1,1,1,1,0,0,0,1,0,1,0,0] ub)]) (by kernel_rfl) (bt (ahS C) aC)) (fun ds=>by kernel_rfl) (fun i x=>by kernel_rfl) (fun i x β k=>by kernel_rfl) (fun β ds k=>by kernel_rfl)
noncomputable def XK (C:ae) (aw az:Int) (ar ay:List V):Option (List V):=
 bif (decide (0≤(ar.length:Int)))&&((decide ((ar.length:Int)≤(ar.length:Int)))&&(Nat.ble ((((ar.length:Int):Int).toNat)*8) ct)) then
  (Loop (Oy C ((List.replicate (((ar.length:Int):Int).toNat) (V.int .i64 0)).length:Int) aw az ar ay) (0,List.replicate (((ar.length:Int):Int).toNat) (V.int .i64 0))).bind (un fun (lA:Int)=>un fun (ka:Bool) (ahU:List V)=>
   (C BN [.list bD ahU]).bind fun r6=>
   (Loop (DD C aw az ar ay) ((V.nth r6 0).toList)).bind (fun (XL:List V)=>
    some [.list bD XL]))
 else none
theorem ahV {aw az:Int} {ar ay:List V} {r:Option (List V)} (h:XK CC aw az ar ay=r):CC LP [.int .i64 aw,.int .i64 az,.list ag ar,.list ai ay]=r:=
 bC (key:=84) (L:=XJ CC) (bs:=[.loop (av [1,1,0,1,0,0] ub),.loop (av [1,1,1,1,0,0] ub)]) (by kernel_rfl) (bt (ahQ CC) (bt (ahT CC) aC)) (bw (by kernel_rfl) h)
theorem yY {n:Nat} {c:Nat→Nat}:(cV n c).length=n:=by simp[cV]
theorem yZ {n q:Nat} {c:Nat→Nat} (h:q<n):idx (cV n c) (q:Int)=some (nV (c q)):=sx h
theorem IS {n q:Nat} {f:Nat→V} {z v:V} (hv:v=f q):(tab n fun j=>if j<q then f j else z).set q v=tab n fun j=>if j<q+1 then f j else z:=by
 rw[hv,pr]
 refine ep fun j _=> ?_
 by_cases hj:j=q
 ·rw[af hj,af (by omega),hj]
 ·rw[ah hj]
  by_cases cv:j<q
  ·rw[af cv,af (by omega)]
  ·rw[ah cv,ah (by omega)]
theorem Oz {n:Nat} {f:Nat→V} {z:V}:(tab n fun j=>if j<n then f j else z)=tab n f:=ep fun j hj=>af hj
theorem XM {n:Nat} {g:Nat→Nat} (hn:n≤1000) (hg: ∀q,q<n→g q≤1000000000):CC BN [.list bD (cV n g)]=some [.list bD (cV n (cz g n))]:=by
 refine ahK ?_
 unfold XE
 rw[yY]
 refine bT (ng (by omega) (by omega)) ?_
 rw[Int.toNat_natCast,pt]
 refine bs (fZ n (fun i=>((i:Int),ga nV 0 (aW g i),(tab n fun q=>if q<i then nV (cz g n q) else nV 0))) ((n:Int),false,ga nV 0 (aW g n),cV n (cz g n)) (fun q hq=> ?_) ?_) ?_
 ·have hle:=sB g q
  simp only[Ow,Dw,un]
  refine bT (dA hq) ?_
  refine bs (yZ hq) ?_
  have hk:dq .i64 (g q:Int)=true:=Ig (by have:=hg q hq;omega)
  refine bT (by simp only[nV,V.toInt_int,hk,zV]) ?_
  have e1:=CK yJ (g q) (aW g q) 0
  rw[da (by omega)]
  simp only[nV,V.toInt_int]
  rw[show (V.int .i64 (g q:Int))=nV (g q) from rfl]
  by_cases hx:g q∈aW g q
  ·refine bF (by rw[show gO (nV (g q)) _=_ from e1];simpa using hx) ?_
   refine (dN hq).trans ?_
   have e2:=CL yJ (g q) (.int .i64 0) (aW g q) 0 hx
   rw[dV,←WV hq hx] at e2
   rw[show jA (nV (g q)) _ (.int .i64 0)=_ from e2,V.toInt_int,Int.toNat_natCast,Od hx]
   exact congrArg (fun x=>some (Sum.inl (((q+1:Nat):Int),ga nV 0 (aW g q),x))) (IS (f:=fun j=>nV (cz g n j)) rfl)
  ·refine bT (by rw[show gO (nV (g q)) _=_ from e1];simpa using hx) ?_
   refine bT (by simp only[hk,zV]) ?_
   refine (dN hq).trans ?_
   have e2:=CM yJ (g q) (aW g q) 0 hx
   rw[dV] at e2
   rw[show List.length (ga nV 0 (aW g q))=(aW g q).length from yI _ _,show fQ (nV (g q)) _ _=_ from e2,Int.toNat_natCast,←WW hq hx,Oe hx]
   exact congrArg (fun x=>some (Sum.inl (((q+1:Nat):Int),ga nV 0 (aW g q++[g q]),x))) (IS (f:=fun j=>nV (cz g n j)) rfl)
 ·simp only[Ow,Dw,un]
  refine bF (bJ (aI _)) ?_
  rw[bJ (aI _)]
  exact congrArg (fun x=>some (Sum.inr ((n:Int),false,ga nV 0 (aW g n),x))) (Oz (f:=fun j=>nV (cz g n j)))
 ·rfl
def lJ (n:Nat) (p q:Nat→Nat) (i:Nat):Nat:=p i*(n+1)+q i
theorem ahW {n:Nat} {p q:Nat→Nat} (hn:n≤512) (hp: ∀i,i<n→p i≤1000) (hq: ∀i,i<n→q i≤1000):CC He [.list bD (cV n p),.list bD (cV n q)]=some [.list bD (cV n (cz (lJ n p q) n))]:=by
 have hb: ∀i,i<n→lJ n p q i≤1000000000:=fun i hi=>by
  have h1:=hp i hi
  have h2:=hq i hi
  have:=Nat.mul_le_mul h1 (show n+1≤513 by omega)
  unfold lJ
  omega
 refine ahO ?_
 unfold XH
 rw[yY]
 refine bT (ng (by omega) (by omega)) ?_
 rw[Int.toNat_natCast,pt]
 refine bs (fZ n (fun i=>((i:Int),(tab n fun j=>if j<i then nV (lJ n p q j) else nV 0))) ((n:Int),false,cV n (lJ n p q)) (fun i hi=> ?_) ?_) ?_
 ·simp only[Ox,Dx,un]
  refine bT (dA hi) ?_
  refine bs (yZ hi) ?_
  refine bs (yZ hi) ?_
  refine (dN hi).trans ?_
  have h1:=hp i hi
  have h2:=hq i hi
  have h3:=hb i hi
  have h4:IntKind.wrap .i64 ((IntKind.wrap .i64 ((IntKind.wrap .i64 (((cV n p).length:Int)+1))*(p i:Int)))+(q i:Int))=(lJ n p q i:Int):=by
   rw[yY,da (by omega)]
   have e:((n+1:Nat):Int)*(p i:Int)=((p i*(n+1):Nat):Int):=by rw[iv];push_cast;rfl
   unfold lJ at*
   rw[e]
   have h5:p i*(n+1)≤1000000000:=by omega
   generalize p i*(n+1)=z at*
   rw[wrap64 (x:=(z:Int)) (by omega) (by omega),wrap64 (by omega) (by omega)]
   push_cast;rfl
  simp only[nV,V.toInt_int]
  rw[h4,da (by omega),Int.toNat_natCast]
  exact congrArg (fun x=>some (Sum.inl (((i+1:Nat):Int),x))) (IS (f:=fun j=>nV (lJ n p q j)) rfl)
 ·simp only[Ox,Dx,un]
  refine bF (bJ (aI _)) ?_
  rw[bJ (aI _)]
  exact congrArg (fun x=>some (Sum.inr ((n:Int),false,x))) (Oz (f:=fun j=>nV (lJ n p q j)))
 ·simp only[un]
  refine bs (XM (by omega) hb) ?_
  rfl
theorem XN {n:Nat} {p q:Nat→Nat} (hn:n≤1000):CC Hf [.list bD (cV n p),.list bD (cV n q)]=some [.bool (decide (∀i,i<n→p i=q i))]:=by
 refine ahG ?_
 unfold XB
 rw[yY,yY]
 refine bF (by simp) ?_
 refine bs (tU (fun i=>p i=q i) n (fun i=>(i:Int)) (.inl false:Bool ⊕ (Int × Bool)) (.inr ((n:Int),false)) (fun i hi=> ?_) ?_) ?_
 ·simp only[Ov,Dv]
  refine bT (dA hi) ?_
  refine bs (yZ hi) ?_
  refine bs (yZ hi) ?_
  simp only[nV,V.toInt_int]
  by_cases h:p i=q i
  ·refine bF (by simp[h]) ?_
   rw[af h,da (by omega)]
  ·refine bT (by simp;omega) ?_
   rw[ah h]
 ·simp only[Ov,Dv]
  refine bF (bJ (aI _)) ?_
  rw[bJ (aI _)]
 ·by_cases h: ∀i,i<n→p i=q i
  ·rw[af h,bO h];rfl
  ·rw[ah h,dE h];rfl
theorem ahX {n:Nat} {p q:Nat→Nat} {i j:Nat} (hi:q i≤n) (hj:q j≤n):lJ n p q i=lJ n p q j↔p i=p j∧q i=q j:=by
 unfold lJ
 constructor
 ·intro h
  have h1:(p i*(n+1)+q i)/(n+1)=p i:=by rw[iv,zS (by omega),zT (by omega)];rfl
  have h2:(p j*(n+1)+q j)/(n+1)=p j:=by rw[iv,zS (by omega),zT (by omega)];rfl
  have h3:p i=p j:=by rw[←h1,←h2,h]
  rw[h3] at h
  exact ⟨h3,by omega⟩
 ·rintro ⟨h1,h2⟩
  rw[h1,h2]
section
variable {a:Da} (h:a.Ok)
def jM (a:Da) (c:Nat→Nat):Nat→Nat→Nat
 | 0=>c
 | x+1=>cz (lJ a.n (jM a c x) fun q=>c (a.nx q x)) a.n
theorem XO {c:Nat→Nat} (hc: ∀q,q<a.n→c q<a.n): ∀x q,q<a.n→jM a c x q<a.n
 | 0,q,hq=>hc q hq
 | x+1,q,hq=>by
  have h1:=CY (g:=lJ a.n (jM a c x) fun q=>c (a.nx q x)) hq
  have h2:=sB (lJ a.n (jM a c x) fun q=>c (a.nx q x)) a.n
  show cz _ _ _<_
  omega
include h
theorem ahY {c:Nat→Nat} (hc: ∀q,q<a.n→c q<a.n): ∀x,x≤a.L→∀q q',q<a.n→q'<a.n→(jM a c x q=jM a c x q'↔c q=c q'∧∀y,y<x→c (a.nx q y)=c (a.nx q' y)):=by
 intro x
 induction x with
 | zero=>intro _ q q' _ _;exact ⟨fun e=>⟨e,fun y hy=>by omega⟩,fun e=>e.1⟩
 | succ x ih=>
  intro hx q q' hq cj
  show cz _ _ _=cz _ _ _↔_
  rw[CZ hq cj,ahX (by have:=hc _ (h.dH hq (show x<a.L by omega));omega) (by have:=hc _ (h.dH cj (show x<a.L by omega));omega),ih (by omega) q q' hq cj]
  constructor
  ·rintro ⟨⟨e1,e2⟩,e3⟩
   refine ⟨e1,fun y hy=> ?_⟩
   rcases eg y x with c1|c1
   ·exact e2 y c1
   ·rw[show y=x by omega];exact e3
  ·rintro ⟨e1,e2⟩
   exact ⟨⟨e1,fun y hy=>e2 y (by omega)⟩,e2 x (by omega)⟩
theorem ahZ {c:Nat→Nat} {x:Nat} (hx:x<a.L) {k1 k2:Int} {l1 l2:List V}:
  Loop (IN CC (cV a.n c) l1 (x:Int) ((cV a.n c).length:Int) k1 k2 l2 a.cB) (0,([]:List V))=some ((a.n:Int),false,cV a.n fun q=>c (a.nx q x)):=by
 have hm:=h.eE
 rw[yY]
 refine (fZ a.n (fun t=>((t:Int),(tab t fun q=>nV (c (a.nx q x))))) _ (fun q hq=> ?_) ?_)
 ·simp only[IN,Dz,un]
  refine bT (dA hq) ?_
  refine bs (Da.ot hq) ?_
  simp only[pw]
  refine bs (ou hx) ?_
  refine bs (yZ (h.dH hq hx)) ?_
  refine bT (cap (by rw[eo];simp;omega) (by omega)) ?_
  rw[da (by omega),tZ]
  rfl
 ·simp only[IN,Dz,un]
  refine bF (bJ (aI _)) ?_
  rw[bJ (aI _)]
  rfl
theorem XP {c:Nat→Nat} (hc: ∀q,q<a.n→c q<a.n) {k2:Int} {l2:List V}:
  Loop (IP CC (cV a.n c) (a.L:Int) k2 l2 a.cB) (cV a.n c,0)=some (cV a.n (jM a c a.L),(a.L:Int),false):=by
 have hm:=h.eE
 have h6:=h.l6
 refine (fZ a.L (fun x=>(cV a.n (jM a c x),(x:Int))) _ (fun x hx=> ?_) ?_)
 ·simp only[IP,DB,un]
  refine bT (dA hx) ?_
  refine bs (ahZ h hx) ?_
  refine bs (ahW hm (fun q hq=>by have:=XO hc x q hq;omega) fun q hq=>by have:=hc _ (h.dH hq hx);omega) ?_
  rw[da (by omega)]
  rfl
 ·simp only[IP,DB,un]
  refine bF (bJ (aI _)) ?_
  rw[bJ (aI _)]
theorem ah0 {c0:Nat→Nat} (hp0:a.Part c0) (ho0:py c0 a.n) (F7: ∀q,q<a.n→c0 q<a.n) {k2:Int} {l2:List V}: ∃p,Loop (DD CC (a.L:Int) k2 l2 a.cB) (cV a.n c0)=some (cV a.n p)∧a.wc p∧∀q,q<a.n→p q<a.n:=by
 have hm:=h.eE
 have:=Ly (step:=DD CC (a.L:Int) k2 l2 a.cB)
  (fun x=> ∃c,x=cV a.n c∧a.Part c∧py c a.n∧∀q,q<a.n→c q<a.n)
  (fun x=>a.n-(aW (fun q=>(x.getD q (nV 0)).toInt) a.n).length)
  (fun r=> ∃p,r=cV a.n p∧a.wc p∧∀q,q<a.n→p q<a.n) (fun x hx=> ?_) (cV a.n c0) ⟨c0,rfl,hp0,ho0,F7⟩
 ·obtain ⟨r,h1,p,rfl,h2,h3⟩:=this
  exact ⟨p,h1,h2,h3⟩
 ·obtain ⟨c,rfl,hp,ho,hc⟩:=hx
  have ow:a.Is c (jM a c a.L):=fun q q' hq cj=>(ahY h hc a.L (aI _) q q' hq cj).trans Da.wa.symm
  have hb:=XO hc a.L
  have wh: ∀q q',q<a.n→q'<a.n→jM a c a.L q=jM a c a.L q'→c q=c q':=fun q q' hq cj e=>(Da.wa.1 ((ow q q' hq cj).1 e)).1
  have jF:py (jM a c a.L) a.n:=by
   have h1:=h.l1
   obtain ⟨m,hm⟩: ∃m,a.L=m+1:=⟨a.L-1,by omega⟩
   rw[hm]
   exact Of _ _
  by_cases he: ∀q,q<a.n→jM a c a.L q=c q
  ·right
   refine ⟨_,?_,c,rfl,⟨hp.WZ h fun q q' hq cj e=>(ow q q' hq cj).1 (by rw[he q hq,he q' cj,e]),ho⟩,hc⟩
   simp only[DD,DC,un]
   refine bs (XP h hc) ?_
   refine bs (XN (by omega)) ?_
   refine bT (by simpa using he) ?_
   rfl
  ·left
   refine ⟨cV a.n (jM a c a.L),?_,⟨jM a c a.L,rfl,ow.part h hp,jF,hb⟩,?_⟩
   ·simp only[DD,DC,un]
    refine bs (XP h hc) ?_
    refine bs (XN (by omega)) ?_
    refine bF (by rw[V.cq,V.j8];exact dE he) ?_
    rfl
   ·have ec: ∀d:Nat→Nat,(aW (fun q=>((cV a.n d).getD q (nV 0)).toInt) a.n).length=(aW d a.n).length:=fun d=>by
     have key: ∀m,m≤a.n→aW (fun q=>((cV a.n d).getD q (nV 0)).toInt) m=(aW d m).map fun n:Nat=>(n:Int):=by
      intro m
      induction m with
      | zero=>intro _;rfl
      | succ m ih=>
       intro hm
       have e:((cV a.n d).getD m (nV 0)).toInt=(d m:Int):=by unfold cV;rw[sw (by omega)];rfl
       rw[aW,aW,ih (by omega),e]
       unfold di
       by_cases hx:d m∈aW d m
       ·rw[af hx,af (fg.2 ⟨d m,hx,rfl⟩)]
       ·rw[ah hx,ah]
        ·simp
        ·intro h2
         obtain ⟨y,h3,h4⟩:=fg.1 h2
         exact hx ((show y=d m by omega)▸h3)
     rw[key a.n (aI _),cM]
    simp only[ec]
    have agQ:=WY wh
    have hle:=sB (jM a c a.L) a.n
    have bY:(aW c a.n).length≠(aW (jM a c a.L) a.n).length:=by
     intro e
     have b6:=Og wh (by omega)
     refine he fun q hq=> ?_
     have h1:=agz (f:=jM a c a.L) (c:=c) (fun s s' hs tH=>⟨wh s s' hs tH,b6 s s' hs tH⟩) q hq
     have own: ∀(d:Nat→Nat),py d a.n→cz d a.n q=d q:=fun d hd=>by
      have h2:d q∈aW d a.n:=jo.2 ⟨q,hq,rfl⟩
      unfold cz
      rw[hd a.n (aI _)] at h2⊢
      have h3:=gG.1 h2
      have h4:=(List.nodup_range (n:=(aW d a.n).length)).idxOf_getElem (d q) (by rw[E2];exact h3)
      rwa [List.getElem_range] at h4
     rw[own _ jF,own _ ho] at h1
     exact h1
    omega
theorem ah1: ∃p,CC LP (dt a)=some [.list bD (cV a.n p)]∧a.wc p∧∀q,q<a.n→p q<a.n:=by
 have hm:=h.eE
 have hf0: ∀q,q<a.n→(if a.fin q=true then 1 else 0)≤1000000000:=fun q _=>by split<;>omega
 have hb: ∀q,q<a.n→cz (fun q=>if a.fin q=true then 1 else 0) a.n q<a.n:=fun q hq=>by
  have h1:=CY (g:=fun q=>if a.fin q=true then 1 else 0) hq
  have h2:=sB (fun q=>if a.fin q=true then 1 else 0) a.n
  omega
 obtain ⟨p,h1,h2,h3⟩:=ah0 h (c0:=cz (fun q=>if a.fin q=true then 1 else 0) a.n)
  ⟨fun q q' hq cj he=>(CZ hq cj).2 (by have:=he [] WL.nil;rw[Da.oq,Da.oq] at this;rw[this]),
   fun q q' hq cj he=>by
   have h1:=(CZ hq cj).1 he
   revert h1
   cases a.fin q<;>cases a.fin q'<;>simp⟩ (Of _ _) hb (k2:=(a.st:Int)) (l2:=a.c8)
 refine ⟨p,ahV ?_,h2,h3⟩
 unfold XK
 rw[Da.lE]
 refine bT (ng (by omega) (by omega)) ?_
 rw[Int.toNat_natCast,pt,eo]
 refine bs (fZ a.n (fun i=>((i:Int),(tab a.n fun j=>if j<i then nV (if a.fin j=true then 1 else 0) else nV 0))) ((a.n:Int),false,cV a.n fun q=>if a.fin q=true then 1 else 0) (fun q hq=> ?_) ?_) ?_
 ·simp only[Oy,Dy,un]
  refine bT (dA hq) ?_
  refine bs (Da.yH hq) ?_
  rw[da (by omega),V.j8]
  cases hf:a.fin q with
  | true=>
   refine bT rfl ?_
   refine (dN hq).trans ?_
   rw[Int.toNat_natCast]
   exact congrArg (fun x=>some (Sum.inl (((q+1:Nat):Int),x))) (IS (f:=fun j=>nV (if a.fin j=true then 1 else 0)) (by rw[hf];rfl))
  | false=>
   refine bF rfl ?_
   refine congrArg (fun x=>some (Sum.inl (((q+1:Nat):Int),x))) (ep fun j _=> ?_)
   by_cases hj:j=q
   ·rw[ah (show¬j<q by omega),af (show j<q+1 by omega),hj,hf];rfl
   ·by_cases cv:j<q
    ·rw[af cv,af (show j<q+1 by omega)]
    ·rw[ah cv,ah (show¬j<q+1 by omega)]
 ·simp only[Oy,Dy,un]
  refine bF (bJ (aI _)) ?_
  rw[bJ (aI _)]
  exact congrArg (fun x=>some (Sum.inr ((a.n:Int),false,x))) (Oz (f:=fun j=>nV (if a.fin j=true then 1 else 0)))
 ·simp only[un]
  refine bs (XM (by omega) hf0) ?_
  refine bs h1 ?_
  rfl
end
end Go.AM
set_option maxRecDepth 100000
namespace Go.AM
open Go.Proofs Go.Sort
section
variable {α:Type} {enc:α→V}
def qB (enc:α→V) (d:Array α):List V:=d.toList.map enc
theorem gA (d:Array α):(qB enc d).length=d.size:=by simp[qB]
theorem gB (d:Array α) (i:Nat) (x:α):(qB enc d).set i (enc x)=qB enc (d.setIfInBounds i x):=by
 unfold qB;rw[Array.toList_setIfInBounds,List.map_set]
variable [Inhabited α]
theorem gC {d:Array α} {i:Nat} (h:i<d.size):(qB enc d)[i]? =some (enc d[i]!):=by
 unfold qB;rw[eM,s6,kY h,getElem!_pos d i h];rfl
theorem iP {d:Array α} {i j:Nat} {x:α} (h:i<d.size):(qB enc (d.setIfInBounds j x))[i]? =some (enc (d.setIfInBounds j x)[i]!):=gC (by rw[g9];exact h)
theorem gD (a b:Nat):(a:Int)+(b:Int)=((a+b:Nat):Int):=(Int.natCast_add a b).symm
theorem dC (a:Nat):(a:Int)+1=((a+1:Nat):Int):=rfl
theorem wj (a:Nat):((a+1:Nat):Int)-1=(a:Int):=by omega
theorem DE (a:Nat):(a:Int)*2=((a*2:Nat):Int):=by omega
theorem np {a b:Nat} (h:b≤a):(a:Int)-(b:Int)=((a-b:Nat):Int):=by omega
theorem kS {a:Nat} (h:1≤a):(a:Int)-1=((a-1:Nat):Int):=by omega
theorem divC (a b:Nat):Int.tdiv (a:Int) (b:Int)=((a/b:Nat):Int):=by rw[Int.tdiv_eq_ediv_of_nonneg (by omega)];rfl
theorem ox {p:Prop} [Decidable p] (h:p):decide p=true:=bO h
theorem pz {p:Prop} [Decidable p] (h: ¬p):decide p=false:=dE h
variable {lt:α→α→Bool}
theorem XQ (a j:Nat) (d:Array α):insInner lt a (j+1) d=if j+1>a&&lt d[j+1]! d[j]! then insInner lt a j (swp d (j+1) j) else d:=rfl
theorem OA {a:Nat}: ∀(j:Nat) (d:Array α),(insInner lt a j d).size=d.size
 | 0,d=>rfl
 | j+1,d=>by
  rw[XQ]
  split
  ·rw[OA j,size_swp]
  ·rfl
theorem DF (hi first:Nat): ∀(n root:Nat) (d:Array α),hi-root≤n→(siftDown lt hi first root d).size=d.size:=by
 intro n
 induction n with
 | zero=>intro root d h;rw[siftDown,oI (by omega)]
 | succ n ih=>
  intro root d h
  rw[siftDown]
  split
  ·rfl
  ·split
   ·split
    ·rfl
    ·split
     ·rw[ih _ _ (by omega),size_swp]
     ·rfl
   ·split
    ·rfl
    ·rw[ih _ _ (by omega),size_swp]
theorem OB (hi first:Nat): ∀(k:Nat) (d:Array α),(heapBuild lt hi first k d).size=d.size
 | 0,d=>rfl
 | k+1,d=>by rw[heapBuild,OB,DF _ _ _ _ _ (aI _)]
end
end Go.AM
set_option maxRecDepth 100000
set_option maxHeartbeats 1000000
namespace Go.AM
open Go.Proofs
theorem Ed.lt_irrefl (a:Ed): ¬a.lt a:=by unfold Ed.lt;omega
theorem Ed.lt_trans {a b c:Ed}:a.lt b→b.lt c→a.lt c:=by unfold Ed.lt;omega
theorem Ed.lt_asymm {a b:Ed}:a.lt b→¬b.lt a:=by unfold Ed.lt;omega
theorem Ed.XR {a b:Ed} (h1: ¬a.lt b) (h2: ¬b.lt a):a=b:=by
 cases a;cases b
 simp only[Ed.lt,Ed.mk.injEq] at*
 omega
abbrev oy (E:List Ed):Prop:=E.Pairwise Ed.lt
def Ed.key (e:Ed):Nat:=(e.f.toNat*6+e.l.toNat)*64+e.t.toNat
theorem Ed.ah2 {a b:Ed} {L S:Int} (hL:L≤6) (hS:S≤64) (ha:a.In L S) (hb:b.In L S) (h:a.lt b):a.key<b.key:=by
 unfold Ed.In at ha hb
 unfold Ed.lt at h
 unfold Ed.key
 omega
theorem ah3 {L S:Int} (hL:L≤6) (hS:S≤64): ∀(E:List Ed),oy E→(∀e∈E,e.In L S)→∀i (hi:i<E.length),i≤E[i].key:=by
 intro E h hE i
 induction i with
 | zero=>intro hi;omega
 | succ i ih=>
  intro hi
  have h1:=ih (by omega)
  have h2:=(wU.1 h) i (i+1) (by omega) hi (by omega)
  have:=Ed.ah2 hL hS (hE _ (eU _)) (hE _ (eU _)) h2
  omega
theorem ah4 {L S:Int} (hL:L≤6) (hS:S≤64) {E:List Ed} (h:oy E) (hE: ∀e∈E,e.In L S):E.length≤24576:=by
 by_cases h0:E.length=0
 ·omega
 ·have h1:=ah3 hL hS E h hE (E.length-1) (by omega)
  have h2:=hE E[E.length-1] (eU _)
  unfold Ed.In at h2
  unfold Ed.key at h1
  omega
theorem XS: ∀{A B:List Ed},oy A→oy B→(∀x,x∈A↔x∈B)→A=B
 | [],[],_,_,_=>rfl
 | [],b::B,_,_,h=>by have:=(h b).2 (by simp);cases this
 | a::A,[],_,_,h=>by have:=(h a).1 (by simp);cases this
 | a::A,b::B,hA,hB,h=>by
  have a1:=uC.1 hA
  have b1:=uC.1 hB
  have gq:a=b:=by
   have ha:=(h a).1 (by simp)
   have hb:=(h b).2 (by simp)
   rcases gh.1 ha with e|e
   ·exact e
   ·rcases gh.1 hb with e'|e'
    ·exact e'.symm
    ·exact absurd (a1.1 b e') (Ed.lt_asymm (b1.1 a e))
  subst gq
  rw[XS a1.2 b1.2 fun x=> ?_]
  constructor
  ·intro hx
   rcases gh.1 ((h x).1 (by simp[hx])) with e|e
   ·subst e;exact absurd (a1.1 x hx) (Ed.lt_irrefl x)
   ·exact e
  ·intro hx
   rcases gh.1 ((h x).2 (by simp[hx])) with e|e
   ·subst e;exact absurd (b1.1 x hx) (Ed.lt_irrefl x)
   ·exact e
def kg (out:List Ed) (e:Ed):Nat→Nat
 | 0=>0
 | k+1=>if e.lt (out.getD k default) then kg out e k else k+1
def uc (out:List Ed) (e:Ed):List Ed:=
 if kg out e out.length=0∨¬out.getD (kg out e out.length-1) default=e then out.take (kg out e out.length)++[e]++out.drop (kg out e out.length) else out
def sG (l:List Ed):List Ed:=l.foldl uc []
theorem OC (out:List Ed) (e:Ed): ∀k,kg out e k≤k
 | 0=>aI _
 | k+1=>by unfold kg;split;exact Nat.le_succ_of_le (OC out e k);exact aI _
theorem XT (out:List Ed) (e:Ed): ∀k i,kg out e k≤i→i<k→e.lt (out.getD i default)
 | 0,i,_,h=>by omega
 | k+1,i,h1,h2=>by
  unfold kg at h1
  split at h1
  ·rename_i h3
   by_cases hi:i=k
   ·subst hi;exact h3
   ·exact XT out e k i h1 (by omega)
  ·omega
theorem XU (out:List Ed) (e:Ed): ∀k,kg out e k≠0→¬e.lt (out.getD (kg out e k-1) default)
 | 0,h=>by simp[kg] at h
 | k+1,h=>by
  unfold kg at h⊢
  split
  ·rename_i h3
   rw[af h3] at h
   exact XU out e k h
  ·rename_i h3
   simpa using h3
theorem ah5 {out:List Ed} {e x:Ed} (hk:kg out e out.length≤out.length):x∈uc out e↔x=e∨x∈out:=by
 unfold uc
 split
 ·rename_i h
  have:=List.take_append_drop (kg out e out.length) out
  constructor
  ·intro hx
   simp only[cY,er,gY] at hx
   rcases hx with hx|hx|hx
   ·exact .inr (EY hx)
   ·exact .inl hx
   ·exact .inr (List.mem_of_mem_drop hx)
  ·rintro (rfl|hx)
   ·simp
   ·rw[←this] at hx
    simp only[er] at hx
    simp only[cY,er,gY]
    rcases hx with hx|hx
    ·exact .inl hx
    ·exact .inr (.inr hx)
 ·rename_i h
  simp only[not_or,Classical.not_not] at h
  constructor
  ·exact .inr
  ·rintro (rfl|hx)
   ·have h1:=h.2
    have h2:kg out x out.length-1<out.length:=by omega
    rw[←h1]
    simp[h2]
   ·exact hx
theorem ah6 {out:List Ed} {e:Ed} (h:oy out):oy (uc out e):=by
 have hk:=OC out e out.length
 have up:=XT out e out.length
 have dn:=XU out e out.length
 unfold uc
 generalize hq:kg out e out.length=k at*
 split
 ·rename_i hc
  have g:=wU.1 h
  have je: ∀x∈out.take k,x.lt e:=by
   intro x hx
   obtain ⟨i,hi,rfl⟩:=uD hx
   have eh:i<k:=by rw[iT] at hi;omega
   have rE:i<out.length:=by omega
   rw[List.getElem_take]
   have XV:k≠0:=by omega
   have h1:=dn XV
   have h2: ¬out.getD (k-1) default=e:=by
    rcases hc with hc|hc
    ·exact absurd hc XV
    ·exact hc
   have lV:k-1<out.length:=by omega
   have e1:out.getD (k-1) default=out[k-1]:=by simp[lV]
   rw[e1] at h1 h2
   have h3:out[k-1].lt e:=by
    by_cases h4:out[k-1].lt e
    ·exact h4
    ·exact absurd (Ed.XR h4 h1) h2
   by_cases hik:i=k-1
   ·subst hik;exact h3
   ·exact Ed.lt_trans (g i (k-1) rE lV (by omega)) h3
  have ig: ∀y∈out.drop k,e.lt y:=by
   intro y hy
   obtain ⟨i,hi,rfl⟩:=uD hy
   rw[List.length_drop] at hi
   rw[List.getElem_drop]
   have:=up (k+i) (by omega) (by omega)
   have e1:out.getD (k+i) default=out[k+i]:=by simp[show k+i<out.length by omega]
   rwa [e1] at this
  rw[oy,cY,List.pairwise_append]
  refine ⟨h.sublist (List.take_sublist _ _),?_,?_⟩
  ·rw[List.singleton_append,uC]
   exact ⟨ig,h.sublist (List.drop_sublist _ _)⟩
  ·intro x hx y hy
   rw[List.singleton_append,gh] at hy
   rcases hy with rfl|hy
   ·exact je x hx
   ·exact Ed.lt_trans (je x hx) (ig y hy)
 ·exact h
theorem OD: ∀(l out:List Ed),oy out→oy (l.foldl uc out)∧∀x,x∈l.foldl uc out↔x∈l∨x∈out
 | [],out,h=>⟨h,by simp⟩
 | e::l,out,h=>by
  obtain ⟨h1,h2⟩:=OD l (uc out e) (ah6 h)
  refine ⟨h1,fun x=> ?_⟩
  rw[List.foldl_cons,h2,ah5 (OC _ _ _)]
  simp only[gh]
  constructor
  ·rintro (h|h|h)
   ·exact .inl (.inr h)
   ·exact .inl (.inl h)
   ·exact .inr h
  ·rintro ((h|h)|h)
   ·exact .inr (.inl h)
   ·exact .inl h
   ·exact .inr (.inr h)
theorem OE (l:List Ed):oy (sG l):=(OD l [] List.Pairwise.nil).1
theorem y4 {l:List Ed} {x:Ed}:x∈sG l↔x∈l:=by
 have:=(OD l [] List.Pairwise.nil).2 x
 simpa[sG] using this
theorem IT (a b:Ed):((a.f==b.f)&&((a.l==b.l)&&((a.t==b.t)&&true)))=decide (a=b):=by
 cases a;cases b
 rw[lM]
 simp
end Go.AM
set_option maxRecDepth 100000
namespace Go.AM
open Go.Proofs
noncomputable abbrev IU:Code:=cN Tryd.prog (aD.bd 91)
noncomputable def y5 (C:ae) (DG wk:Nat) (k' kT:Int) (ss:List V) {β:Type} (kn:(Int × Int × (List V))→Option β) (kr:(Int × Int × Bool × (List V))→Option β):Option β:=
 bif decide ((kT:Int)<(wk:Int)) then
  bif (decide (0≤kT))&&(decide (kT<(wk:Int))) then
  (ss[DG+((kT:Int).toNat)]?).bind fun x3=>
  bif (decide (0≤(IntKind.wrap .i64 (kT-1))))&&(decide ((IntKind.wrap .i64 (kT-1))<(wk:Int))) then
   (ss[DG+((IntKind.wrap .i64 (kT-1):Int).toNat)]?).bind fun x4=>
   bif !(((((x3.cell 0).toInt):Int)==((x4.cell 0).toInt))&&(((((x3.cell 1).toInt):Int)==((x4.cell 1).toInt))&&(((((x3.cell 2).toInt):Int)==((x4.cell 2).toInt))&&true))) then
   bif (decide (0≤kT))&&(decide (kT<(wk:Int))) then
    (ss[DG+((kT:Int).toNat)]?).bind fun x5=>
    bif (decide (0≤k'))&&(decide (k'<(ss.length:Int))) then
    (ss[(k':Int).toNat]?).bind fun x6=>
    kn (IntKind.wrap .i64 (k'+1),IntKind.wrap .i64 (kT+1),ss.set ((k':Int).toNat) (.agg [.int .i64 ((x5.cell 0).toInt),.int .i64 ((x5.cell 1).toInt),.int .i64 ((x5.cell 2).toInt)]))
    else none
   else none
   else
   kn (k',IntKind.wrap .i64 (kT+1),ss)
  else none
  else none
 else
  kr (k',kT,decide ((kT:Int)<(wk:Int)),ss)
noncomputable def wm (C:ae) (DG wk:Nat):(Int × Int × (List V))→Option ((Int × Int × (List V)) ⊕ (Int × Int × Bool × (List V))):=un fun k'=>un fun kT ss=>y5 C DG wk k' kT ss (fun y=>some (.inl y)) (fun r=>some (.inr r))
noncomputable def y6 (C:ae) (ss:List V) (k':Int) {β:Type} (kn:Int→Option β) (kr:((List V) ⊕ (Int × Bool))→Option β):Option β:=
 bif decide ((k':Int)<(ss.length:Int)) then
  bif (decide (0≤k'))&&(decide (k'<(ss.length:Int))) then
  (ss[(k':Int).toNat]?).bind fun x1=>
  bif (decide (0≤(IntKind.wrap .i64 (k'-1))))&&(decide ((IntKind.wrap .i64 (k'-1))<(ss.length:Int))) then
   (ss[(IntKind.wrap .i64 (k'-1):Int).toNat]?).bind fun x2=>
   bif ((((x1.cell 0).toInt):Int)==((x2.cell 0).toInt))&&(((((x1.cell 1).toInt):Int)==((x2.cell 1).toInt))&&(((((x1.cell 2).toInt):Int)==((x2.cell 2).toInt))&&true)) then
   bif (decide (0≤k'))&&(decide (k'≤(ss.length:Int))) then
    (Loop (wm C ((k':Int).toNat) (ss.length-((k':Int).toNat))) (k',1,ss)).bind (un fun (nq:Int)=>un fun (k_8:Int)=>un fun (v8:Bool) (sH:List V)=>
     bif (decide (0≤nq))&&(decide (nq≤(sH.length:Int))) then
     bif (decide (0≤nq))&&(decide (nq≤((sH.take ((nq:Int).toNat)++(List.replicate (sH.length-((nq:Int).toNat)) (V.agg [.int .i64 0,.int .i64 0,.int .i64 0])++sH.drop (((nq:Int).toNat)+(sH.length-((nq:Int).toNat))))).length:Int))) then
      kr (.inl ((sH.take ((nq:Int).toNat)++(List.replicate (sH.length-((nq:Int).toNat)) (V.agg [.int .i64 0,.int .i64 0,.int .i64 0])++sH.drop (((nq:Int).toNat)+(sH.length-((nq:Int).toNat))))).take ((nq:Int).toNat)))
     else none
     else none)
   else none
   else
   kn (IntKind.wrap .i64 (k'+1))
  else none
  else none
 else
  kr (.inr (k',decide ((k':Int)<(ss.length:Int))))
noncomputable def wo (C:ae) (ss:List V):(Int)→Option ((Int) ⊕ ((List V) ⊕ (Int × Bool))):=fun k'=>y6 C ss k' (fun y=>some (.inl y)) (fun r=>some (.inr r))
noncomputable def XW (C:ae):cH:=fun β n ds k=>
 bif Nat.beq n 145 then bE MO [true,false,false,true,true] [[0,2,3,0,0,0]] (@y5 C) ds k else
 bif Nat.beq n 65 then bE MP [true,false] [[0],[0,0,2]] (@y6 C) ds k else
 none
abbrev XX (C:ae) (b:cE):Prop:=cF Tryd.prog aD C (XW C) 91 (cQ Tryd.prog (aD.bd 91)) (aD.sin 91).bf.length b
theorem ah7 (C:ae):XX C (.loop (av [1,1,0,1,0,0,1,0,0,1,0,1,0,1,0,0] IU)):=
 bH MO [true,false,false,true,true] [[0,2,3,0,0,0]] (@y5 C) (by kernel_rfl) (bc (bs:=[]) (by kernel_rfl) aC) (fun ds=>by kernel_rfl) (fun i x=>by kernel_rfl) (fun i x β k=>by kernel_rfl) (fun β ds k=>by kernel_rfl)
theorem ah8 (C:ae):XX C (.loop (av [1,1,0,1,0,0] IU)):=
 bH MP [true,false] [[0],[0,0,2]] (@y6 C) (by kernel_rfl) (bc (bs:=[.loop (av [1,1,0,1,0,0,1,0,0,1,0,1,0,1,0,0] IU)]) (by kernel_rfl) (bt (ah7 C) aC)) (fun ds=>by kernel_rfl) (fun i x=>by kernel_rfl) (fun i x β k=>by kernel_rfl) (fun β ds k=>by kernel_rfl)
noncomputable def IV (C:ae) (ss:List V):Option (List V):=
 bif decide (((ss.length:Int):Int)<2) then
  some [V.bool true,.list aF ss]
 else
  (Loop (wo C ss) 1).bind (dy (fun (ah9:List V)=>
   some [V.bool false,.list aF ah9]) (un fun (aqk:Int) (su:Bool)=>
   some [V.bool true,.list aF ss]))
theorem OF {ss:List V} {r:Option (List V)} (h:IV CC ss=r):CC Ha [.list aF ss]=r:=
 bC (key:=91) (L:=XW CC) (bs:=[.loop (av [1,1,0,1,0,0] IU)]) (by kernel_rfl) (bt (ah8 CC) aC) (bw (by kernel_rfl) h)
def oz (prev:Ed):List Ed→List Ed
 | []=>[]
 | x::l=>if x=prev then oz x l else x::oz x l
def iQ:List Ed→List Ed
 | []=>[]
 | x::l=>x::oz x l
theorem OG {l:List Ed} {j:Nat} (h:j<l.length):l.take (j+1)=l.take j++[l.getD j default]:=by
 rw[E1 h];simp[h]
theorem XY {l ss:List Ed} {j:Nat} (hl:ss.length=l.length) (h:ss.drop j=l.drop j) (hj:j<l.length):ss.getD j default=l.getD j default:=by
 have h1:=congrArg (fun x:List Ed=>x.getD 0 default) h
 simpa[hj,hl] using h1
theorem DH {l:List Ed} {i:Nat} (h:i<l.length):(l.map Ed.enc)[i]? =some (l.getD i default).enc:=by simp[h]
theorem aia (ss:List Ed) (m:Nat) (z:V) (hm:m≤ss.length):((((ss.map Ed.enc).take m++(List.replicate ((ss.map Ed.enc).length-m) z++(ss.map Ed.enc).drop (m+((ss.map Ed.enc).length-m)))).take m)=(ss.take m).map Ed.enc):=by
 rw[List.take_append_of_le_length (by simp;omega),uH (by simp;omega),List.map_take]
theorem XZ: ∀(m:List Ed) (prev x:Ed),oz prev (m++[x])=oz prev m++(if x=(prev::m).getD m.length default then [] else [x])
 | [],prev,x=>by simp only[List.nil_append,oz,List.length_nil,List.getD_cons_zero]
 | y::m,prev,x=>by
  have ih:=XZ m y x
  simp only[List.cons_append,oz,List.length_cons,List.getD_cons_succ]
  split
  ·exact ih
  ·rw[ih];rfl
theorem X0 {l:List Ed} {p:Nat} (h1:1≤p) (h2:p<l.length):iQ (l.take (p+1))=iQ (l.take p)++(if l.getD p default=l.getD (p-1) default then [] else [l.getD p default]):=by
 match l,p,h1,h2 with
 | y::l,p+1,_,h2=>
  simp only[List.length_cons] at h2
  rw[List.take_succ_cons,List.take_succ_cons,iQ,iQ,OG (by omega),XZ]
  simp only[List.getD_cons_succ,iT,EU]
  rw[show min p l.length=p by omega]
  have:(y::l.take p).getD p default=(y::l).getD p default:=by
   match p with
   | 0=>rfl
   | q+1=>simp only[List.getD_cons_succ];rw[nF,nF,fv (by omega)]
  rw[this];rfl
theorem X1: ∀(m:List Ed) (prev:Ed),(prev::m).Pairwise (fun x y=> ¬y.lt x)→oy (prev::oz prev m)∧∀x,x∈prev::oz prev m↔x∈prev::m
 | [],prev,_=>⟨by simp[oz],by simp[oz]⟩
 | y::m,prev,h=>by
  have h1:=uC.1 h
  obtain ⟨i1,i2⟩:=X1 m y h1.2
  rw[oz]
  by_cases hc:y=prev
  ·rw[af hc]
   subst hc
   refine ⟨i1,fun x=> ?_⟩
   rw[i2 x];simp
  ·rw[ah hc]
   have aY:prev.lt y:=by
    by_cases h2:prev.lt y
    ·exact h2
    ·exact absurd (Ed.XR h2 (h1.1 y (by simp))) fun e=>hc e.symm
   refine ⟨uC.2 ⟨fun x hx=> ?_,i1⟩,fun x=> ?_⟩
   ·rcases gh.1 hx with rfl|hx
    ·exact aY
    ·exact Ed.lt_trans aY ((uC.1 i1).1 x hx)
   ·rw[gh,i2 x,←gh]
theorem aib {l:List Ed} (h:l.Pairwise (fun x y=> ¬y.lt x)):oy (iQ l)∧∀x,x∈iQ l↔x∈l:=by
 match l,h with
 | [],_=>exact ⟨List.Pairwise.nil,fun _=>Iff.rfl⟩
 | y::l,h=>exact X1 l y h
section
variable {l:List Ed} (hn:l.length≤1000000)
include hn
theorem aic {k:Nat}: ∀(d k2 i:Nat) (ss:List Ed),k+k2+d=l.length→1≤k2→i+1≤k+k2→ss.length=l.length→ss.take i=iQ (l.take (k+k2))→ss.drop (k+k2-1)=l.drop (k+k2-1)→
  ∃t u y7,Loop (wm CC k (l.length-k)) ((i:Int),(k2:Int),ss.map Ed.enc)=some (((iQ l).length:Int),u,t,List.map Ed.enc y7)∧y7.take (iQ l).length=iQ l∧y7.length=l.length:=by
 intro d
 induction d with
 | zero=>
  intro k2 i ss hj tM hi hl ht hd
  have e0:l.take (k+k2)=l:=uH (by omega)
  rw[e0] at ht
  have nZ:i=(iQ l).length:=by rw[←ht,iT];omega
  refine ⟨false,(k2:Int),ss,cl ?_,by rw[←nZ];exact ht,hl⟩
  simp only[wm,y5,un,cM,aJ]
  rw[ah (by omega),dE (by omega),nZ]
 | succ d ih=>
  intro k2 i ss hj tM hi hl ht hd
  have hp:k+k2<l.length:=by omega
  have lS:ss.drop (k+k2)=l.drop (k+k2):=by
   have h:=congrArg (List.drop 1) hd
   rw[List.drop_drop,List.drop_drop] at h
   rwa [show k+k2-1+1=k+k2 by omega] at h
  have g1:=XY hl lS hp
  have g0:=XY hl hd (show k+k2-1<l.length by omega)
  have x1:(ss.map Ed.enc)[k+k2]? =some (l.getD (k+k2) default).enc:=by rw[DH (by omega),g1]
  have x0:(ss.map Ed.enc)[k+(k2-1)]? =some (l.getD (k+k2-1) default).enc:=by rw[show k+(k2-1)=k+k2-1 by omega,DH (by omega),g0]
  have w1:IntKind.wrap .i64 ((k2:Int)-1)=((k2-1:Nat):Int):=by rw[wrap64 (by omega) (by omega)];omega
  have t1:((k2:Nat):Int)<((l.length-k:Nat):Int):=by omega
  have t2:(0:Int)≤((k2:Nat):Int):=by omega
  have t3:(0:Int)≤((k2-1:Nat):Int):=by omega
  have t4:((k2-1:Nat):Int)<((l.length-k:Nat):Int):=by omega
  have t5:((i:Nat):Int)<(ss.length:Int):=by omega
  have t6:(0:Int)≤((i:Nat):Int):=by omega
  have A7: ∃y,(ss.map Ed.enc)[i]? =some y:=⟨_,DH (by omega)⟩
  obtain ⟨y,hy⟩:=A7
  have cs:=X0 (l:=l) (p:=k+k2) (by omega) hp
  by_cases he:l.getD (k+k2) default=l.getD (k+k2-1) default
  ·have b6:wm CC k (l.length-k) ((i:Int),(k2:Int),ss.map Ed.enc)=some (.inl ((i:Int),((k2+1:Nat):Int),ss.map Ed.enc)):=by
    simp only[wm,y5,un]
    refine bT (bO t1) ?_
    refine bT (gZ.2 ⟨bO t2,bO t1⟩) ?_
    rw[Int.toNat_natCast]
    refine bs x1 ?_
    rw[w1]
    refine bT (gZ.2 ⟨bO t3,bO t4⟩) ?_
    rw[Int.toNat_natCast]
    refine bs x0 ?_
    simp only[Ed.dR,Ed.dS,Ed.dU,IT]
    rw[bO he]
    refine bF rfl ?_
    rw[wrap64 (by omega) (by omega)]
    rfl
   rw[eu b6]
   refine ih (k2+1) i ss (by omega) (by omega) (by omega) hl ?_ (by rw[show k+(k2+1)-1=k+k2 by omega];exact lS)
   rw[show k+(k2+1)=k+k2+1 by omega,cs,af he,iS,ht]
  ·have b6:wm CC k (l.length-k) ((i:Int),(k2:Int),ss.map Ed.enc)=some (.inl (((i+1:Nat):Int),((k2+1:Nat):Int),(ss.set i (l.getD (k+k2) default)).map Ed.enc)):=by
    simp only[wm,y5,un]
    refine bT (bO t1) ?_
    refine bT (gZ.2 ⟨bO t2,bO t1⟩) ?_
    rw[Int.toNat_natCast]
    refine bs x1 ?_
    rw[w1]
    refine bT (gZ.2 ⟨bO t3,bO t4⟩) ?_
    rw[Int.toNat_natCast]
    refine bs x0 ?_
    simp only[Ed.dR,Ed.dS,Ed.dU,IT]
    rw[dE he]
    refine bT rfl ?_
    refine bT (gZ.2 ⟨bO t2,bO t1⟩) ?_
    refine bs x1 ?_
    refine bT (by rw[cM];exact gZ.2 ⟨bO t6,bO t5⟩) ?_
    rw[Int.toNat_natCast]
    refine bs hy ?_
    simp only[Ed.dR,Ed.dS,Ed.dU,Ed.re]
    rw[wrap64 (by omega) (by omega),wrap64 (by omega) (by omega),List.map_set]
    rfl
   rw[eu b6]
   refine ih (k2+1) (i+1) (ss.set i (l.getD (k+k2) default)) (by omega) (by omega) (by omega) (by simpa using hl) ?_ ?_
   ·rw[OG (by rw[qS];omega),List.take_set_of_le (aI i),ht,show k+(k2+1)=k+k2+1 by omega,cs,ah he]
    simp[show i<ss.length by omega]
   ·rw[show k+(k2+1)-1=k+k2 by omega,List.drop_set_of_lt (by omega),lS]
theorem aid: ∀(d p:Nat),p+d=l.length→1≤p→iQ (l.take p)=l.take p→
  (iQ l=l∧∃t,Loop (wo CC (l.map Ed.enc)) (p:Int)=some (.inr t))∨Loop (wo CC (l.map Ed.enc)) (p:Int)=some (.inl ((iQ l).map Ed.enc)):=by
 intro d
 induction d with
 | zero=>
  intro p hp h1 hc
  obtain rfl:p=l.length:=by omega
  rw[sX] at hc
  refine .inl ⟨hc,((l.length:Int),false),cl ?_⟩
  simp only[wo,y6,cM,aJ]
  rw[ah (by omega),dE (by omega)]
 | succ d ih=>
  intro p hp h1 hc
  have fV:p<l.length:=by omega
  have cs:=X0 (l:=l) h1 fV
  have x1:(l.map Ed.enc)[p]? =some (l.getD p default).enc:=DH fV
  have x0:(l.map Ed.enc)[p-1]? =some (l.getD (p-1) default).enc:=DH (by omega)
  have w1:IntKind.wrap .i64 ((p:Int)-1)=((p-1:Nat):Int):=by rw[wrap64 (by omega) (by omega)];omega
  have t1:((p:Nat):Int)<(l.length:Int):=by omega
  have t2:(0:Int)≤((p:Nat):Int):=by omega
  have t3:(0:Int)≤((p-1:Nat):Int):=by omega
  have t4:((p-1:Nat):Int)<(l.length:Int):=by omega
  have t5:((p:Nat):Int)≤(l.length:Int):=by omega
  by_cases he:l.getD p default=l.getD (p-1) default
  ·refine .inr (cl ?_)
   obtain ⟨t,u,y7,e1,e2,e3⟩:=aic hn (k:=p) (l.length-(p+1)) 1 p l (by omega) (by omega) (by omega) rfl (by rw[cs,af he,iS,hc]) rfl
   have hm:(iQ l).length≤y7.length:=by
    have:=congrArg List.length e2
    rw[iT] at this
    omega
   have m1:(0:Int)≤(((iQ l).length:Nat):Int):=by omega
   have m2:(((iQ l).length:Nat):Int)≤((y7.map Ed.enc).length:Int):=by rw[cM];omega
   simp only[wo,y6,cM]
   refine bT (bO t1) ?_
   refine bT (gZ.2 ⟨bO t2,bO t1⟩) ?_
   rw[Int.toNat_natCast]
   refine bs x1 ?_
   rw[w1]
   refine bT (gZ.2 ⟨bO t3,bO t4⟩) ?_
   rw[Int.toNat_natCast]
   refine bs x0 ?_
   simp only[Ed.dR,Ed.dS,Ed.dU,IT]
   rw[bO he]
   refine bT rfl ?_
   refine bT (gZ.2 ⟨bO t2,bO t5⟩) ?_
   refine (congrArg (fun o=>Option.bind o _) e1).trans ?_
   simp only[Option.bind_some,un,dr,aJ,Int.toNat_natCast]
   rw[af m1,af m2,af m1,af (by simp only[dD,iT,uB,List.length_drop,cM];omega),aia _ _ _ hm,e2]
  ·have b6:wo CC (l.map Ed.enc) (p:Int)=some (.inl ((p+1:Nat):Int)):=by
    simp only[wo,y6,cM]
    refine bT (bO t1) ?_
    refine bT (gZ.2 ⟨bO t2,bO t1⟩) ?_
    rw[Int.toNat_natCast]
    refine bs x1 ?_
    rw[w1]
    refine bT (gZ.2 ⟨bO t3,bO t4⟩) ?_
    rw[Int.toNat_natCast]
    refine bs x0 ?_
    simp only[Ed.dR,Ed.dS,Ed.dU,IT]
    rw[dE he]
    refine bF rfl ?_
    rw[wrap64 (by omega) (by omega)]
    rfl
   rw[eu b6]
   exact ih (p+1) (by omega) (by omega) (by rw[cs,ah he,hc,←OG fV])
theorem X2: ∃b,CC Ha [.list aF (l.map Ed.enc)]=some [.bool b,.list aF ((iQ l).map Ed.enc)]:=by
 by_cases h2:l.length<2
 ·refine ⟨true,OF ?_⟩
  unfold IV
  rw[cM,aJ,af (by omega)]
  match l,h2 with
  | [],_=>rfl
  | [k],_=>rfl
 ·rcases aid hn (l.length-1) 1 (by omega) (by omega) (by
   match l,h2 with
   | k::l,_=>rfl) with ⟨h3,t,h4⟩|h4
  ·refine ⟨true,OF ?_⟩
   unfold IV
   rw[cM,aJ,ah (by omega)]
   refine (congrArg (fun o=>Option.bind o _) h4).trans ?_
   rw[h3];rfl
  ·refine ⟨false,OF ?_⟩
   unfold IV
   rw[cM,aJ,ah (by omega)]
   refine (congrArg (fun o=>Option.bind o _) h4).trans ?_
   rfl
end
noncomputable def X3 (C:ae) (sh si sj sk sm sq:Int):Option (List V):=
 (C rY [.int .i64 sh,.int .i64 sk]).bind fun r1=>
 (C rY [.int .i64 si,.int .i64 sm]).bind fun r2=>
 (C rY [.int .i64 sj,.int .i64 sq]).bind fun r3=>
 (C BK [.list bD ([.int .i64 ((V.nth r1 0).toInt),.int .i64 ((V.nth r2 0).toInt),.int .i64 ((V.nth r3 0).toInt)]:List V)]).bind fun r4=>
 some [.int .i64 ((V.nth r4 0).toInt)]
theorem aie {sh si sj sk sm sq:Int} {r:Option (List V)} (h:X3 CC sh si sj sk sm sq=r):CC bx [.int .i64 sh,.int .i64 si,.int .i64 sj,.int .i64 sk,.int .i64 sm,.int .i64 sq]=r:=
 bC (key:=88) (L:=dg) (bs:=[]) (by kernel_rfl) aC (bw (by kernel_rfl) h)
theorem gW (a b:Ed):CC bx [.int .i64 a.f,.int .i64 a.l,.int .i64 a.t,.int .i64 b.f,.int .i64 b.l,.int .i64 b.t]=some [.int .i64 (b8 a b)]:=by
 refine aie ?_
 unfold X3
 refine bs (yx _ _) ?_
 refine bs (yx _ _) ?_
 refine bs (yx _ _) ?_
 refine bs (Vm _ _ _) ?_
 rfl
noncomputable abbrev IW:Code:=cN Tryd.prog (aD.bd 170)
noncomputable def y8 (C:ae) (a b' i j:Int) (aj:List V) {β:Type} (kn:(Int × (List V))→Option β) (kr:(Int × Bool × (List V))→Option β):Option β:=
 bif decide ((j:Int)>a) then
  bif (decide (0≤j))&&(decide (j<(aj.length:Int))) then
  (aj[(j:Int).toNat]?).bind fun x1=>
  bif (decide (0≤(IntKind.wrap .i64 (j-1))))&&(decide ((IntKind.wrap .i64 (j-1))<(aj.length:Int))) then
   (aj[(IntKind.wrap .i64 (j-1):Int).toNat]?).bind fun x2=>
   (C bx [.int .i64 ((x1.cell 0).toInt),.int .i64 ((x1.cell 1).toInt),.int .i64 ((x1.cell 2).toInt),.int .i64 ((x2.cell 0).toInt),.int .i64 ((x2.cell 1).toInt),.int .i64 ((x2.cell 2).toInt)]).bind fun r3=>
   bif decide ((((V.nth r3 0).toInt):Int)<0) then
   bif (decide (0≤(IntKind.wrap .i64 (j-1))))&&(decide ((IntKind.wrap .i64 (j-1))<(aj.length:Int))) then
    (aj[(IntKind.wrap .i64 (j-1):Int).toNat]?).bind fun x4=>
    bif (decide (0≤j))&&(decide (j<(aj.length:Int))) then
    (aj[(j:Int).toNat]?).bind fun x5=>
    bif (decide (0≤j))&&(decide (j<(aj.length:Int))) then
     (aj[(j:Int).toNat]?).bind fun x6=>
     bif (decide (0≤(IntKind.wrap .i64 (j-1))))&&(decide ((IntKind.wrap .i64 (j-1))<((aj.set ((j:Int).toNat) (.agg [.int .i64 ((x4.cell 0).toInt),.int .i64 ((x4.cell 1).toInt),.int .i64 ((x4.cell 2).toInt)])).length:Int))) then
     ((aj.set ((j:Int).toNat) (.agg [.int .i64 ((x4.cell 0).toInt),.int .i64 ((x4.cell 1).toInt),.int .i64 ((x4.cell 2).toInt)]))[(IntKind.wrap .i64 (j-1):Int).toNat]?).bind fun x7=>
     kn (IntKind.wrap .i64 (j-1),(aj.set ((j:Int).toNat) (.agg [.int .i64 ((x4.cell 0).toInt),.int .i64 ((x4.cell 1).toInt),.int .i64 ((x4.cell 2).toInt)])).set ((IntKind.wrap .i64 (j-1):Int).toNat) (.agg [.int .i64 ((x5.cell 0).toInt),.int .i64 ((x5.cell 1).toInt),.int .i64 ((x5.cell 2).toInt)]))
     else none
    else none
    else none
   else none
   else
   kr (j,decide ((((V.nth r3 0).toInt):Int)<0),aj)
  else none
  else none
 else
  kr (j,false,aj)
noncomputable def y9 (C:ae) (a b' i:Int):(Int × (List V))→Option ((Int × (List V)) ⊕ (Int × Bool × (List V))):=un fun j aj=>y8 C a b' i j aj (fun y=>some (.inl y)) (fun r=>some (.inr r))
noncomputable def DI (C:ae) (a b' i:Int) (aj:List V) {β:Type} (kn:(Int × (List V))→Option β) (kr:(Int × Bool × (List V))→Option β):Option β:=
 bif decide ((i:Int)<b') then
  (Loop (y9 C a b' i) (i,aj)).bind (un fun (j_8:Int)=>un fun (v8:Bool) (pA:List V)=>
   kn (IntKind.wrap .i64 (i+1),pA))
 else
  kr (i,decide ((i:Int)<b'),aj)
noncomputable def IX (C:ae) (a b':Int):(Int × (List V))→Option ((Int × (List V)) ⊕ (Int × Bool × (List V))):=un fun i aj=>DI C a b' i aj (fun y=>some (.inl y)) (fun r=>some (.inr r))
noncomputable def X4 (C:ae):cH:=fun β n ds k=>
 bif Nat.beq n 65 then bE Nh [false,false,false,true,true] [[1,2,3,0,0,0]] (@y8 C) ds k else
 bif Nat.beq n 17 then bE Ni [false,false,true,true] [[1,2,0,0,0]] (@DI C) ds k else
 none
abbrev X5 (C:ae) (b:cE):Prop:=cF Tryd.prog aD C (X4 C) 170 (cQ Tryd.prog (aD.bd 170)) (aD.sin 170).bf.length b
theorem aif (C:ae):X5 C (.loop (av [1,0,0,1,0,0,1,0,0] IW)):=
 bH Nh [false,false,false,true,true] [[1,2,3,0,0,0]] (@y8 C) (by kernel_rfl) (bc (bs:=[]) (by kernel_rfl) aC) (fun ds=>by kernel_rfl) (fun i x=>by kernel_rfl) (fun i x β k=>by kernel_rfl) (fun β ds k=>by kernel_rfl)
theorem aih (C:ae):X5 C (.loop (av [1,0,0] IW)):=
 bH Ni [false,false,true,true] [[1,2,0,0,0]] (@DI C) (by kernel_rfl) (bc (bs:=[.loop (av [1,0,0,1,0,0,1,0,0] IW)]) (by kernel_rfl) (bt (aif C) aC)) (fun ds=>by kernel_rfl) (fun i x=>by kernel_rfl) (fun i x β k=>by kernel_rfl) (fun β ds k=>by kernel_rfl)
noncomputable def X6 (C:ae) (a b':Int) (aj:List V):Option (List V):=
 (Loop (IX C a b') (IntKind.wrap .i64 (a+1),aj)).bind (un fun (aql:Int)=>un fun (yR:Bool) (OH:List V)=>
  some [.list aF OH])
theorem aii {a b':Int} {aj:List V} {r:Option (List V)} (h:X6 CC a b' aj=r):CC Ho [.int .i64 a,.int .i64 b',.list aF aj]=r:=
 bC (key:=170) (L:=X4 CC) (bs:=[.loop (av [1,0,0] IW)]) (by kernel_rfl) (bt (aih CC) aC) (bw (by kernel_rfl) h)
noncomputable abbrev za:Code:=cN Tryd.prog (aD.bd 177)
noncomputable def wq (C:ae) (hi first root child:Int) (t40:Bool) (aj:List V) {β:Type} (kr:(Int)→Option β):Option β:=
 bif t40 then
  kr (IntKind.wrap .i64 (child+1))
 else
  kr child
noncomputable def ud (C:ae) (hi first root:Int) (aj:List V) {β:Type} (kn:(Int × (List V))→Option β) (kr:((Int × Int × Bool × (List V)) ⊕ (Int × Int × Bool × (List V)))→Option β):Option β:=
 bif decide (((IntKind.wrap .i64 ((IntKind.wrap .i64 (root*2))+1)):Int)≥hi) then
  kr (.inl (root,IntKind.wrap .i64 ((IntKind.wrap .i64 (root*2))+1),decide (((IntKind.wrap .i64 ((IntKind.wrap .i64 (root*2))+1)):Int)≥hi),aj))
 else
  bif decide (((IntKind.wrap .i64 ((IntKind.wrap .i64 ((IntKind.wrap .i64 (root*2))+1))+1)):Int)<hi) then
  bif (decide (0≤(IntKind.wrap .i64 (first+(IntKind.wrap .i64 ((IntKind.wrap .i64 (root*2))+1))))))&&(decide ((IntKind.wrap .i64 (first+(IntKind.wrap .i64 ((IntKind.wrap .i64 (root*2))+1))))<(aj.length:Int))) then
   (aj[(IntKind.wrap .i64 (first+(IntKind.wrap .i64 ((IntKind.wrap .i64 (root*2))+1))):Int).toNat]?).bind fun x1=>
   bif (decide (0≤(IntKind.wrap .i64 ((IntKind.wrap .i64 (first+(IntKind.wrap .i64 ((IntKind.wrap .i64 (root*2))+1))))+1))))&&(decide ((IntKind.wrap .i64 ((IntKind.wrap .i64 (first+(IntKind.wrap .i64 ((IntKind.wrap .i64 (root*2))+1))))+1))<(aj.length:Int))) then
   (aj[(IntKind.wrap .i64 ((IntKind.wrap .i64 (first+(IntKind.wrap .i64 ((IntKind.wrap .i64 (root*2))+1))))+1):Int).toNat]?).bind fun x2=>
   (C bx [.int .i64 ((x1.cell 0).toInt),.int .i64 ((x1.cell 1).toInt),.int .i64 ((x1.cell 2).toInt),.int .i64 ((x2.cell 0).toInt),.int .i64 ((x2.cell 1).toInt),.int .i64 ((x2.cell 2).toInt)]).bind fun r3=>
   wq C hi first root (IntKind.wrap .i64 ((IntKind.wrap .i64 (root*2))+1)) (decide ((((V.nth r3 0).toInt):Int)<0)) aj (fun (oA:Int)=>
    bif (decide (0≤(IntKind.wrap .i64 (first+root))))&&(decide ((IntKind.wrap .i64 (first+root))<(aj.length:Int))) then
     (aj[(IntKind.wrap .i64 (first+root):Int).toNat]?).bind fun x5=>
     bif (decide (0≤(IntKind.wrap .i64 (first+oA))))&&(decide ((IntKind.wrap .i64 (first+oA))<(aj.length:Int))) then
     (aj[(IntKind.wrap .i64 (first+oA):Int).toNat]?).bind fun x6=>
     (C bx [.int .i64 ((x5.cell 0).toInt),.int .i64 ((x5.cell 1).toInt),.int .i64 ((x5.cell 2).toInt),.int .i64 ((x6.cell 0).toInt),.int .i64 ((x6.cell 1).toInt),.int .i64 ((x6.cell 2).toInt)]).bind fun r7=>
     bif !(decide ((((V.nth r7 0).toInt):Int)<0)) then
      kr (.inr (root,oA,!(decide ((((V.nth r7 0).toInt):Int)<0)),aj))
     else
      bif (decide (0≤(IntKind.wrap .i64 (first+oA))))&&(decide ((IntKind.wrap .i64 (first+oA))<(aj.length:Int))) then
      (aj[(IntKind.wrap .i64 (first+oA):Int).toNat]?).bind fun x8=>
      bif (decide (0≤(IntKind.wrap .i64 (first+root))))&&(decide ((IntKind.wrap .i64 (first+root))<(aj.length:Int))) then
       (aj[(IntKind.wrap .i64 (first+root):Int).toNat]?).bind fun x9=>
       bif (decide (0≤(IntKind.wrap .i64 (first+root))))&&(decide ((IntKind.wrap .i64 (first+root))<(aj.length:Int))) then
       (aj[(IntKind.wrap .i64 (first+root):Int).toNat]?).bind fun jn=>
       bif (decide (0≤(IntKind.wrap .i64 (first+oA))))&&(decide ((IntKind.wrap .i64 (first+oA))<((aj.set ((IntKind.wrap .i64 (first+root):Int).toNat) (.agg [.int .i64 ((x8.cell 0).toInt),.int .i64 ((x8.cell 1).toInt),.int .i64 ((x8.cell 2).toInt)])).length:Int))) then
        ((aj.set ((IntKind.wrap .i64 (first+root):Int).toNat) (.agg [.int .i64 ((x8.cell 0).toInt),.int .i64 ((x8.cell 1).toInt),.int .i64 ((x8.cell 2).toInt)]))[(IntKind.wrap .i64 (first+oA):Int).toNat]?).bind fun gy=>
        kn (oA,(aj.set ((IntKind.wrap .i64 (first+root):Int).toNat) (.agg [.int .i64 ((x8.cell 0).toInt),.int .i64 ((x8.cell 1).toInt),.int .i64 ((x8.cell 2).toInt)])).set ((IntKind.wrap .i64 (first+oA):Int).toNat) (.agg [.int .i64 ((x9.cell 0).toInt),.int .i64 ((x9.cell 1).toInt),.int .i64 ((x9.cell 2).toInt)]))
       else none
       else none
      else none
      else none
     else none
    else none)
   else none
  else none
  else
  wq C hi first root (IntKind.wrap .i64 ((IntKind.wrap .i64 (root*2))+1)) false aj (fun (oB:Int)=>
   bif (decide (0≤(IntKind.wrap .i64 (first+root))))&&(decide ((IntKind.wrap .i64 (first+root))<(aj.length:Int))) then
    (aj[(IntKind.wrap .i64 (first+root):Int).toNat]?).bind fun kh=>
    bif (decide (0≤(IntKind.wrap .i64 (first+oB))))&&(decide ((IntKind.wrap .i64 (first+oB))<(aj.length:Int))) then
    (aj[(IntKind.wrap .i64 (first+oB):Int).toNat]?).bind fun nr=>
    (C bx [.int .i64 ((kh.cell 0).toInt),.int .i64 ((kh.cell 1).toInt),.int .i64 ((kh.cell 2).toInt),.int .i64 ((nr.cell 0).toInt),.int .i64 ((nr.cell 1).toInt),.int .i64 ((nr.cell 2).toInt)]).bind fun kR=>
    bif !(decide ((((V.nth kR 0).toInt):Int)<0)) then
     kr (.inr (root,oB,!(decide ((((V.nth kR 0).toInt):Int)<0)),aj))
    else
     bif (decide (0≤(IntKind.wrap .i64 (first+oB))))&&(decide ((IntKind.wrap .i64 (first+oB))<(aj.length:Int))) then
     (aj[(IntKind.wrap .i64 (first+oB):Int).toNat]?).bind fun fJ=>
     bif (decide (0≤(IntKind.wrap .i64 (first+root))))&&(decide ((IntKind.wrap .i64 (first+root))<(aj.length:Int))) then
      (aj[(IntKind.wrap .i64 (first+root):Int).toNat]?).bind fun nn=>
      bif (decide (0≤(IntKind.wrap .i64 (first+root))))&&(decide ((IntKind.wrap .i64 (first+root))<(aj.length:Int))) then
      (aj[(IntKind.wrap .i64 (first+root):Int).toNat]?).bind fun Dp=>
      bif (decide (0≤(IntKind.wrap .i64 (first+oB))))&&(decide ((IntKind.wrap .i64 (first+oB))<((aj.set ((IntKind.wrap .i64 (first+root):Int).toNat) (.agg [.int .i64 ((fJ.cell 0).toInt),.int .i64 ((fJ.cell 1).toInt),.int .i64 ((fJ.cell 2).toInt)])).length:Int))) then
       ((aj.set ((IntKind.wrap .i64 (first+root):Int).toNat) (.agg [.int .i64 ((fJ.cell 0).toInt),.int .i64 ((fJ.cell 1).toInt),.int .i64 ((fJ.cell 2).toInt)]))[(IntKind.wrap .i64 (first+oB):Int).toNat]?).bind fun mh=>
       kn (oB,(aj.set ((IntKind.wrap .i64 (first+root):Int).toNat) (.agg [.int .i64 ((fJ.cell 0).toInt),.int .i64 ((fJ.cell 1).toInt),.int .i64 ((fJ.cell 2).toInt)])).set ((IntKind.wrap .i64 (first+oB):Int).toNat) (.agg [.int .i64 ((nn.cell 0).toInt),.int .i64 ((nn.cell 1).toInt),.int .i64 ((nn.cell 2).toInt)]))
      else none
      else none
     else none
     else none
    else none
   else none)
noncomputable def pB (C:ae) (hi first:Int):(Int × (List V))→Option ((Int × (List V)) ⊕ ((Int × Int × Bool × (List V)) ⊕ (Int × Int × Bool × (List V)))):=un fun root aj=>ud C hi first root aj (fun y=>some (.inl y)) (fun r=>some (.inr r))
noncomputable def X7 (C:ae):cH:=fun β n ds k=>
 bif Nat.beq n 655 then pf Np [[1,2,3,0,6]] (@wq C) ds k else
 bif Nat.beq n 17 then bE Nq [false,false,true,true] [[1,2,0,0,0,0],[1,2,0,0,0,0]] (@ud C) ds k else
 none
abbrev X8 (C:ae) (b:cE):Prop:=cF Tryd.prog aD C (X7 C) 177 (cQ Tryd.prog (aD.bd 177)) (aD.sin 177).bf.length b
theorem aij (C:ae):X8 C (.cond 40 (av [1,0,0,0,1,1,0,1,0] za) (av [1,0,0,0,1,1,0,1,1] za)):=
 ql Np [[1,2,3,0,6]] (@wq C) (by kernel_rfl) (bc (bs:=[]) (by kernel_rfl) aC) (bc (bs:=[]) (by kernel_rfl) aC) (fun ds=>by kernel_rfl) (fun i β k=>by kernel_rfl) (fun β ds k=>by kernel_rfl)
theorem aik (C:ae):X8 C (.loop (av [1,0,0] za)):=
 bH Nq [false,false,true,true] [[1,2,0,0,0,0],[1,2,0,0,0,0]] (@ud C) (by kernel_rfl) (bc (bs:=[.cond 40 (av [1,0,0,0,1,1,0,1,0] za) (av [1,0,0,0,1,1,0,1,1] za)]) (by kernel_rfl) (bt (aij C) aC)) (fun ds=>by kernel_rfl) (fun i x=>by kernel_rfl) (fun i x β k=>by kernel_rfl) (fun β ds k=>by kernel_rfl)
noncomputable def X9 (C:ae) (lo hi first:Int) (aj:List V):Option (List V):=
 (Loop (pB C hi first) (lo,aj)).bind (dy (un fun (aqm:Int)=>un fun (aqn:Int)=>un fun (agV:Bool) (ail:List V)=>
  some [.list aF ail]) (un fun (aqo:Int)=>un fun (aqp:Int)=>un fun (ahm:Bool) (sI:List V)=>
  some [.list aF sI]))
theorem aim {lo hi first:Int} {aj:List V} {r:Option (List V)} (h:X9 CC lo hi first aj=r):CC Hs [.int .i64 lo,.int .i64 hi,.int .i64 first,.list aF aj]=r:=
 bC (key:=177) (L:=X7 CC) (bs:=[.loop (av [1,0,0] za)]) (by kernel_rfl) (bt (aik CC) aC) (bw (by kernel_rfl) h)
noncomputable abbrev IY:Code:=cN Tryd.prog (aD.bd 171)
noncomputable def DJ (C:ae) (first lo hi i:Int) (aj:List V) {β:Type} (kn:(Int × (List V))→Option β) (kr:(Int × Bool × (List V))→Option β):Option β:=
 bif decide ((i:Int)≥0) then
  (C Hs [.int .i64 i,.int .i64 hi,.int .i64 first,.list aF aj]).bind fun r1=>
  kn (IntKind.wrap .i64 (i-1),(V.nth r1 0).toList)
 else
  kr (i,decide ((i:Int)≥0),aj)
noncomputable def IZ (C:ae) (first lo hi:Int):(Int × (List V))→Option ((Int × (List V)) ⊕ (Int × Bool × (List V))):=un fun i aj=>DJ C first lo hi i aj (fun y=>some (.inl y)) (fun r=>some (.inr r))
noncomputable def DK (C:ae) (first lo i:Int) (aj:List V) {β:Type} (kn:(Int × (List V))→Option β) (kr:(Int × Bool × (List V))→Option β):Option β:=
 bif decide ((i:Int)≥0) then
  bif (decide (0≤(IntKind.wrap .i64 (first+i))))&&(decide ((IntKind.wrap .i64 (first+i))<(aj.length:Int))) then
  (aj[(IntKind.wrap .i64 (first+i):Int).toNat]?).bind fun x5=>
  bif (decide (0≤first))&&(decide (first<(aj.length:Int))) then
   (aj[(first:Int).toNat]?).bind fun x6=>
   bif (decide (0≤first))&&(decide (first<(aj.length:Int))) then
   (aj[(first:Int).toNat]?).bind fun x7=>
   bif (decide (0≤(IntKind.wrap .i64 (first+i))))&&(decide ((IntKind.wrap .i64 (first+i))<((aj.set ((first:Int).toNat) (.agg [.int .i64 ((x5.cell 0).toInt),.int .i64 ((x5.cell 1).toInt),.int .i64 ((x5.cell 2).toInt)])).length:Int))) then
    ((aj.set ((first:Int).toNat) (.agg [.int .i64 ((x5.cell 0).toInt),.int .i64 ((x5.cell 1).toInt),.int .i64 ((x5.cell 2).toInt)]))[(IntKind.wrap .i64 (first+i):Int).toNat]?).bind fun x8=>
    (C Hs [.int .i64 lo,.int .i64 i,.int .i64 first,.list aF ((aj.set ((first:Int).toNat) (.agg [.int .i64 ((x5.cell 0).toInt),.int .i64 ((x5.cell 1).toInt),.int .i64 ((x5.cell 2).toInt)])).set ((IntKind.wrap .i64 (first+i):Int).toNat) (.agg [.int .i64 ((x6.cell 0).toInt),.int .i64 ((x6.cell 1).toInt),.int .i64 ((x6.cell 2).toInt)]))]).bind fun r9=>
    kn (IntKind.wrap .i64 (i-1),(V.nth r9 0).toList)
   else none
   else none
  else none
  else none
 else
  kr (i,decide ((i:Int)≥0),aj)
noncomputable def I0 (C:ae) (first lo:Int):(Int × (List V))→Option ((Int × (List V)) ⊕ (Int × Bool × (List V))):=un fun i aj=>DK C first lo i aj (fun y=>some (.inl y)) (fun r=>some (.inr r))
noncomputable def Ya (C:ae):cH:=fun β n ds k=>
 bif Nat.beq n 65 then bE Nj [false,false,false,true,true] [[1,2,3,0,0,0]] (@DJ C) ds k else
 bif Nat.beq n 129 then bE Nk [false,false,true,true] [[1,2,0,0,0]] (@DK C) ds k else
 none
abbrev Yb (C:ae) (b:cE):Prop:=cF Tryd.prog aD C (Ya C) 171 (cQ Tryd.prog (aD.bd 171)) (aD.sin 171).bf.length b
theorem ain (C:ae):Yb C (.loop (av [1,1,1,0,1,0,0] IY)):=
 bH Nj [false,false,false,true,true] [[1,2,3,0,0,0]] (@DJ C) (by kernel_rfl) (bc (bs:=[]) (by kernel_rfl) aC) (fun ds=>by kernel_rfl) (fun i x=>by kernel_rfl) (fun i x β k=>by kernel_rfl) (fun β ds k=>by kernel_rfl)
theorem aio (C:ae):Yb C (.loop (av [1,1,1,1,1,0,0] IY)):=
 bH Nk [false,false,true,true] [[1,2,0,0,0]] (@DK C) (by kernel_rfl) (bc (bs:=[]) (by kernel_rfl) aC) (fun ds=>by kernel_rfl) (fun i x=>by kernel_rfl) (fun i x β k=>by kernel_rfl) (fun β ds k=>by kernel_rfl)
noncomputable def Yc (C:ae) (a b':Int) (aj:List V):Option (List V):=
 (Loop (IZ C a 0 (IntKind.wrap .i64 (b'-a))) (IntKind.wrap .i64 (Int.tdiv (IntKind.wrap .i64 ((IntKind.wrap .i64 (b'-a))-1)) 2),aj)).bind (un fun (i_2:Int)=>un fun (lA:Bool) (aip:List V)=>
  (Loop (I0 C a 0) (IntKind.wrap .i64 ((IntKind.wrap .i64 (b'-a))-1),aip)).bind (un fun (aqq:Int)=>un fun (yW:Bool) (nt:List V)=>
   some [.list aF nt]))
theorem aiq {a b':Int} {aj:List V} {r:Option (List V)} (h:Yc CC a b' aj=r):CC Hp [.int .i64 a,.int .i64 b',.list aF aj]=r:=
 bC (key:=171) (L:=Ya CC) (bs:=[.loop (av [1,1,1,0,1,0,0] IY),.loop (av [1,1,1,1,1,0,0] IY)]) (by kernel_rfl) (bt (ain CC) (bt (aio CC) aC)) (bw (by kernel_rfl) h)
noncomputable abbrev Yd:Code:=cN Tryd.prog (aD.bd 179)
noncomputable def zb (C:ae) (i j:Int) (aj:List V) {β:Type} (kn:(Int × Int × (List V))→Option β) (kr:(Int × Int × Bool × (List V))→Option β):Option β:=
 bif decide ((i:Int)<j) then
  bif (decide (0≤j))&&(decide (j<(aj.length:Int))) then
  (aj[(j:Int).toNat]?).bind fun x1=>
  bif (decide (0≤i))&&(decide (i<(aj.length:Int))) then
   (aj[(i:Int).toNat]?).bind fun x2=>
   bif (decide (0≤i))&&(decide (i<(aj.length:Int))) then
   (aj[(i:Int).toNat]?).bind fun x3=>
   bif (decide (0≤j))&&(decide (j<((aj.set ((i:Int).toNat) (.agg [.int .i64 ((x1.cell 0).toInt),.int .i64 ((x1.cell 1).toInt),.int .i64 ((x1.cell 2).toInt)])).length:Int))) then
    ((aj.set ((i:Int).toNat) (.agg [.int .i64 ((x1.cell 0).toInt),.int .i64 ((x1.cell 1).toInt),.int .i64 ((x1.cell 2).toInt)]))[(j:Int).toNat]?).bind fun x4=>
    kn (IntKind.wrap .i64 (i+1),IntKind.wrap .i64 (j-1),(aj.set ((i:Int).toNat) (.agg [.int .i64 ((x1.cell 0).toInt),.int .i64 ((x1.cell 1).toInt),.int .i64 ((x1.cell 2).toInt)])).set ((j:Int).toNat) (.agg [.int .i64 ((x2.cell 0).toInt),.int .i64 ((x2.cell 1).toInt),.int .i64 ((x2.cell 2).toInt)]))
   else none
   else none
  else none
  else none
 else
  kr (i,j,decide ((i:Int)<j),aj)
noncomputable def DL (C:ae):(Int × Int × (List V))→Option ((Int × Int × (List V)) ⊕ (Int × Int × Bool × (List V))):=un fun i=>un fun j aj=>zb C i j aj (fun y=>some (.inl y)) (fun r=>some (.inr r))
noncomputable def Ye (C:ae):cH:=fun β n ds k=>
 bif Nat.beq n 33 then bE Nr [true,true,true] [[0,0,0,0]] (@zb C) ds k else
 none
abbrev air (C:ae) (b:cE):Prop:=cF Tryd.prog aD C (Ye C) 179 (cQ Tryd.prog (aD.bd 179)) (aD.sin 179).bf.length b
theorem ais (C:ae):air C (.loop (av [1,1,0,0] Yd)):=
 bH Nr [true,true,true] [[0,0,0,0]] (@zb C) (by kernel_rfl) (bc (bs:=[]) (by kernel_rfl) aC) (fun ds=>by kernel_rfl) (fun i x=>by kernel_rfl) (fun i x β k=>by kernel_rfl) (fun β ds k=>by kernel_rfl)
noncomputable def Yf (C:ae) (a b':Int) (aj:List V):Option (List V):=
 (Loop (DL C) (a,IntKind.wrap .i64 (b'-1),aj)).bind (un fun (i_5:Int)=>un fun (j_6:Int)=>un fun (m8:Bool) (ait:List V)=>
  some [.list aF ait])
theorem aiu {a b':Int} {aj:List V} {r:Option (List V)} (h:Yf CC a b' aj=r):CC LW [.int .i64 a,.int .i64 b',.list aF aj]=r:=
 bC (key:=179) (L:=Ye CC) (bs:=[.loop (av [1,1,0,0] Yd)]) (by kernel_rfl) (bt (ais CC) aC) (bw (by kernel_rfl) h)
end Go.AM
set_option maxRecDepth 100000
set_option maxHeartbeats 4000000
namespace Go.AM.SL
open Go.AM Go.Proofs Go.Sort
def aG (a b:Ed):Bool:=decide (b8 a b<0)
theorem ue (a b:Ed):(aG a b=true)=(b8 a b<0):=by unfold aG;rw[dv]
theorem sJ (a b:Ed):((!aG a b)=true)= ¬(b8 a b<0):=by unfold aG;simp
abbrev eA (d:Array Ed):List V:=qB Ed.enc d
theorem aiv (a j:Nat) (d:Array Ed):insInner aG a (j+1) d=if j+1>a then (if b8 d[j+1]! d[j]! <0 then insInner aG a j (swp d (j+1) j) else d) else d:=by
 rw[XQ]
 by_cases h1:j+1>a
 ·rw[af h1];simp only[h1,ux,wV,ue]
 ·rw[ah h1,ah (by simp[h1])]
theorem OI (hi first root:Nat) (d:Array Ed):siftDown aG hi first root d=
  if 2*root+1≥hi then d else
   if 2*root+2<hi then
    (if b8 d[first+(2*root+1)]! d[first+(2*root+2)]! <0 then
     (if b8 d[first+root]! d[first+(2*root+2)]! <0 then siftDown aG hi first (2*root+2) (swp d (first+root) (first+(2*root+2))) else d)
    else (if b8 d[first+root]! d[first+(2*root+1)]! <0 then siftDown aG hi first (2*root+1) (swp d (first+root) (first+(2*root+1))) else d))
   else (if b8 d[first+root]! d[first+(2*root+1)]! <0 then siftDown aG hi first (2*root+1) (swp d (first+root) (first+(2*root+1))) else d):=by
 rw[siftDown]
 by_cases h1:2*root+1≥hi
 ·rw[oI h1,af h1]
 rw[dif_neg h1,ah h1]
 by_cases h2:2*root+2<hi
 ·rw[af h2]
  by_cases h3:b8 d[first+(2*root+1)]! d[first+(2*root+2)]! <0
  ·rw[af h3,af (by simp only[aS,dv,ue];exact ⟨h2,h3⟩)]
   simp only[sJ]
   by_cases h4:b8 d[first+root]! d[first+(2*root+2)]! <0
   ·rw[ah (pO h4),oI h2,af h4]
   ·rw[af h4,ah h4]
  ·rw[ah h3,ah (by simp only[aS,dv,ue];exact fun h=>h3 h.2)]
   simp only[sJ]
   by_cases h4:b8 d[first+root]! d[first+(2*root+1)]! <0
   ·rw[ah (pO h4),af h4]
   ·rw[af h4,ah h4]
 ·rw[ah h2,ah (by simp only[aS,dv,ue];exact fun h=>h2 h.1)]
  simp only[sJ]
  by_cases h4:b8 d[first+root]! d[first+(2*root+1)]! <0
  ·rw[ah (pO h4),af h4]
  ·rw[af h4,ah h4]
theorem Yg {a b i:Nat}: ∀(j:Nat) (d:Array Ed),j<d.size→d.size<1152921504606846976→
  ∃j' t,Loop (y9 CC a b i) ((j:Int),eA d)=some (j',t,eA (insInner aG a j d))
 | 0,d,hj,hs=>⟨(0:Nat),false,cl (by
   simp (disch:=omega) only[y9,y8,un,aJ,ah]
   rfl)⟩
 | j+1,d,hj,hs=>by
  obtain ⟨j',t,ih⟩:=Yg (a:=a) (b:=b) (i:=i) j (swp d (j+1) j) (by rw[size_swp];omega) (by rw[size_swp];omega)
  rw[aiv]
  by_cases h1:j+1>a
  ·rw[af h1]
   have e:y9 CC a b i (((j+1:Nat):Int),eA d)=if b8 d[j+1]! d[j]! <0 then some (.inl ((j:Int),eA (swp d (j+1) j))) else some (.inr (((j+1:Nat):Int),decide (b8 d[j+1]! d[j]! <0),eA d)):=by
    simp (disch:=omega) only[y9,y8,un,aJ,dr,gU,af,ah,wrap64,dC,gD,Int.toNat_natCast,Option.bind_some,gA,gC,Ed.dR,Ed.dS,Ed.dU,Ed.re,gB,iP,g9,gW,V.cq,V.toInt_int,cond_true,cond_false,wj]
    rfl
   by_cases h2:b8 d[j+1]! d[j]! <0
   ·rw[af h2] at e⊢
    exact ⟨j',t,(eu e).trans ih⟩
   ·rw[ah h2] at e⊢
    exact ⟨_,_,cl e⟩
  ·rw[ah h1]
   exact ⟨((j+1:Nat):Int),false,cl (by
    simp (disch:=omega) only[y9,y8,un,aJ,ah])⟩
theorem aiw {a b:Nat}: ∀(n i:Nat) (d:Array Ed),b-i=n→b≤d.size→d.size<1152921504606846976→
  ∃j' t,Loop (IX CC a b) ((i:Int),eA d)=some (j',t,eA (insOuter aG a b i d)):=by
 intro n
 induction n with
 | zero=>
  intro i d hn hb hs
  rw[insOuter,ah (by omega)]
  exact ⟨(i:Int),false,cl (by
   simp (disch:=omega) only[IX,DI,un,pz,cond_false])⟩
 | succ n ih=>
  intro i d hn hb hs
  obtain ⟨j1,t1,h1⟩:=Yg (a:=a) (b:=b) (i:=i) i d (by omega) hs
  obtain ⟨j',t,h2⟩:=ih (i+1) (insInner aG a i d) (by omega) (by rw[OA];omega) (by rw[OA];omega)
  rw[insOuter,af (by omega)]
  refine ⟨j',t,(eu ?_).trans h2⟩
  simp (disch:=omega) only[IX,DI,un,aJ,af,h1,Option.bind_some,dC,wrap64]
theorem Yh {a b:Nat} {d:Array Ed} (hb:b≤d.size) (hs:d.size<1152921504606846976) (ha:a<1152921504606846976):
  CC Ho [.int .i64 (a:Int),.int .i64 (b:Int),.list aF (eA d)]=some [.list aF (eA (insertionSort aG d a b))]:=by
 refine aii ?_
 unfold X6
 obtain ⟨j',t,h⟩:=aiw (a:=a) (b:=b) _ (a+1) d rfl hb hs
 simp (disch:=omega) only[dC,wrap64]
 rw[h]
 rfl
theorem aix (hi first:Nat): ∀(n root:Nat) (d:Array Ed),hi-root≤n→root<1152921504606846976→first+hi≤d.size→d.size<1152921504606846976→
  (∃x y z,Loop (pB CC hi first) ((root:Int),eA d)=some (.inl (x,y,z,eA (siftDown aG hi first root d))))∨
  (∃x y z,Loop (pB CC hi first) ((root:Int),eA d)=some (.inr (x,y,z,eA (siftDown aG hi first root d)))):=by
 intro n
 induction n with
 | zero=>
  intro root d hn hr hb hs
  rw[OI,af (by omega)]
  exact .inl ⟨(root:Int),((root*2+1:Nat):Int),true,cl (by
   simp (disch:=omega) only[pB,ud,un,DE,dC,wrap64];rw[ox (by omega)];rfl)⟩
 | succ n ih=>
  intro root d hn hr hb hs
  by_cases h1:2*root+1≥hi
  ·rw[OI,af h1]
   exact .inl ⟨(root:Int),((root*2+1:Nat):Int),true,cl (by
    simp (disch:=omega) only[pB,ud,un,DE,dC,wrap64];rw[ox (by omega)];rfl)⟩
  ·have go: ∀c:Nat,c<hi→root<c→(pB CC hi first ((root:Int),eA d)=
      if b8 d[first+root]! d[first+c]! <0 then some (.inl ((c:Int),eA (swp d (first+root) (first+c)))) else some (.inr (.inr ((root:Int),(c:Int),true,eA d))))→
     siftDown aG hi first root d=(if b8 d[first+root]! d[first+c]! <0 then siftDown aG hi first c (swp d (first+root) (first+c)) else d)→
     ((∃x y z,Loop (pB CC hi first) ((root:Int),eA d)=some (.inl (x,y,z,eA (siftDown aG hi first root d))))∨
     (∃x y z,Loop (pB CC hi first) ((root:Int),eA d)=some (.inr (x,y,z,eA (siftDown aG hi first root d))))):=by
    intro c hc hrc e1 e2
    rw[e2]
    by_cases h3:b8 d[first+root]! d[first+c]! <0
    ·rw[af h3] at e1
     rw[af h3,eu e1]
     exact ih c _ (by omega) (by omega) (by rw[size_swp];omega) (by rw[size_swp];omega)
    ·rw[ah h3] at e1
     rw[ah h3,cl e1]
     exact .inr ⟨_,_,_,rfl⟩
   have e0:=OI hi first root d
   rw[ah h1] at e0
   by_cases h2:2*root+2<hi
   ·rw[af h2] at e0
    by_cases h3:b8 d[first+(2*root+1)]! d[first+(2*root+2)]! <0
    ·rw[af h3] at e0
     refine go (2*root+2) (by omega) (by omega) ?_ e0
     rw[iv 2 root] at h3
     simp (disch:=omega) only[pB,ud,un,DE,dC,gD,wrap64]
     rw[aJ,ah (by omega),aJ,af (by omega)]
     simp (disch:=omega) only[wq,aJ,dr,gU,af,ah,wrap64,dC,gD,Int.toNat_natCast,Option.bind_some,gA,gC,Ed.dR,Ed.dS,Ed.dU,Ed.re,gB,iP,g9,gW,V.cq,V.toInt_int,cond_true,cond_false,iv 2 root,ox]
     by_cases h4:b8 d[first+root]! d[first+(root*2+2)]! <0
     ·simp only[h4,iR];rfl
     ·simp only[h4,ky];rfl
    ·rw[ah h3] at e0
     refine go (2*root+1) (by omega) (by omega) ?_ e0
     rw[iv 2 root] at h3
     simp (disch:=omega) only[pB,ud,un,DE,dC,gD,wrap64]
     rw[aJ,ah (by omega),aJ,af (by omega)]
     simp (disch:=omega) only[wq,aJ,dr,gU,af,ah,wrap64,dC,gD,Int.toNat_natCast,Option.bind_some,gA,gC,Ed.dR,Ed.dS,Ed.dU,Ed.re,gB,iP,g9,gW,V.cq,V.toInt_int,cond_true,cond_false,iv 2 root,pz]
     by_cases h4:b8 d[first+root]! d[first+(root*2+1)]! <0
     ·simp only[h4,iR];rfl
     ·simp only[h4,ky];rfl
   ·rw[ah h2] at e0
    refine go (2*root+1) (by omega) (by omega) ?_ e0
    simp (disch:=omega) only[pB,ud,un,DE,dC,gD,wrap64]
    rw[aJ,ah (by omega),aJ,ah (by omega)]
    simp (disch:=omega) only[wq,aJ,dr,gU,af,ah,wrap64,dC,gD,Int.toNat_natCast,Option.bind_some,gA,gC,Ed.dR,Ed.dS,Ed.dU,Ed.re,gB,iP,g9,gW,V.cq,V.toInt_int,cond_true,cond_false,iv 2 root]
    by_cases h4:b8 d[first+root]! d[first+(root*2+1)]! <0
    ·simp only[h4,iR];rfl
    ·simp only[h4,ky];rfl
theorem Yi {lo hi first:Nat} {d:Array Ed} (hl:lo<1152921504606846976) (hb:first+hi≤d.size) (hs:d.size<1152921504606846976):
  CC Hs [.int .i64 (lo:Int),.int .i64 (hi:Int),.int .i64 (first:Int),.list aF (eA d)]=some [.list aF (eA (siftDown aG hi first lo d))]:=by
 refine aim ?_
 unfold X9
 rcases aix hi first _ lo d (aI _) hl hb hs with ⟨x,y,z,h⟩|⟨x,y,z,h⟩
 ·rw[h];rfl
 ·rw[h];rfl
theorem Yj {hi first:Nat}: ∀(k:Nat) (d:Array Ed),k<1152921504606846976→first+hi≤d.size→d.size<1152921504606846976→
  ∃x y,Loop (IZ CC first 0 hi) ((k:Int)-1,eA d)=some (x,y,eA (heapBuild aG hi first k d))
 | 0,d,hk,hb,hs=>⟨-1,false,cl (by
   simp (disch:=omega) only[IZ,DJ,un,aJ,ah]
   rfl)⟩
 | k+1,d,hk,hb,hs=>by
  obtain ⟨x,y,ih⟩:=Yj (hi:=hi) (first:=first) k (siftDown aG hi first k d) (by omega) (by rw[DF _ _ _ _ _ (aI _)];omega) (by rw[DF _ _ _ _ _ (aI _)];omega)
  refine ⟨x,y,(eu ?_).trans ih⟩
  simp (disch:=omega) only[IZ,DJ,un,aJ,af,wj,Yi,Option.bind_some,V.cq,V.oe,wrap64]
theorem Yk {first:Nat}: ∀(k:Nat) (d:Array Ed),k<1152921504606846976→first+k≤d.size→d.size<1152921504606846976→
  ∃x y,Loop (I0 CC first 0) ((k:Int)-1,eA d)=some (x,y,eA (heapPop aG first k d))
 | 0,d,hk,hb,hs=>⟨-1,false,cl (by
   simp (disch:=omega) only[I0,DK,un,aJ,ah]
   rfl)⟩
 | k+1,d,hk,hb,hs=>by
  obtain ⟨x,y,ih⟩:=Yk (first:=first) k (siftDown aG k first 0 (swp d first (first+k))) (by omega) (by rw[DF _ _ _ _ _ (aI _),size_swp];omega) (by rw[DF _ _ _ _ _ (aI _),size_swp];omega)
  refine ⟨x,y,(eu ?_).trans ih⟩
  have ln:=Yi (lo:=0) (hi:=k) (first:=first) (d:=swp d first (first+k)) (by omega) (by rw[size_swp];omega) (by rw[size_swp];omega)
  unfold swp at ln⊢
  rw[show ((0:Nat):Int)=0 from rfl] at ln
  simp (disch:=omega) only[I0,DK,un,wj,aJ,dr,gU,af,ah,wrap64,dC,gD,Int.toNat_natCast,Option.bind_some,gA,gC,Ed.dR,Ed.dS,Ed.dU,Ed.re,gB,iP,g9,gW,V.cq,V.toInt_int,cond_true,cond_false]
  rw[ln]
  simp (disch:=omega) only[Option.bind_some,V.cq,V.oe,wrap64]
theorem aiy {a b:Nat} {d:Array Ed} (gq:a<b) (hb:b≤d.size) (hs:d.size<1152921504606846976):
  CC Hp [.int .i64 (a:Int),.int .i64 (b:Int),.list aF (eA d)]=some [.list aF (eA (heapSort aG d a b))]:=by
 refine aiq ?_
 unfold Yc
 obtain ⟨x,y,h1⟩:=Yj (hi:=b-a) (first:=a) ((b-a-1)/2+1) d (by omega) (by omega) hs
 obtain ⟨x2,y2,h2⟩:=Yk (first:=a) (b-a) (heapBuild aG (b-a) a ((b-a-1)/2+1) d) (by omega) (by rw[OB];omega) (by rw[OB];omega)
 have e1:((((b-a-1)/2+1:Nat):Int)-1)=Int.tdiv (((b-a:Nat):Int)-1) 2:=by
  rw[Int.tdiv_eq_ediv_of_nonneg (by omega)]
  omega
 rw[e1] at h1
 simp (disch:=omega) only[np,wrap64]
 rw[h1]
 simp only[Option.bind_some,un]
 rw[h2]
 rfl
theorem aiz: ∀(n i j:Nat) (d:Array Ed),j-i≤n→j<d.size→d.size<1152921504606846976→
  ∃x y z,Loop (DL CC) ((i:Int),(j:Int),eA d)=some (x,y,z,eA (reverseLoop i j d)):=by
 intro n
 induction n with
 | zero=>
  intro i j d hn hj hs
  rw[reverseLoop,ah (by omega)]
  exact ⟨(i:Int),(j:Int),false,cl (by
   simp (disch:=omega) only[DL,zb,un,pz,cond_false])⟩
 | succ n ih=>
  intro i j d hn hj hs
  rw[reverseLoop]
  by_cases h:i<j
  ·rw[af h]
   obtain ⟨x,y,z,h2⟩:=ih (i+1) (j-1) (swp d i j) (by omega) (by rw[size_swp];omega) (by rw[size_swp];omega)
   refine ⟨x,y,z,(eu ?_).trans h2⟩
   simp (disch:=omega) only[DL,zb,un,aJ,dr,gU,af,ah,wrap64,dC,gD,Int.toNat_natCast,Option.bind_some,gA,gC,Ed.dR,Ed.dS,Ed.dU,Ed.re,gB,iP,g9,gW,V.cq,V.toInt_int,cond_true,cond_false,kS]
   rfl
  ·rw[ah h]
   exact ⟨(i:Int),(j:Int),false,cl (by
    simp (disch:=omega) only[DL,zb,un,pz,cond_false])⟩
theorem aiA {a b:Nat} {d:Array Ed} (gq:a<b) (hb:b≤d.size) (hs:d.size<1152921504606846976):
  CC LW [.int .i64 (a:Int),.int .i64 (b:Int),.list aF (eA d)]=some [.list aF (eA (reverseRange d a b))]:=by
 refine aiu ?_
 unfold Yf
 obtain ⟨x,y,z,h⟩:=aiz _ a (b-1) d (aI _) (by omega) hs
 simp (disch:=omega) only[kS,wrap64]
 rw[h]
 rfl
end Go.AM.SL
set_option maxRecDepth 100000
namespace Go.AM
open Go.Proofs
noncomputable abbrev qC:Code:=cN Tryd.prog (aD.bd 181)
noncomputable def DM (C:ae) (a j:Int) (aj:List V) (i:Int) {β:Type} (kn:Int→Option β) (kr:(Int × Bool)→Option β):Option β:=
 bif decide ((i:Int)≤j) then
  bif (decide (0≤i))&&(decide (i<(aj.length:Int))) then
  (aj[(i:Int).toNat]?).bind fun x5=>
  bif (decide (0≤a))&&(decide (a<(aj.length:Int))) then
   (aj[(a:Int).toNat]?).bind fun x6=>
   (C bx [.int .i64 ((x5.cell 0).toInt),.int .i64 ((x5.cell 1).toInt),.int .i64 ((x5.cell 2).toInt),.int .i64 ((x6.cell 0).toInt),.int .i64 ((x6.cell 1).toInt),.int .i64 ((x6.cell 2).toInt)]).bind fun r7=>
   bif decide ((((V.nth r7 0).toInt):Int)<0) then
   kn (IntKind.wrap .i64 (i+1))
   else
   kr (i,decide ((((V.nth r7 0).toInt):Int)<0))
  else none
  else none
 else
  kr (i,false)
noncomputable def DN (C:ae) (a j:Int) (aj:List V):(Int)→Option ((Int) ⊕ (Int × Bool)):=fun i=>DM C a j aj i (fun y=>some (.inl y)) (fun r=>some (.inr r))
noncomputable def zc (C:ae) (a i:Int) (aj:List V) (j:Int) {β:Type} (kn:Int→Option β) (kr:(Int × Bool)→Option β):Option β:=
 bif decide ((i:Int)≤j) then
  bif (decide (0≤j))&&(decide (j<(aj.length:Int))) then
  (aj[(j:Int).toNat]?).bind fun jn=>
  bif (decide (0≤a))&&(decide (a<(aj.length:Int))) then
   (aj[(a:Int).toNat]?).bind fun gy=>
   (C bx [.int .i64 ((jn.cell 0).toInt),.int .i64 ((jn.cell 1).toInt),.int .i64 ((jn.cell 2).toInt),.int .i64 ((gy.cell 0).toInt),.int .i64 ((gy.cell 1).toInt),.int .i64 ((gy.cell 2).toInt)]).bind fun ao=>
   bif !(decide ((((V.nth ao 0).toInt):Int)<0)) then
   kn (IntKind.wrap .i64 (j-1))
   else
   kr (j,!(decide ((((V.nth ao 0).toInt):Int)<0)))
  else none
  else none
 else
  kr (j,false)
noncomputable def zd (C:ae) (a i:Int) (aj:List V):(Int)→Option ((Int) ⊕ (Int × Bool)):=fun j=>zc C a i aj j (fun y=>some (.inl y)) (fun r=>some (.inr r))
noncomputable def DO (C:ae) (a j:Int) (aj:List V) (i:Int) {β:Type} (kn:Int→Option β) (kr:(Int × Bool)→Option β):Option β:=
 bif decide ((i:Int)≤j) then
  bif (decide (0≤i))&&(decide (i<(aj.length:Int))) then
  (aj[(i:Int).toNat]?).bind fun mg=>
  bif (decide (0≤a))&&(decide (a<(aj.length:Int))) then
   (aj[(a:Int).toNat]?).bind fun wx=>
   (C bx [.int .i64 ((mg.cell 0).toInt),.int .i64 ((mg.cell 1).toInt),.int .i64 ((mg.cell 2).toInt),.int .i64 ((wx.cell 0).toInt),.int .i64 ((wx.cell 1).toInt),.int .i64 ((wx.cell 2).toInt)]).bind fun I1=>
   bif decide ((((V.nth I1 0).toInt):Int)<0) then
   kn (IntKind.wrap .i64 (i+1))
   else
   kr (i,decide ((((V.nth I1 0).toInt):Int)<0))
  else none
  else none
 else
  kr (i,false)
noncomputable def DP (C:ae) (a j:Int) (aj:List V):(Int)→Option ((Int) ⊕ (Int × Bool)):=fun i=>DO C a j aj i (fun y=>some (.inl y)) (fun r=>some (.inr r))
noncomputable def ze (C:ae) (a i:Int) (aj:List V) (j:Int) {β:Type} (kn:Int→Option β) (kr:(Int × Bool)→Option β):Option β:=
 bif decide ((i:Int)≤j) then
  bif (decide (0≤j))&&(decide (j<(aj.length:Int))) then
  (aj[(j:Int).toNat]?).bind fun wy=>
  bif (decide (0≤a))&&(decide (a<(aj.length:Int))) then
   (aj[(a:Int).toNat]?).bind fun wz=>
   (C bx [.int .i64 ((wy.cell 0).toInt),.int .i64 ((wy.cell 1).toInt),.int .i64 ((wy.cell 2).toInt),.int .i64 ((wz.cell 0).toInt),.int .i64 ((wz.cell 1).toInt),.int .i64 ((wz.cell 2).toInt)]).bind fun zf=>
   bif !(decide ((((V.nth zf 0).toInt):Int)<0)) then
   kn (IntKind.wrap .i64 (j-1))
   else
   kr (j,!(decide ((((V.nth zf 0).toInt):Int)<0)))
  else none
  else none
 else
  kr (j,false)
noncomputable def zg (C:ae) (a i:Int) (aj:List V):(Int)→Option ((Int) ⊕ (Int × Bool)):=fun j=>ze C a i aj j (fun y=>some (.inl y)) (fun r=>some (.inr r))
noncomputable def DQ (C:ae) (a i j:Int) (aj:List V) {β:Type} (kn:(Int × Int × (List V))→Option β) (kr:(Int × Int × Bool × (List V))→Option β):Option β:=
 (Loop (DP C a j aj) i).bind (un fun (lG:Int) (WM:Bool)=>
  (Loop (zg C a lG aj) j).bind (un fun (pC:Int) (aqr:Bool)=>
   bif decide ((lG:Int)>pC) then
    kr (lG,pC,decide ((lG:Int)>pC),aj)
   else
    bif (decide (0≤pC))&&(decide (pC<(aj.length:Int))) then
    (aj[(pC:Int).toNat]?).bind fun sK=>
    bif (decide (0≤lG))&&(decide (lG<(aj.length:Int))) then
     (aj[(lG:Int).toNat]?).bind fun OJ=>
     bif (decide (0≤lG))&&(decide (lG<(aj.length:Int))) then
     (aj[(lG:Int).toNat]?).bind fun x35=>
     bif (decide (0≤pC))&&(decide (pC<((aj.set ((lG:Int).toNat) (.agg [.int .i64 ((sK.cell 0).toInt),.int .i64 ((sK.cell 1).toInt),.int .i64 ((sK.cell 2).toInt)])).length:Int))) then
      ((aj.set ((lG:Int).toNat) (.agg [.int .i64 ((sK.cell 0).toInt),.int .i64 ((sK.cell 1).toInt),.int .i64 ((sK.cell 2).toInt)]))[(pC:Int).toNat]?).bind fun x36=>
      kn (IntKind.wrap .i64 (lG+1),IntKind.wrap .i64 (pC-1),(aj.set ((lG:Int).toNat) (.agg [.int .i64 ((sK.cell 0).toInt),.int .i64 ((sK.cell 1).toInt),.int .i64 ((sK.cell 2).toInt)])).set ((pC:Int).toNat) (.agg [.int .i64 ((OJ.cell 0).toInt),.int .i64 ((OJ.cell 1).toInt),.int .i64 ((OJ.cell 2).toInt)]))
     else none
     else none
    else none
    else none))
noncomputable def zh (C:ae) (a:Int):(Int × Int × (List V))→Option ((Int × Int × (List V)) ⊕ (Int × Int × Bool × (List V))):=un fun i=>un fun j aj=>DQ C a i j aj (fun y=>some (.inl y)) (fun r=>some (.inr r))
noncomputable def Yl (C:ae):cH:=fun β n ds k=>
 bif Nat.beq n 49 then bE Nx [false,true,false,false] [[1,0,3,0,4]] (@DM C) ds k else
 bif Nat.beq n 81 then bE Ny [false,false,true,false] [[1,2,0,0,4]] (@zc C) ds k else
 bif Nat.beq n 209 then bE Nz [false,true,false,false] [[1,0,3,0,4]] (@DO C) ds k else
 bif Nat.beq n 241 then bE NA [false,false,true,false] [[1,2,0,0,4]] (@ze C) ds k else
 bif Nat.beq n 210 then bE NB [false,true,true,true] [[1,0,0,0,0]] (@DQ C) ds k else
 none
abbrev DR (C:ae) (b:cE):Prop:=cF Tryd.prog aD C (Yl C) 181 (cQ Tryd.prog (aD.bd 181)) (aD.sin 181).bf.length b
theorem aiB (C:ae):DR C (.loop (av [1,1,1,0,0,0] qC)):=
 bH Nx [false,true,false,false] [[1,0,3,0,4]] (@DM C) (by kernel_rfl) (bc (bs:=[]) (by kernel_rfl) aC) (fun ds=>by kernel_rfl) (fun i x=>by kernel_rfl) (fun i x β k=>by kernel_rfl) (fun β ds k=>by kernel_rfl)
theorem aiC (C:ae):DR C (.loop (av [1,1,1,1,0,0,0] qC)):=
 bH Ny [false,false,true,false] [[1,2,0,0,4]] (@zc C) (by kernel_rfl) (bc (bs:=[]) (by kernel_rfl) aC) (fun ds=>by kernel_rfl) (fun i x=>by kernel_rfl) (fun i x β k=>by kernel_rfl) (fun β ds k=>by kernel_rfl)
theorem aiD (C:ae):DR C (.loop (av [1,1,1,1,1,1,1,1,1,0,0,0,0,0,0,0] qC)):=
 bH Nz [false,true,false,false] [[1,0,3,0,4]] (@DO C) (by kernel_rfl) (bc (bs:=[]) (by kernel_rfl) aC) (fun ds=>by kernel_rfl) (fun i x=>by kernel_rfl) (fun i x β k=>by kernel_rfl) (fun β ds k=>by kernel_rfl)
theorem aiE (C:ae):DR C (.loop (av [1,1,1,1,1,1,1,1,1,0,0,0,0,1,0,0,0] qC)):=
 bH NA [false,false,true,false] [[1,2,0,0,4]] (@ze C) (by kernel_rfl) (bc (bs:=[]) (by kernel_rfl) aC) (fun ds=>by kernel_rfl) (fun i x=>by kernel_rfl) (fun i x β k=>by kernel_rfl) (fun β ds k=>by kernel_rfl)
theorem aiF (C:ae):DR C (.loop (av [1,1,1,1,1,1,1,1,1,0,0,0] qC)):=
 bH NB [false,true,true,true] [[1,0,0,0,0]] (@DQ C) (by kernel_rfl) (bc (bs:=[.loop (av [1,1,1,1,1,1,1,1,1,0,0,0,0,0,0,0] qC),.loop (av [1,1,1,1,1,1,1,1,1,0,0,0,0,1,0,0,0] qC)]) (by kernel_rfl) (bt (aiD C) (bt (aiE C) aC))) (fun ds=>by kernel_rfl) (fun i x=>by kernel_rfl) (fun i x β k=>by kernel_rfl) (fun β ds k=>by kernel_rfl)
noncomputable def Ym (C:ae) (a b' pivot:Int) (aj:List V):Option (List V):=
 bif (decide (0≤pivot))&&(decide (pivot<(aj.length:Int))) then
  (aj[(pivot:Int).toNat]?).bind fun x1=>
  bif (decide (0≤a))&&(decide (a<(aj.length:Int))) then
  (aj[(a:Int).toNat]?).bind fun x2=>
  bif (decide (0≤a))&&(decide (a<(aj.length:Int))) then
   (aj[(a:Int).toNat]?).bind fun x3=>
   bif (decide (0≤pivot))&&(decide (pivot<((aj.set ((a:Int).toNat) (.agg [.int .i64 ((x1.cell 0).toInt),.int .i64 ((x1.cell 1).toInt),.int .i64 ((x1.cell 2).toInt)])).length:Int))) then
   ((aj.set ((a:Int).toNat) (.agg [.int .i64 ((x1.cell 0).toInt),.int .i64 ((x1.cell 1).toInt),.int .i64 ((x1.cell 2).toInt)]))[(pivot:Int).toNat]?).bind fun x4=>
   (Loop (DN C a (IntKind.wrap .i64 (b'-1)) ((aj.set ((a:Int).toNat) (.agg [.int .i64 ((x1.cell 0).toInt),.int .i64 ((x1.cell 1).toInt),.int .i64 ((x1.cell 2).toInt)])).set ((pivot:Int).toNat) (.agg [.int .i64 ((x2.cell 0).toInt),.int .i64 ((x2.cell 1).toInt),.int .i64 ((x2.cell 2).toInt)]))) (IntKind.wrap .i64 (a+1))).bind (un fun (fB:Int) (v8:Bool)=>
    (Loop (zd C a fB ((aj.set ((a:Int).toNat) (.agg [.int .i64 ((x1.cell 0).toInt),.int .i64 ((x1.cell 1).toInt),.int .i64 ((x1.cell 2).toInt)])).set ((pivot:Int).toNat) (.agg [.int .i64 ((x2.cell 0).toInt),.int .i64 ((x2.cell 1).toInt),.int .i64 ((x2.cell 2).toInt)]))) (IntKind.wrap .i64 (b'-1))).bind (un fun (eK:Int) (v7:Bool)=>
     bif decide ((fB:Int)>eK) then
      bif (decide (0≤a))&&(decide (a<(((aj.set ((a:Int).toNat) (.agg [.int .i64 ((x1.cell 0).toInt),.int .i64 ((x1.cell 1).toInt),.int .i64 ((x1.cell 2).toInt)])).set ((pivot:Int).toNat) (.agg [.int .i64 ((x2.cell 0).toInt),.int .i64 ((x2.cell 1).toInt),.int .i64 ((x2.cell 2).toInt)])).length:Int))) then
      (((aj.set ((a:Int).toNat) (.agg [.int .i64 ((x1.cell 0).toInt),.int .i64 ((x1.cell 1).toInt),.int .i64 ((x1.cell 2).toInt)])).set ((pivot:Int).toNat) (.agg [.int .i64 ((x2.cell 0).toInt),.int .i64 ((x2.cell 1).toInt),.int .i64 ((x2.cell 2).toInt)]))[(a:Int).toNat]?).bind fun gE=>
      bif (decide (0≤eK))&&(decide (eK<(((aj.set ((a:Int).toNat) (.agg [.int .i64 ((x1.cell 0).toInt),.int .i64 ((x1.cell 1).toInt),.int .i64 ((x1.cell 2).toInt)])).set ((pivot:Int).toNat) (.agg [.int .i64 ((x2.cell 0).toInt),.int .i64 ((x2.cell 1).toInt),.int .i64 ((x2.cell 2).toInt)])).length:Int))) then
       (((aj.set ((a:Int).toNat) (.agg [.int .i64 ((x1.cell 0).toInt),.int .i64 ((x1.cell 1).toInt),.int .i64 ((x1.cell 2).toInt)])).set ((pivot:Int).toNat) (.agg [.int .i64 ((x2.cell 0).toInt),.int .i64 ((x2.cell 1).toInt),.int .i64 ((x2.cell 2).toInt)]))[(eK:Int).toNat]?).bind fun fJ=>
       bif (decide (0≤eK))&&(decide (eK<(((aj.set ((a:Int).toNat) (.agg [.int .i64 ((x1.cell 0).toInt),.int .i64 ((x1.cell 1).toInt),.int .i64 ((x1.cell 2).toInt)])).set ((pivot:Int).toNat) (.agg [.int .i64 ((x2.cell 0).toInt),.int .i64 ((x2.cell 1).toInt),.int .i64 ((x2.cell 2).toInt)])).length:Int))) then
       (((aj.set ((a:Int).toNat) (.agg [.int .i64 ((x1.cell 0).toInt),.int .i64 ((x1.cell 1).toInt),.int .i64 ((x1.cell 2).toInt)])).set ((pivot:Int).toNat) (.agg [.int .i64 ((x2.cell 0).toInt),.int .i64 ((x2.cell 1).toInt),.int .i64 ((x2.cell 2).toInt)]))[(eK:Int).toNat]?).bind fun nn=>
       bif (decide (0≤a))&&(decide (a<((((aj.set ((a:Int).toNat) (.agg [.int .i64 ((x1.cell 0).toInt),.int .i64 ((x1.cell 1).toInt),.int .i64 ((x1.cell 2).toInt)])).set ((pivot:Int).toNat) (.agg [.int .i64 ((x2.cell 0).toInt),.int .i64 ((x2.cell 1).toInt),.int .i64 ((x2.cell 2).toInt)])).set ((eK:Int).toNat) (.agg [.int .i64 ((gE.cell 0).toInt),.int .i64 ((gE.cell 1).toInt),.int .i64 ((gE.cell 2).toInt)])).length:Int))) then
        ((((aj.set ((a:Int).toNat) (.agg [.int .i64 ((x1.cell 0).toInt),.int .i64 ((x1.cell 1).toInt),.int .i64 ((x1.cell 2).toInt)])).set ((pivot:Int).toNat) (.agg [.int .i64 ((x2.cell 0).toInt),.int .i64 ((x2.cell 1).toInt),.int .i64 ((x2.cell 2).toInt)])).set ((eK:Int).toNat) (.agg [.int .i64 ((gE.cell 0).toInt),.int .i64 ((gE.cell 1).toInt),.int .i64 ((gE.cell 2).toInt)]))[(a:Int).toNat]?).bind fun Dp=>
        some [.int .i64 eK,.bool true,.list aF ((((aj.set ((a:Int).toNat) (.agg [.int .i64 ((x1.cell 0).toInt),.int .i64 ((x1.cell 1).toInt),.int .i64 ((x1.cell 2).toInt)])).set ((pivot:Int).toNat) (.agg [.int .i64 ((x2.cell 0).toInt),.int .i64 ((x2.cell 1).toInt),.int .i64 ((x2.cell 2).toInt)])).set ((eK:Int).toNat) (.agg [.int .i64 ((gE.cell 0).toInt),.int .i64 ((gE.cell 1).toInt),.int .i64 ((gE.cell 2).toInt)])).set ((a:Int).toNat) (.agg [.int .i64 ((fJ.cell 0).toInt),.int .i64 ((fJ.cell 1).toInt),.int .i64 ((fJ.cell 2).toInt)]))]
       else none
       else none
      else none
      else none
     else
      bif (decide (0≤eK))&&(decide (eK<(((aj.set ((a:Int).toNat) (.agg [.int .i64 ((x1.cell 0).toInt),.int .i64 ((x1.cell 1).toInt),.int .i64 ((x1.cell 2).toInt)])).set ((pivot:Int).toNat) (.agg [.int .i64 ((x2.cell 0).toInt),.int .i64 ((x2.cell 1).toInt),.int .i64 ((x2.cell 2).toInt)])).length:Int))) then
      (((aj.set ((a:Int).toNat) (.agg [.int .i64 ((x1.cell 0).toInt),.int .i64 ((x1.cell 1).toInt),.int .i64 ((x1.cell 2).toInt)])).set ((pivot:Int).toNat) (.agg [.int .i64 ((x2.cell 0).toInt),.int .i64 ((x2.cell 1).toInt),.int .i64 ((x2.cell 2).toInt)]))[(eK:Int).toNat]?).bind fun mh=>
      bif (decide (0≤fB))&&(decide (fB<(((aj.set ((a:Int).toNat) (.agg [.int .i64 ((x1.cell 0).toInt),.int .i64 ((x1.cell 1).toInt),.int .i64 ((x1.cell 2).toInt)])).set ((pivot:Int).toNat) (.agg [.int .i64 ((x2.cell 0).toInt),.int .i64 ((x2.cell 1).toInt),.int .i64 ((x2.cell 2).toInt)])).length:Int))) then
       (((aj.set ((a:Int).toNat) (.agg [.int .i64 ((x1.cell 0).toInt),.int .i64 ((x1.cell 1).toInt),.int .i64 ((x1.cell 2).toInt)])).set ((pivot:Int).toNat) (.agg [.int .i64 ((x2.cell 0).toInt),.int .i64 ((x2.cell 1).toInt),.int .i64 ((x2.cell 2).toInt)]))[(fB:Int).toNat]?).bind fun sD=>
       bif (decide (0≤fB))&&(decide (fB<(((aj.set ((a:Int).toNat) (.agg [.int .i64 ((x1.cell 0).toInt),.int .i64 ((x1.cell 1).toInt),.int .i64 ((x1.cell 2).toInt)])).set ((pivot:Int).toNat) (.agg [.int .i64 ((x2.cell 0).toInt),.int .i64 ((x2.cell 1).toInt),.int .i64 ((x2.cell 2).toInt)])).length:Int))) then
       (((aj.set ((a:Int).toNat) (.agg [.int .i64 ((x1.cell 0).toInt),.int .i64 ((x1.cell 1).toInt),.int .i64 ((x1.cell 2).toInt)])).set ((pivot:Int).toNat) (.agg [.int .i64 ((x2.cell 0).toInt),.int .i64 ((x2.cell 1).toInt),.int .i64 ((x2.cell 2).toInt)]))[(fB:Int).toNat]?).bind fun Dq=>
       bif (decide (0≤eK))&&(decide (eK<((((aj.set ((a:Int).toNat) (.agg [.int .i64 ((x1.cell 0).toInt),.int .i64 ((x1.cell 1).toInt),.int .i64 ((x1.cell 2).toInt)])).set ((pivot:Int).toNat) (.agg [.int .i64 ((x2.cell 0).toInt),.int .i64 ((x2.cell 1).toInt),.int .i64 ((x2.cell 2).toInt)])).set ((fB:Int).toNat) (.agg [.int .i64 ((mh.cell 0).toInt),.int .i64 ((mh.cell 1).toInt),.int .i64 ((mh.cell 2).toInt)])).length:Int))) then
        ((((aj.set ((a:Int).toNat) (.agg [.int .i64 ((x1.cell 0).toInt),.int .i64 ((x1.cell 1).toInt),.int .i64 ((x1.cell 2).toInt)])).set ((pivot:Int).toNat) (.agg [.int .i64 ((x2.cell 0).toInt),.int .i64 ((x2.cell 1).toInt),.int .i64 ((x2.cell 2).toInt)])).set ((fB:Int).toNat) (.agg [.int .i64 ((mh.cell 0).toInt),.int .i64 ((mh.cell 1).toInt),.int .i64 ((mh.cell 2).toInt)]))[(eK:Int).toNat]?).bind fun x22=>
        (Loop (zh C a) (IntKind.wrap .i64 (fB+1),IntKind.wrap .i64 (eK-1),(((aj.set ((a:Int).toNat) (.agg [.int .i64 ((x1.cell 0).toInt),.int .i64 ((x1.cell 1).toInt),.int .i64 ((x1.cell 2).toInt)])).set ((pivot:Int).toNat) (.agg [.int .i64 ((x2.cell 0).toInt),.int .i64 ((x2.cell 1).toInt),.int .i64 ((x2.cell 2).toInt)])).set ((fB:Int).toNat) (.agg [.int .i64 ((mh.cell 0).toInt),.int .i64 ((mh.cell 1).toInt),.int .i64 ((mh.cell 2).toInt)])).set ((eK:Int).toNat) (.agg [.int .i64 ((sD.cell 0).toInt),.int .i64 ((sD.cell 1).toInt),.int .i64 ((sD.cell 2).toInt)]))).bind (un fun (aqs:Int)=>un fun (qD:Int)=>un fun (aqt:Bool) (ki:List V)=>
         bif (decide (0≤a))&&(decide (a<(ki.length:Int))) then
         (ki[(a:Int).toNat]?).bind fun nu=>
         bif (decide (0≤qD))&&(decide (qD<(ki.length:Int))) then
          (ki[(qD:Int).toNat]?).bind fun wA=>
          bif (decide (0≤qD))&&(decide (qD<(ki.length:Int))) then
          (ki[(qD:Int).toNat]?).bind fun x43=>
          bif (decide (0≤a))&&(decide (a<((ki.set ((qD:Int).toNat) (.agg [.int .i64 ((nu.cell 0).toInt),.int .i64 ((nu.cell 1).toInt),.int .i64 ((nu.cell 2).toInt)])).length:Int))) then
           ((ki.set ((qD:Int).toNat) (.agg [.int .i64 ((nu.cell 0).toInt),.int .i64 ((nu.cell 1).toInt),.int .i64 ((nu.cell 2).toInt)]))[(a:Int).toNat]?).bind fun x44=>
           some [.int .i64 qD,.bool false,.list aF ((ki.set ((qD:Int).toNat) (.agg [.int .i64 ((nu.cell 0).toInt),.int .i64 ((nu.cell 1).toInt),.int .i64 ((nu.cell 2).toInt)])).set ((a:Int).toNat) (.agg [.int .i64 ((wA.cell 0).toInt),.int .i64 ((wA.cell 1).toInt),.int .i64 ((wA.cell 2).toInt)]))]
          else none
          else none
         else none
         else none)
       else none
       else none
      else none
      else none))
   else none
  else none
  else none
 else none
theorem aiG {a b' pivot:Int} {aj:List V} {r:Option (List V)} (h:Ym CC a b' pivot aj=r):CC pg [.int .i64 a,.int .i64 b',.int .i64 pivot,.list aF aj]=r:=
 bC (key:=181) (L:=Yl CC) (bs:=[.loop (av [1,1,1,0,0,0] qC),.loop (av [1,1,1,1,0,0,0] qC),.loop (av [1,1,1,1,1,1,1,1,1,0,0,0] qC)]) (by kernel_rfl) (bt (aiB CC) (bt (aiC CC) (bt (aiF CC) aC))) (bw (by kernel_rfl) h)
noncomputable abbrev zi:Code:=cN Tryd.prog (aD.bd 182)
noncomputable def DS (C:ae) (a j:Int) (aj:List V) (i:Int) {β:Type} (kn:Int→Option β) (kr:(Int × Bool)→Option β):Option β:=
 bif decide ((i:Int)≤j) then
  bif (decide (0≤a))&&(decide (a<(aj.length:Int))) then
  (aj[(a:Int).toNat]?).bind fun x5=>
  bif (decide (0≤i))&&(decide (i<(aj.length:Int))) then
   (aj[(i:Int).toNat]?).bind fun x6=>
   (C bx [.int .i64 ((x5.cell 0).toInt),.int .i64 ((x5.cell 1).toInt),.int .i64 ((x5.cell 2).toInt),.int .i64 ((x6.cell 0).toInt),.int .i64 ((x6.cell 1).toInt),.int .i64 ((x6.cell 2).toInt)]).bind fun r7=>
   bif !(decide ((((V.nth r7 0).toInt):Int)<0)) then
   kn (IntKind.wrap .i64 (i+1))
   else
   kr (i,!(decide ((((V.nth r7 0).toInt):Int)<0)))
  else none
  else none
 else
  kr (i,false)
noncomputable def DT (C:ae) (a j:Int) (aj:List V):(Int)→Option ((Int) ⊕ (Int × Bool)):=fun i=>DS C a j aj i (fun y=>some (.inl y)) (fun r=>some (.inr r))
noncomputable def zj (C:ae) (a i:Int) (aj:List V) (j:Int) {β:Type} (kn:Int→Option β) (kr:(Int × Bool)→Option β):Option β:=
 bif decide ((i:Int)≤j) then
  bif (decide (0≤a))&&(decide (a<(aj.length:Int))) then
  (aj[(a:Int).toNat]?).bind fun jn=>
  bif (decide (0≤j))&&(decide (j<(aj.length:Int))) then
   (aj[(j:Int).toNat]?).bind fun gy=>
   (C bx [.int .i64 ((jn.cell 0).toInt),.int .i64 ((jn.cell 1).toInt),.int .i64 ((jn.cell 2).toInt),.int .i64 ((gy.cell 0).toInt),.int .i64 ((gy.cell 1).toInt),.int .i64 ((gy.cell 2).toInt)]).bind fun ao=>
   bif decide ((((V.nth ao 0).toInt):Int)<0) then
   kn (IntKind.wrap .i64 (j-1))
   else
   kr (j,decide ((((V.nth ao 0).toInt):Int)<0))
  else none
  else none
 else
  kr (j,false)
noncomputable def zk (C:ae) (a i:Int) (aj:List V):(Int)→Option ((Int) ⊕ (Int × Bool)):=fun j=>zj C a i aj j (fun y=>some (.inl y)) (fun r=>some (.inr r))
noncomputable def DU (C:ae) (a i j:Int) (aj:List V) {β:Type} (kn:(Int × Int × (List V))→Option β) (kr:(Int × Int × Bool × (List V))→Option β):Option β:=
 (Loop (DT C a j aj) i).bind (un fun (fB:Int) (v8:Bool)=>
  (Loop (zk C a fB aj) j).bind (un fun (eK:Int) (v7:Bool)=>
   bif decide ((fB:Int)>eK) then
    kr (fB,eK,decide ((fB:Int)>eK),aj)
   else
    bif (decide (0≤eK))&&(decide (eK<(aj.length:Int))) then
    (aj[(eK:Int).toNat]?).bind fun gE=>
    bif (decide (0≤fB))&&(decide (fB<(aj.length:Int))) then
     (aj[(fB:Int).toNat]?).bind fun fJ=>
     bif (decide (0≤fB))&&(decide (fB<(aj.length:Int))) then
     (aj[(fB:Int).toNat]?).bind fun nn=>
     bif (decide (0≤eK))&&(decide (eK<((aj.set ((fB:Int).toNat) (.agg [.int .i64 ((gE.cell 0).toInt),.int .i64 ((gE.cell 1).toInt),.int .i64 ((gE.cell 2).toInt)])).length:Int))) then
      ((aj.set ((fB:Int).toNat) (.agg [.int .i64 ((gE.cell 0).toInt),.int .i64 ((gE.cell 1).toInt),.int .i64 ((gE.cell 2).toInt)]))[(eK:Int).toNat]?).bind fun Dp=>
      kn (IntKind.wrap .i64 (fB+1),IntKind.wrap .i64 (eK-1),(aj.set ((fB:Int).toNat) (.agg [.int .i64 ((gE.cell 0).toInt),.int .i64 ((gE.cell 1).toInt),.int .i64 ((gE.cell 2).toInt)])).set ((eK:Int).toNat) (.agg [.int .i64 ((fJ.cell 0).toInt),.int .i64 ((fJ.cell 1).toInt),.int .i64 ((fJ.cell 2).toInt)]))
     else none
     else none
    else none
    else none))
noncomputable def zl (C:ae) (a:Int):(Int × Int × (List V))→Option ((Int × Int × (List V)) ⊕ (Int × Int × Bool × (List V))):=un fun i=>un fun j aj=>DU C a i j aj (fun y=>some (.inl y)) (fun r=>some (.inr r))
noncomputable def Yn (C:ae):cH:=fun β n ds k=>
 bif Nat.beq n 49 then bE NC [false,true,false,false] [[1,0,3,0,4]] (@DS C) ds k else
 bif Nat.beq n 81 then bE ND [false,false,true,false] [[1,2,0,0,4]] (@zj C) ds k else
 bif Nat.beq n 50 then bE NF [false,true,true,true] [[1,0,0,0,0]] (@DU C) ds k else
 none
abbrev OK (C:ae) (b:cE):Prop:=cF Tryd.prog aD C (Yn C) 182 (cQ Tryd.prog (aD.bd 182)) (aD.sin 182).bf.length b
theorem aiH (C:ae):OK C (.loop (av [1,1,1,0,0,0,0,0,0,0] zi)):=
 bH NC [false,true,false,false] [[1,0,3,0,4]] (@DS C) (by kernel_rfl) (bc (bs:=[]) (by kernel_rfl) aC) (fun ds=>by kernel_rfl) (fun i x=>by kernel_rfl) (fun i x β k=>by kernel_rfl) (fun β ds k=>by kernel_rfl)
theorem aiI (C:ae):OK C (.loop (av [1,1,1,0,0,0,0,1,0,0,0] zi)):=
 bH ND [false,false,true,false] [[1,2,0,0,4]] (@zj C) (by kernel_rfl) (bc (bs:=[]) (by kernel_rfl) aC) (fun ds=>by kernel_rfl) (fun i x=>by kernel_rfl) (fun i x β k=>by kernel_rfl) (fun β ds k=>by kernel_rfl)
theorem aiJ (C:ae):OK C (.loop (av [1,1,1,0,0,0] zi)):=
 bH NF [false,true,true,true] [[1,0,0,0,0]] (@DU C) (by kernel_rfl) (bc (bs:=[.loop (av [1,1,1,0,0,0,0,0,0,0] zi),.loop (av [1,1,1,0,0,0,0,1,0,0,0] zi)]) (by kernel_rfl) (bt (aiH C) (bt (aiI C) aC))) (fun ds=>by kernel_rfl) (fun i x=>by kernel_rfl) (fun i x β k=>by kernel_rfl) (fun β ds k=>by kernel_rfl)
noncomputable def Yo (C:ae) (a b' pivot:Int) (aj:List V):Option (List V):=
 bif (decide (0≤pivot))&&(decide (pivot<(aj.length:Int))) then
  (aj[(pivot:Int).toNat]?).bind fun x1=>
  bif (decide (0≤a))&&(decide (a<(aj.length:Int))) then
  (aj[(a:Int).toNat]?).bind fun x2=>
  bif (decide (0≤a))&&(decide (a<(aj.length:Int))) then
   (aj[(a:Int).toNat]?).bind fun x3=>
   bif (decide (0≤pivot))&&(decide (pivot<((aj.set ((a:Int).toNat) (.agg [.int .i64 ((x1.cell 0).toInt),.int .i64 ((x1.cell 1).toInt),.int .i64 ((x1.cell 2).toInt)])).length:Int))) then
   ((aj.set ((a:Int).toNat) (.agg [.int .i64 ((x1.cell 0).toInt),.int .i64 ((x1.cell 1).toInt),.int .i64 ((x1.cell 2).toInt)]))[(pivot:Int).toNat]?).bind fun x4=>
   (Loop (zl C a) (IntKind.wrap .i64 (a+1),IntKind.wrap .i64 (b'-1),(aj.set ((a:Int).toNat) (.agg [.int .i64 ((x1.cell 0).toInt),.int .i64 ((x1.cell 1).toInt),.int .i64 ((x1.cell 2).toInt)])).set ((pivot:Int).toNat) (.agg [.int .i64 ((x2.cell 0).toInt),.int .i64 ((x2.cell 1).toInt),.int .i64 ((x2.cell 2).toInt)]))).bind (un fun (aiK:Int)=>un fun (aqu:Int)=>un fun (aiL:Bool) (aiM:List V)=>
    some [.int .i64 aiK,.list aF aiM])
   else none
  else none
  else none
 else none
theorem aiN {a b' pivot:Int} {aj:List V} {r:Option (List V)} (h:Yo CC a b' pivot aj=r):CC yk [.int .i64 a,.int .i64 b',.int .i64 pivot,.list aF aj]=r:=
 bC (key:=182) (L:=Yn CC) (bs:=[.loop (av [1,1,1,0,0,0] zi)]) (by kernel_rfl) (bt (aiJ CC) aC) (bw (by kernel_rfl) h)
noncomputable abbrev oC:Code:=cN Tryd.prog (aD.bd 180)
noncomputable def DV (C:ae) (a b' j:Int) (aj:List V) (i:Int) {β:Type} (kn:Int→Option β) (kr:(Int × Bool)→Option β):Option β:=
 bif decide ((i:Int)<b') then
  bif (decide (0≤i))&&(decide (i<(aj.length:Int))) then
  (aj[(i:Int).toNat]?).bind fun x1=>
  bif (decide (0≤(IntKind.wrap .i64 (i-1))))&&(decide ((IntKind.wrap .i64 (i-1))<(aj.length:Int))) then
   (aj[(IntKind.wrap .i64 (i-1):Int).toNat]?).bind fun x2=>
   (C bx [.int .i64 ((x1.cell 0).toInt),.int .i64 ((x1.cell 1).toInt),.int .i64 ((x1.cell 2).toInt),.int .i64 ((x2.cell 0).toInt),.int .i64 ((x2.cell 1).toInt),.int .i64 ((x2.cell 2).toInt)]).bind fun r3=>
   bif !(decide ((((V.nth r3 0).toInt):Int)<0)) then
   kn (IntKind.wrap .i64 (i+1))
   else
   kr (i,!(decide ((((V.nth r3 0).toInt):Int)<0)))
  else none
  else none
 else
  kr (i,false)
noncomputable def DW (C:ae) (a b' j:Int) (aj:List V):(Int)→Option ((Int) ⊕ (Int × Bool)):=fun i=>DV C a b' j aj i (fun y=>some (.inl y)) (fun r=>some (.inr r))
noncomputable def DX (C:ae) (a b' i j j':Int) (aj:List V) {β:Type} (kn:(Int × (List V))→Option β) (kr:(Int × (List V))→Option β):Option β:=
 bif decide ((j':Int)≥1) then
  bif (decide (0≤j'))&&(decide (j'<(aj.length:Int))) then
  (aj[(j':Int).toNat]?).bind fun jn=>
  bif (decide (0≤(IntKind.wrap .i64 (j'-1))))&&(decide ((IntKind.wrap .i64 (j'-1))<(aj.length:Int))) then
   (aj[(IntKind.wrap .i64 (j'-1):Int).toNat]?).bind fun gy=>
   (C bx [.int .i64 ((jn.cell 0).toInt),.int .i64 ((jn.cell 1).toInt),.int .i64 ((jn.cell 2).toInt),.int .i64 ((gy.cell 0).toInt),.int .i64 ((gy.cell 1).toInt),.int .i64 ((gy.cell 2).toInt)]).bind fun ao=>
   bif !(decide ((((V.nth ao 0).toInt):Int)<0)) then
   kr (j',aj)
   else
   bif (decide (0≤(IntKind.wrap .i64 (j'-1))))&&(decide ((IntKind.wrap .i64 (j'-1))<(aj.length:Int))) then
    (aj[(IntKind.wrap .i64 (j'-1):Int).toNat]?).bind fun kh=>
    bif (decide (0≤j'))&&(decide (j'<(aj.length:Int))) then
    (aj[(j':Int).toNat]?).bind fun nr=>
    bif (decide (0≤j'))&&(decide (j'<(aj.length:Int))) then
     (aj[(j':Int).toNat]?).bind fun gE=>
     bif (decide (0≤(IntKind.wrap .i64 (j'-1))))&&(decide ((IntKind.wrap .i64 (j'-1))<((aj.set ((j':Int).toNat) (.agg [.int .i64 ((kh.cell 0).toInt),.int .i64 ((kh.cell 1).toInt),.int .i64 ((kh.cell 2).toInt)])).length:Int))) then
     ((aj.set ((j':Int).toNat) (.agg [.int .i64 ((kh.cell 0).toInt),.int .i64 ((kh.cell 1).toInt),.int .i64 ((kh.cell 2).toInt)]))[(IntKind.wrap .i64 (j'-1):Int).toNat]?).bind fun fJ=>
     kn (IntKind.wrap .i64 (j'-1),(aj.set ((j':Int).toNat) (.agg [.int .i64 ((kh.cell 0).toInt),.int .i64 ((kh.cell 1).toInt),.int .i64 ((kh.cell 2).toInt)])).set ((IntKind.wrap .i64 (j'-1):Int).toNat) (.agg [.int .i64 ((nr.cell 0).toInt),.int .i64 ((nr.cell 1).toInt),.int .i64 ((nr.cell 2).toInt)]))
     else none
    else none
    else none
   else none
  else none
  else none
 else
  kr (j',aj)
noncomputable def DY (C:ae) (a b' i j:Int):(Int × (List V))→Option ((Int × (List V)) ⊕ (Int × (List V))):=un fun j' aj=>DX C a b' i j j' aj (fun y=>some (.inl y)) (fun r=>some (.inr r))
noncomputable def I4 (C:ae) (a b' i j:Int) (t65:Bool) (aj:List V) {β:Type} (kr:(List V)→Option β):Option β:=
 bif t65 then
  (Loop (DY C a b' i j) (IntKind.wrap .i64 (i-1),aj)).bind (un fun (aqv:Int) (aiO:List V)=>
   kr aiO)
 else
  kr aj
noncomputable def DZ (C:ae) (a b' i j j':Int) (aj:List V) {β:Type} (kn:(Int × (List V))→Option β) (kr:(Int × (List V))→Option β):Option β:=
 bif decide ((j':Int)<b') then
  bif (decide (0≤j'))&&(decide (j'<(aj.length:Int))) then
  (aj[(j':Int).toNat]?).bind fun sD=>
  bif (decide (0≤(IntKind.wrap .i64 (j'-1))))&&(decide ((IntKind.wrap .i64 (j'-1))<(aj.length:Int))) then
   (aj[(IntKind.wrap .i64 (j'-1):Int).toNat]?).bind fun Dq=>
   (C bx [.int .i64 ((sD.cell 0).toInt),.int .i64 ((sD.cell 1).toInt),.int .i64 ((sD.cell 2).toInt),.int .i64 ((Dq.cell 0).toInt),.int .i64 ((Dq.cell 1).toInt),.int .i64 ((Dq.cell 2).toInt)]).bind fun jN=>
   bif !(decide ((((V.nth jN 0).toInt):Int)<0)) then
   kr (j',aj)
   else
   bif (decide (0≤(IntKind.wrap .i64 (j'-1))))&&(decide ((IntKind.wrap .i64 (j'-1))<(aj.length:Int))) then
    (aj[(IntKind.wrap .i64 (j'-1):Int).toNat]?).bind fun mg=>
    bif (decide (0≤j'))&&(decide (j'<(aj.length:Int))) then
    (aj[(j':Int).toNat]?).bind fun wx=>
    bif (decide (0≤j'))&&(decide (j'<(aj.length:Int))) then
     (aj[(j':Int).toNat]?).bind fun x25=>
     bif (decide (0≤(IntKind.wrap .i64 (j'-1))))&&(decide ((IntKind.wrap .i64 (j'-1))<((aj.set ((j':Int).toNat) (.agg [.int .i64 ((mg.cell 0).toInt),.int .i64 ((mg.cell 1).toInt),.int .i64 ((mg.cell 2).toInt)])).length:Int))) then
     ((aj.set ((j':Int).toNat) (.agg [.int .i64 ((mg.cell 0).toInt),.int .i64 ((mg.cell 1).toInt),.int .i64 ((mg.cell 2).toInt)]))[(IntKind.wrap .i64 (j'-1):Int).toNat]?).bind fun x26=>
     kn (IntKind.wrap .i64 (j'+1),(aj.set ((j':Int).toNat) (.agg [.int .i64 ((mg.cell 0).toInt),.int .i64 ((mg.cell 1).toInt),.int .i64 ((mg.cell 2).toInt)])).set ((IntKind.wrap .i64 (j'-1):Int).toNat) (.agg [.int .i64 ((wx.cell 0).toInt),.int .i64 ((wx.cell 1).toInt),.int .i64 ((wx.cell 2).toInt)]))
     else none
    else none
    else none
   else none
  else none
  else none
 else
  kr (j',aj)
noncomputable def D0 (C:ae) (a b' i j:Int):(Int × (List V))→Option ((Int × (List V)) ⊕ (Int × (List V))):=un fun j' aj=>DZ C a b' i j j' aj (fun y=>some (.inl y)) (fun r=>some (.inr r))
noncomputable def D1 (C:ae) (a b' i j:Int) (aj:List V) {β:Type} (kn:(Int × Int × (List V))→Option β) (kr:((Bool × (List V)) ⊕ (Int × Int × Bool × (List V)))→Option β):Option β:=
 bif decide ((j:Int)<5) then
  (Loop (DW C a b' j aj) i).bind (un fun (fK:Int) (m9:Bool)=>
   bif (fK:Int)==b' then
   kr (.inl (true,aj))
   else
   bif decide (((IntKind.wrap .i64 (b'-a)):Int)<50) then
    kr (.inl (false,aj))
   else
    bif (decide (0≤(IntKind.wrap .i64 (fK-1))))&&(decide ((IntKind.wrap .i64 (fK-1))<(aj.length:Int))) then
    (aj[(IntKind.wrap .i64 (fK-1):Int).toNat]?).bind fun x6=>
    bif (decide (0≤fK))&&(decide (fK<(aj.length:Int))) then
     (aj[(fK:Int).toNat]?).bind fun x7=>
     bif (decide (0≤fK))&&(decide (fK<(aj.length:Int))) then
     (aj[(fK:Int).toNat]?).bind fun x8=>
     bif (decide (0≤(IntKind.wrap .i64 (fK-1))))&&(decide ((IntKind.wrap .i64 (fK-1))<((aj.set ((fK:Int).toNat) (.agg [.int .i64 ((x6.cell 0).toInt),.int .i64 ((x6.cell 1).toInt),.int .i64 ((x6.cell 2).toInt)])).length:Int))) then
      ((aj.set ((fK:Int).toNat) (.agg [.int .i64 ((x6.cell 0).toInt),.int .i64 ((x6.cell 1).toInt),.int .i64 ((x6.cell 2).toInt)]))[(IntKind.wrap .i64 (fK-1):Int).toNat]?).bind fun x9=>
      I4 C a b' fK j (decide (((IntKind.wrap .i64 (fK-a)):Int)≥2)) ((aj.set ((fK:Int).toNat) (.agg [.int .i64 ((x6.cell 0).toInt),.int .i64 ((x6.cell 1).toInt),.int .i64 ((x6.cell 2).toInt)])).set ((IntKind.wrap .i64 (fK-1):Int).toNat) (.agg [.int .i64 ((x7.cell 0).toInt),.int .i64 ((x7.cell 1).toInt),.int .i64 ((x7.cell 2).toInt)])) (fun (Yp:List V)=>
       bif decide (((IntKind.wrap .i64 (b'-fK)):Int)≥2) then
       (Loop (D0 C a b' fK j) (IntKind.wrap .i64 (fK+1),Yp)).bind (un fun (aqw:Int) (aiP:List V)=>
        kn (fK,IntKind.wrap .i64 (j+1),aiP))
       else
       kn (fK,IntKind.wrap .i64 (j+1),Yp))
     else none
     else none
    else none
    else none)
 else
  kr (.inr (i,j,decide ((j:Int)<5),aj))
noncomputable def uf (C:ae) (a b':Int):(Int × Int × (List V))→Option ((Int × Int × (List V)) ⊕ ((Bool × (List V)) ⊕ (Int × Int × Bool × (List V)))):=un fun i=>un fun j aj=>D1 C a b' i j aj (fun y=>some (.inl y)) (fun r=>some (.inr r))
noncomputable def Yq (C:ae):cH:=fun β n ds k=>
 bif Nat.beq n 81 then bE Ns [false,false,true,false,false] [[1,2,0,4,0,5]] (@DV C) ds k else
 bif Nat.beq n 225 then bE Nt [false,false,false,false,true,true] [[1,2,3,4,0,0]] (@DX C) ds k else
 bif Nat.beq n 1055 then pf Nu [[1,2,3,4,0]] (@I4 C) ds k else
 bif Nat.beq n 321 then bE Nv [false,false,false,false,true,true] [[1,2,3,4,0,0]] (@DZ C) ds k else
 bif Nat.beq n 49 then bE Nw [false,false,true,true,true] [[0,0],[1,2,0,0,0,0]] (@D1 C) ds k else
 none
abbrev D2 (C:ae) (b:cE):Prop:=cF Tryd.prog aD C (Yq C) 180 (cQ Tryd.prog (aD.bd 180)) (aD.sin 180).bf.length b
theorem aiQ (C:ae):D2 C (.loop (av [1,1,0,1,0,0,1,0,0,0,0,0] oC)):=
 bH Ns [false,false,true,false,false] [[1,2,0,4,0,5]] (@DV C) (by kernel_rfl) (bc (bs:=[]) (by kernel_rfl) aC) (fun ds=>by kernel_rfl) (fun i x=>by kernel_rfl) (fun i x β k=>by kernel_rfl) (fun β ds k=>by kernel_rfl)
theorem aiR (C:ae):D2 C (.loop (av [1,1,0,1,0,0,1,0,0,1,1,1,1,0,1,0,1,0,0] oC)):=
 bH Nt [false,false,false,false,true,true] [[1,2,3,4,0,0]] (@DX C) (by kernel_rfl) (bc (bs:=[]) (by kernel_rfl) aC) (fun ds=>by kernel_rfl) (fun i x=>by kernel_rfl) (fun i x β k=>by kernel_rfl) (fun β ds k=>by kernel_rfl)
theorem aiS (C:ae):D2 C (.cond 65 (av [1,1,0,1,0,0,1,0,0,1,1,1,1,0,1,0] oC) (av [1,1,0,1,0,0,1,0,0,1,1,1,1,0,1,1] oC)):=
 ql Nu [[1,2,3,4,0]] (@I4 C) (by kernel_rfl) (bc (bs:=[.loop (av [1,1,0,1,0,0,1,0,0,1,1,1,1,0,1,0,1,0,0] oC)]) (by kernel_rfl) (bt (aiR C) aC)) (bc (bs:=[]) (by kernel_rfl) aC) (fun ds=>by kernel_rfl) (fun i β k=>by kernel_rfl) (fun β ds k=>by kernel_rfl)
theorem aiT (C:ae):D2 C (.loop (av [1,1,0,1,0,0,1,0,0,1,1,1,1,1,1,0,1,0,0] oC)):=
 bH Nv [false,false,false,false,true,true] [[1,2,3,4,0,0]] (@DZ C) (by kernel_rfl) (bc (bs:=[]) (by kernel_rfl) aC) (fun ds=>by kernel_rfl) (fun i x=>by kernel_rfl) (fun i x β k=>by kernel_rfl) (fun β ds k=>by kernel_rfl)
theorem aiU (C:ae):D2 C (.loop (av [1,1,0,1,0,0] oC)):=
 bH Nw [false,false,true,true,true] [[0,0],[1,2,0,0,0,0]] (@D1 C) (by kernel_rfl) (bc (bs:=[.loop (av [1,1,0,1,0,0,1,0,0,0,0,0] oC),.cond 65 (av [1,1,0,1,0,0,1,0,0,1,1,1,1,0,1,0] oC) (av [1,1,0,1,0,0,1,0,0,1,1,1,1,0,1,1] oC),.loop (av [1,1,0,1,0,0,1,0,0,1,1,1,1,1,1,0,1,0,0] oC)]) (by kernel_rfl) (bt (aiQ C) (bt (aiS C) (bt (aiT C) aC)))) (fun ds=>by kernel_rfl) (fun i x=>by kernel_rfl) (fun i x β k=>by kernel_rfl) (fun β ds k=>by kernel_rfl)
noncomputable def Yr (C:ae) (a b':Int) (aj:List V):Option (List V):=
 (Loop (uf C a b') (IntKind.wrap .i64 (a+1),0,aj)).bind (dy (un fun (aiV:Bool) (aiW:List V)=>
  some [.bool aiV,.list aF aiW]) (un fun (aqx:Int)=>un fun (aqy:Int)=>un fun (aqz:Bool) (aiX:List V)=>
  some [.bool false,.list aF aiX]))
theorem aiY {a b':Int} {aj:List V} {r:Option (List V)} (h:Yr CC a b' aj=r):CC LX [.int .i64 a,.int .i64 b',.list aF aj]=r:=
 bC (key:=180) (L:=Yq CC) (bs:=[.loop (av [1,1,0,1,0,0] oC)]) (by kernel_rfl) (bt (aiU CC) aC) (bw (by kernel_rfl) h)
end Go.AM
