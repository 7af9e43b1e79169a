/-
  Functions of vE program, lifted to plain data.
-/
import Derived.Sort.AssemblyPlain
import Derived.Test.YtmcdbnalaobmpaaDoorP4
set_option linter.unusedVariables false
set_option linter.unusedSimpArgs false
set_option maxRecDepth 100000
namespace Go.AM
section
variable {β:Type} [DecidableEq β]
def aV (g:Nat→β):Nat→List β
 | 0=>[]
 | n+1=>dr (aV g n) (g n)
theorem Nu (g:Nat→β): ∀n,(aV g n).Nodup
 | 0=>List.nodup_nil
 | n+1=>VE (Nu g n)
theorem iY {g:Nat→β} {v:β}: ∀{n},v∈aV g n↔∃q,q<n∧g q=v
 | 0=>⟨fun h=>(by cases h),fun ⟨q,h,_⟩=>(by omega)⟩
 | n+1=>by
  have ih:=iY (g:=g) (v:=v) (n:=n)
  rw[aV]
  unfold dr
  constructor
  ·intro h
   split at h
   ·obtain ⟨q,h1,h2⟩:=ih.1 h;exact ⟨q,by omega,h2⟩
   ·rcases List.mem_append.1 h with h|h
    ·obtain ⟨q,h1,h2⟩:=ih.1 h;exact ⟨q,by omega,h2⟩
    ·exact ⟨n,by omega,(List.mem_singleton.1 h).symm⟩
  ·rintro ⟨q,h1,h2⟩
   rcases Nat.lt_or_ge q n with c|c
   ·exact (G4 (aV g n) (g n)).subset (ih.2 ⟨q,c,h2⟩)
   ·obtain rfl:q=n:=by omega
    rw[←h2];exact xt
theorem af1 {g:Nat→β} {m n:Nat} (h:m≤n):aV g m <+: aV g n:=by
 induction n with
 | zero=>rw[Nat.le_zero.1 h];exact List.prefix_refl _
 | succ n ih=>
  rcases Nat.lt_or_ge m (n+1) with c|c
  ·exact (ih (by omega)).trans (G4 _ _)
  ·rw[show m=n+1 by omega];exact List.prefix_refl _
theorem rD (g:Nat→β): ∀n,(aV g n).length≤n
 | 0=>Nat.le_refl _
 | n+1=>by
  have:=rD g n
  rw[aV,sX]
  split<;>omega
def cz (g:Nat→β) (n q:Nat):Nat:=(aV g n).idxOf (g q)
theorem BK {g:Nat→β} {n q:Nat} (h:q<n):cz g n q<(aV g n).length:=List.idxOf_lt_length_of_mem (iY.2 ⟨q,h,rfl⟩)
theorem BL {g:Nat→β} {n p q:Nat} (hp:p<n) (hq:q<n):cz g n p=cz g n q↔g p=g q:=by
 constructor
 ·intro h
  have h1:=List.getElem_idxOf (BK (g:=g) hp)
  have h2:=List.getElem_idxOf (BK (g:=g) hq)
  rw[←h1,←h2]
  exact getElem_congr_idx h
 ·intro h;unfold cz;rw[h]
theorem BM {g:Nat→β} {m n q:Nat} (h:q<m) (hm:m≤n):cz g n q=cz g m q:=xx (af1 hm) (iY.2 ⟨q,h,rfl⟩)
theorem Nv {g:Nat→β} {q:Nat} (h:g q∈aV g q):aV g (q+1)=aV g q:=by rw[aV];unfold dr;rw[if_pos h]
theorem Nw {g:Nat→β} {q:Nat} (h:g q∉aV g q):aV g (q+1)=aV g q++[g q]:=by rw[aV];unfold dr;rw[if_neg h]
theorem WD {g:Nat→β} {n q:Nat} (hq:q<n) (h:g q∈aV g q):cz g n q=(aV g q).idxOf (g q):=by
 rw[BM (show q<q+1 by omega) (by omega)]
 unfold cz
 rw[Nv h]
theorem WE {g:Nat→β} {n q:Nat} (hq:q<n) (h:g q∉aV g q):cz g n q=(aV g q).length:=by
 rw[BM (show q<q+1 by omega) (by omega)]
 unfold cz
 rw[Nw h,List.idxOf_append,if_neg h]
 simp
def oI (p:Nat→Nat) (n:Nat):Prop:= ∀m,m≤n→aV p m=List.range (aV p m).length
theorem WG (g:Nat→β) (n:Nat): ∀m,m≤n→aV (cz g n) m=List.range (aV g m).length:=by
 intro m
 induction m with
 | zero=>intro _;rfl
 | succ m ih=>
  intro hm
  have ih:=ih (by omega)
  have e1:cz g n m=cz g (m+1) m:=BM (by omega) hm
  have e2:cz g (m+1) m=if g m∈aV g m then (aV g m).idxOf (g m) else (aV g m).length:=by
   unfold cz
   rw[aV]
   unfold dr
   split
   ·rfl
   ·rename_i h
    rw[List.idxOf_append,if_neg h]
    simp
  rw[aV,ih,aV,sX]
  unfold dr
  by_cases h:g m∈aV g m
  ·have:=List.idxOf_lt_length_of_mem h
   rw[if_pos h] at e2
   rw[if_pos h,if_pos (by rw[e1,e2];exact List.mem_range.2 this)]
  ·rw[if_neg h] at e2
   rw[if_neg h,if_neg (by rw[e1,e2];simp),e1,e2,List.range_succ]
theorem Nx (g:Nat→β) (n:Nat):oI (cz g n) n:=fun m hm=>by
 rw[WG g n m hm,List.length_range]
theorem Ny {γ:Type} [DecidableEq γ] {f:Nat→β} {c:Nat→γ} {n:Nat} (hr: ∀q q',q<n→q'<n→f q=f q'→c q=c q') (hl:(aV f n).length≤(aV c n).length):
  ∀q q',q<n→q'<n→c q=c q'→f q=f q':=by
 intro q q' hq ca hc
 refine Decidable.byContradiction fun hf=> ?_
 have rep: ∀v∈aV f n,∃q,q<n∧f q=v:=fun v hv=>iY.1 hv
 have: ∃R:β→Nat,∀v∈aV f n,R v<n∧f (R v)=v:=by
  classical
  refine ⟨fun v=>if h:v∈aV f n then Classical.choose (rep v h) else 0,fun v hv=> ?_⟩
  simp only[hv,dif_pos]
  exact Classical.choose_spec (rep v hv)
 obtain ⟨R,hR⟩:=this
 have il:aV c n ⊆ ((aV f n).filter fun v=>decide (v≠f q')).map fun v=>c (R v):=by
  intro u hu
  obtain ⟨s,hs,rfl⟩:=iY.1 hu
  by_cases h:f s=f q'
  ·refine List.mem_map.2 ⟨f q,List.mem_filter.2 ⟨iY.2 ⟨q,hq,rfl⟩,decide_eq_true hf⟩,?_⟩
   have h1:=hR (f q) (iY.2 ⟨q,hq,rfl⟩)
   rw[hr _ _ h1.1 hq h1.2,hc,hr _ _ hs ca h]
  ·refine List.mem_map.2 ⟨f s,List.mem_filter.2 ⟨iY.2 ⟨s,hs,rfl⟩,decide_eq_true h⟩,?_⟩
   have h1:=hR (f s) (iY.2 ⟨s,hs,rfl⟩)
   exact hr _ _ h1.1 hs h1.2
 have h1:=List.Nodup.length_le_of_subset (Nu c n) il
 rw[List.length_map] at h1
 have h2:((aV f n).filter fun v=>decide (v≠f q')).length<(aV f n).length:=by
  have hm:f q'∈aV f n:=iY.2 ⟨q',ca,rfl⟩
  have aX:=List.length_filter_lt_length_iff_exists (p:=fun v=>decide (v≠f q')) (l:=aV f n)
  exact aX.2 ⟨f q',hm,by simp⟩
 omega
theorem WH {γ:Type} [DecidableEq γ] {f:Nat→β} {c:Nat→γ} {n:Nat} (hr: ∀q q',q<n→q'<n→f q=f q'→c q=c q'):(aV c n).length≤(aV f n).length:=by
 rcases Nat.lt_or_ge (aV f n).length (aV c n).length with h|h
 ·have:=Ny hr (by omega)
  have rep: ∀v∈aV f n,∃q,q<n∧f q=v:=fun v hv=>iY.1 hv
  have: ∃R:β→Nat,∀v∈aV f n,R v<n∧f (R v)=v:=by
   classical
   refine ⟨fun v=>if h:v∈aV f n then Classical.choose (rep v h) else 0,fun v hv=> ?_⟩
   simp only[hv,dif_pos]
   exact Classical.choose_spec (rep v hv)
  obtain ⟨R,hR⟩:=this
  have il:aV c n ⊆ (aV f n).map fun v=>c (R v):=by
   intro u hu
   obtain ⟨s,hs,rfl⟩:=iY.1 hu
   have h1:=hR (f s) (iY.2 ⟨s,hs,rfl⟩)
   exact List.mem_map.2 ⟨f s,iY.2 ⟨s,hs,rfl⟩,hr _ _ h1.1 hs h1.2⟩
  have h1:=List.Nodup.length_le_of_subset (Nu c n) il
  rw[List.length_map] at h1
  omega
 ·exact h
theorem af2 {γ:Type} [DecidableEq γ] {f:Nat→β} {c:Nat→γ} {n:Nat} (h: ∀q q',q<n→q'<n→(f q=f q'↔c q=c q')): ∀q,q<n→cz f n q=cz c n q:=by
 have key: ∀m,m≤n→(aV f m).length=(aV c m).length∧∀q,q<m→cz f m q=cz c m q:=by
  intro m
  induction m with
  | zero=>intro _;exact ⟨rfl,fun q hq=>by omega⟩
  | succ m ih=>
   intro hm
   obtain ⟨i1,i2⟩:=ih (by omega)
   have pc:f m∈aV f m↔c m∈aV c m:=by
    rw[iY,iY]
    exact ⟨fun ⟨q,h1,h2⟩=>⟨q,h1,(h q m (by omega) (by omega)).1 h2⟩,fun ⟨q,h1,h2⟩=>⟨q,h1,(h q m (by omega) (by omega)).2 h2⟩⟩
   refine ⟨?_,fun q hq=> ?_⟩
   ·rw[aV,aV,sX,sX,i1]
    by_cases hx:f m∈aV f m
    ·rw[if_pos hx,if_pos (pc.1 hx)]
    ·rw[if_neg hx,if_neg fun h=>hx (pc.2 h)]
   ·rcases Nat.lt_or_ge q m with c1|c1
    ·exact (BM (g:=f) c1 (by omega)).trans ((i2 q c1).trans (BM (g:=c) c1 (by omega)).symm)
    ·obtain rfl:q=m:=by omega
     unfold cz
     rw[aV,aV]
     by_cases hx:f q∈aV f q
     ·obtain ⟨r,h1,h2⟩:=iY.1 hx
      have h3:=(h r q (by omega) (by omega)).1 h2
      have:=i2 r h1
      unfold cz at this
      unfold dr
      rw[if_pos hx,if_pos (pc.1 hx),←h2,←h3,this]
     ·unfold dr
      rw[if_neg hx,if_neg fun h=>hx (pc.2 h),List.idxOf_append,List.idxOf_append,if_neg hx,if_neg fun h=>hx (pc.2 h)]
      simp[i1]
 exact (key n (Nat.le_refl _)).2
end
namespace Da
structure Part (a:Da) (c:Nat→Nat):Prop where
 coarse: ∀q q',q<a.n→q'<a.n→a.nK q a q'→c q=c q'
 fin: ∀q q',q<a.n→q'<a.n→c q=c q'→a.fin q=a.fin q'
def sig (a:Da) (c:Nat→Nat) (q:Nat):List Nat:=c q::(List.range a.L).map fun x=>c (a.nx q x)
theorem uW {a:Da} {c:Nat→Nat} {q q':Nat}:a.sig c q=a.sig c q'↔c q=c q'∧∀x,x<a.L→c (a.nx q x)=c (a.nx q' x):=by
 unfold sig
 rw[List.cons.injEq]
 refine and_congr Iff.rfl ⟨fun h x hx=> ?_,fun h=>List.map_congr_left fun x hx=>h x (List.mem_range.1 hx)⟩
 have:=congrArg (fun l=>l.getD x 0) h
 simpa[hx] using this
def Hr (a:Da) (c f:Nat→Nat):Prop:= ∀q q',q<a.n→q'<a.n→(f q=f q'↔a.sig c q=a.sig c q')
theorem Hr.part {a:Da} {c f:Nat→Nat} (h:a.Hr c f) (ha:a.Ok) (hc:a.Part c):a.Part f where
 coarse q q' hq ca he:=(h q q' hq ca).2 (uW.2 ⟨hc.coarse q q' hq ca he,fun x hx=>hc.coarse _ _ (ha.gk hq hx) (ha.gk ca hx) (he.nx hx)⟩)
 fin q q' hq ca he:=hc.fin q q' hq ca (uW.1 ((h q q' hq ca).1 he)).1
def uX (a:Da) (p:Nat→Nat):Prop:=(∀q q',q<a.n→q'<a.n→(p q=p q'↔a.nK q a q'))∧oI p a.n
theorem Part.WI {a:Da} {c:Nat→Nat} (hc:a.Part c) (ha:a.Ok) (hs: ∀q q',q<a.n→q'<a.n→c q=c q'→a.sig c q=a.sig c q'): ∀q q',q<a.n→q'<a.n→(c q=c q'↔a.nK q a q'):=by
 intro q q' hq ca
 refine ⟨fun h w=> ?_,hc.coarse q q' hq ca⟩
 induction w generalizing q q' with
 | nil=>intro _;rw[nL,nL];exact hc.fin q q' hq ca h
 | cons x w ih=>
  intro hw
  rw[G3,G3]
  exact ih _ _ (ha.gk hq hw.head) (ha.gk ca hw.head) ((uW.1 (hs q q' hq ca h)).2 x hw.head) hw.tail
def eV (p:Nat→Nat):Nat→List Nat
 | 0=>[]
 | n+1=>if p n∈aV p n then eV p n else eV p n++[n]
theorem Hs {p:Nat→Nat}: ∀n,(eV p n).map p=aV p n
 | 0=>rfl
 | n+1=>by
  rw[eV,aV]
  unfold dr
  split
  ·exact Hs n
  ·rw[List.map_append,Hs n];rfl
theorem BN {p:Nat→Nat} {n:Nat}:(eV p n).length=(aV p n).length:=by rw[←Hs,List.length_map]
theorem uY {p:Nat→Nat}: ∀{n q},q∈eV p n→q<n
 | 0,q,h=>by cases h
 | n+1,q,h=>by
  rw[eV] at h
  split at h
  ·have:=uY h;omega
  ·rcases List.mem_append.1 h with h|h
   ·have:=uY h;omega
   ·rw[List.mem_singleton.1 h];omega
theorem xD {p:Nat→Nat} {n:Nat} (ho:oI p n) {c:Nat} (hc:c<(eV p n).length):p (eV p n)[c]=c:=by
 have h1:=ho n (Nat.le_refl _)
 have h2:((eV p n).map p)[c]? =some c:=by rw[Hs,h1,List.getElem?_range (by rw[BN] at hc;exact hc)]
 rw[List.getElem?_map,List.getElem?_eq_getElem hc] at h2
 exact Option.some.inj h2
theorem BO {p:Nat→Nat} {n q:Nat} (ho:oI p n) (hq:q<n):p q<(eV p n).length:=by
 have h1:p q∈aV p n:=iY.2 ⟨q,hq,rfl⟩
 rw[ho n (Nat.le_refl _),List.mem_range] at h1
 rw[BN];exact h1
def quo (a:Da) (p:Nat→Nat):Da where
 L:=a.L
 st:=p a.st
 F:=(eV p a.n).map a.fin
 N:=(eV p a.n).map fun q=>tab a.L fun x=>p (a.nx q x)
theorem rE {a:Da} {p:Nat→Nat}:(a.quo p).n=(eV p a.n).length:=by simp[quo,n]
theorem WJ {a:Da} {p:Nat→Nat} {c:Nat} (hc:c<(eV p a.n).length):(a.quo p).fin c=a.fin (eV p a.n)[c]:=by
 show ((eV p a.n).map a.fin).getD c false=_
 rw[fj (by simpa using hc),List.getElem_map]
theorem WK {a:Da} {p:Nat→Nat} {c x:Nat} (hc:c<(eV p a.n).length) (hx:x<a.L):(a.quo p).nx c x=p (a.nx (eV p a.n)[c] x):=by
 show (((eV p a.n).map fun q=>tab a.L fun x=>p (a.nx q x)).getD c []).getD x 0=_
 rw[fj (l:=(eV p a.n).map fun q=>tab a.L fun x=>p (a.nx q x)) (by simpa using hc),List.getElem_map,rq hx]
section
variable {a:Da} {p:Nat→Nat} (ha:a.Ok) (hp:a.uX p)
include ha hp
theorem Nz:(a.quo p).Ok where
 l1:=ha.l1
 l6:=ha.l6
 nN:=by rw[rE];simp[quo]
 row r hr:=by
  rw[rE]
  obtain ⟨q,hq,rfl⟩:=List.mem_map.1 (show r∈(eV p a.n).map _ from hr)
  refine ⟨by simp[quo],fun s hs=> ?_⟩
  obtain ⟨x,hx,rfl⟩:=ry.1 hs
  exact BO hp.2 (ha.gk (uY hq) hx)
 s:=by rw[rE];exact BO hp.2 ha.s
 eP:=by
  rw[rE,BN]
  have:=rD p a.n
  have:=ha.eP
  omega
theorem Ht: ∀(w:List Nat) {q:Nat},q<a.n→WL a.L w→(a.quo p).acc (p q) w=a.acc q w
 | [],q,hq,_=>by
  have hc:=BO hp.2 hq
  rw[nL,nL,WJ hc]
  have h1:=(hp.1 _ _ (uY (List.getElem_mem hc)) hq).1 (xD hp.2 hc)
  have:=h1 [] WL.nil
  rwa [nL,nL] at this
 | x::w,q,hq,hw=>by
  have hc:=BO hp.2 hq
  have hr:=uY (List.getElem_mem hc)
  have h1:=(hp.1 _ _ hr hq).1 (xD hp.2 hc)
  have h2:=(hp.1 _ _ (ha.gk hr hw.head) (ha.gk hq hw.head)).2 (h1.nx hw.head)
  rw[G3,G3,WK hc hw.head,h2]
  exact Ht w (ha.gk hq hw.head) hw.tail
theorem af3: ∀c d,c<(a.quo p).n→d<(a.quo p).n→(a.quo p).nK c (a.quo p) d→c=d:=by
 intro c d hc hd he
 rw[rE] at hc hd
 have r1:=uY (List.getElem_mem hc)
 have r2:=uY (List.getElem_mem hd)
 rw[←xD hp.2 hc,←xD hp.2 hd]
 refine (hp.1 _ _ r1 r2).2 fun w hw=> ?_
 rw[←Ht ha hp w r1 hw,←Ht ha hp w r2 hw,xD hp.2 hc,xD hp.2 hd]
 exact he w hw
theorem WM:(a.quo p).trim.Canon a.L (a.acc a.st):=by
 have h:=(Nz ha hp).aeY (af3 ha hp)
 exact ⟨h.ok,h.hL,h.st,h.num,h.red,fun w hw=>(h.lR w hw).trans (Ht ha hp w ha.s hw)⟩
end
end Da
end Go.AM
set_option maxRecDepth 100000
namespace Go.AM
open Go.Proofs
noncomputable abbrev sZ:Code:=ch Tryd.prog (aq.aO 109)
noncomputable def BP (C:ae) (t24:List V) (t25 bc bn:Int) (bA bz:List V) (count t26:Int) (dj:List V) {β:Type} (kn:(Int × Int × (List V))→Option β) (kr:(Int × Int × Bool × (List V))→Option β):Option β:=
 bif decide ((t26:Int)<t25) then
  (idx t24 t26).bind fun x2=>
  (bA[0]?).bind fun x3=>
  bif !(x2.toBool==x3.toBool) then
  bif (decide (0≤t26))&&(decide (t26<(dj.length:Int))) then
   (dj[(t26:Int).toNat]?).bind fun x4=>
   kn (2,IntKind.wrap .i64 (t26+1),dj.set ((t26:Int).toNat) (.int .i64 1))
  else none
  else
  kn (count,IntKind.wrap .i64 (t26+1),dj)
 else
  kr (count,t26,decide ((t26:Int)<t25),dj)
noncomputable def Hu (C:ae) (t24:List V) (t25 bc bn:Int) (bA bz:List V):(Int × Int × (List V))→Option ((Int × Int × (List V)) ⊕ (Int × Int × Bool × (List V))):=un fun count=>un fun t26 dj=>BP C t24 t25 bc bn bA bz count t26 dj (fun y=>some (.inl y)) (fun r=>some (.inr r))
noncomputable def BQ (C:ae) (count q:Int) (t46:List V) (t47 t48:Int) (t58:List V) (t59 bc bn:Int) (bA bz dj numbers mX:List V) (t60 Hv Hw Hy Hz HA HB HC:Int) {β:Type} (kn:(Int × Int × Int × Int × Int × Int × Int × Int)→Option β) (kr:(Int × Bool × Int × Int × Int × Int × Int × Int × Int)→Option β):Option β:=
 bif decide ((t60:Int)<t59) then
  (idx t58 t60).bind fun dH=>
  bif (decide (0≤dH.toInt))&&(decide (dH.toInt<(dj.length:Int))) then
  (dj[(dH.toInt:Int).toNat]?).bind fun pJ=>
  bif (decide (0≤(IntKind.wrap .i64 (1+t60))))&&(decide ((IntKind.wrap .i64 (1+t60))<7)) then
   bif Nat.blt (0+(((IntKind.wrap .i64 (1+t60):Int).toNat)*1)) 7 then
   kn (IntKind.wrap .i64 (t60+1),bif Nat.beq (0+(((IntKind.wrap .i64 (1+t60):Int).toNat)*1)) 0 then pJ.toInt else Hv,bif Nat.beq (0+(((IntKind.wrap .i64 (1+t60):Int).toNat)*1)) 1 then pJ.toInt else Hw,bif Nat.beq (0+(((IntKind.wrap .i64 (1+t60):Int).toNat)*1)) 2 then pJ.toInt else Hy,bif Nat.beq (0+(((IntKind.wrap .i64 (1+t60):Int).toNat)*1)) 3 then pJ.toInt else Hz,bif Nat.beq (0+(((IntKind.wrap .i64 (1+t60):Int).toNat)*1)) 4 then pJ.toInt else HA,bif Nat.beq (0+(((IntKind.wrap .i64 (1+t60):Int).toNat)*1)) 5 then pJ.toInt else HB,bif Nat.beq (0+(((IntKind.wrap .i64 (1+t60):Int).toNat)*1)) 6 then pJ.toInt else HC)
   else none
  else none
  else none
 else
  kr (t60,decide ((t60:Int)<t59),Hv,Hw,Hy,Hz,HA,HB,HC)
noncomputable def HD (C:ae) (count q:Int) (t46:List V) (t47 t48:Int) (t58:List V) (t59 bc bn:Int) (bA bz dj numbers mX:List V):(Int × Int × Int × Int × Int × Int × Int × Int)→Option ((Int × Int × Int × Int × Int × Int × Int × Int) ⊕ (Int × Bool × Int × Int × Int × Int × Int × Int × Int)):=un fun t60=>un fun Hv=>un fun Hw=>un fun Hy=>un fun Hz=>un fun HA=>un fun HB HC=>BQ C count q t46 t47 t48 t58 t59 bc bn bA bz dj numbers mX t60 Hv Hw Hy Hz HA HB HC (fun y=>some (.inl y)) (fun r=>some (.inr r))
noncomputable def BR (C:ae) (count:Int) (t46:List V) (t47 bc bn:Int) (bA bz dj:List V) (t48:Int) (numbers mX:List V) {β:Type} (kn:(Int × (List V) × (List V))→Option β) (kr:(Int × Bool × (List V) × (List V))→Option β):Option β:=
 bif decide ((t48:Int)<t47) then
  (idx t46 t48).bind fun x9=>
  bif (decide (0≤t48))&&(decide (t48<(dj.length:Int))) then
  (dj[(t48:Int).toNat]?).bind fun eO=>
  (Loop (HD C count t48 t46 t47 t48 x9.toList (x9.toList.length:Int) bc bn bA bz dj numbers mX) (0,eO.toInt,0,0,0,0,0,0)).bind (un fun (sW:Int)=>un fun (uS:Bool)=>un fun (BT:Int)=>un fun (BU:Int)=>un fun (BV:Int)=>un fun (BW:Int)=>un fun (BX:Int)=>un fun (BY:Int) (BZ:Int)=>
   bif (dA .i64 BT&&(dA .i64 BU&&(dA .i64 BV&&(dA .i64 BW&&(dA .i64 BX&&(dA .i64 BY&&(dA .i64 BZ&&true)))))))&&true then
    bif !(gH (.agg [.int .i64 BT,.int .i64 BU,.int .i64 BV,.int .i64 BW,.int .i64 BX,.int .i64 BY,.int .i64 BZ]) numbers) then
    bif (dA .i64 BT&&(dA .i64 BU&&(dA .i64 BV&&(dA .i64 BW&&(dA .i64 BX&&(dA .i64 BY&&(dA .i64 BZ&&true)))))))&&true then
     bif (decide (0≤t48))&&(decide (t48<(mX.length:Int))) then
     (mX[(t48:Int).toNat]?).bind fun B0=>
     kn (IntKind.wrap .i64 (t48+1),fI (.agg [.int .i64 BT,.int .i64 BU,.int .i64 BV,.int .i64 BW,.int .i64 BX,.int .i64 BY,.int .i64 BZ]) (.int .i64 (numbers.length:Int)) numbers,mX.set ((t48:Int).toNat) (.int .i64 (numbers.length:Int)))
     else none
    else none
    else
    bif (decide (0≤t48))&&(decide (t48<(mX.length:Int))) then
     (mX[(t48:Int).toNat]?).bind fun fl=>
     kn (IntKind.wrap .i64 (t48+1),numbers,mX.set ((t48:Int).toNat) (.int .i64 ((jh (.agg [.int .i64 BT,.int .i64 BU,.int .i64 BV,.int .i64 BW,.int .i64 BX,.int .i64 BY,.int .i64 BZ]) numbers (.int .i64 0)).toInt)))
    else none
   else none)
  else none
 else
  kr (t48,decide ((t48:Int)<t47),numbers,mX)
noncomputable def HE (C:ae) (count:Int) (t46:List V) (t47 bc bn:Int) (bA bz dj:List V):(Int × (List V) × (List V))→Option ((Int × (List V) × (List V)) ⊕ (Int × Bool × (List V) × (List V))):=un fun t48=>un fun numbers mX=>BR C count t46 t47 bc bn bA bz dj t48 numbers mX (fun y=>some (.inl y)) (fun r=>some (.inr r))
noncomputable def B1 (C:ae) (bc bn:Int) (bA bz:List V) (count:Int) (dj:List V) {β:Type} (kn:(Int × (List V))→Option β) (kr:(List V)→Option β):Option β:=
 bif (decide (0≤(dj.length:Int)))&&((decide ((dj.length:Int)≤(dj.length:Int)))&&(Nat.ble ((((dj.length:Int):Int).toNat)*8) cg)) then
  (Loop (HE C count bz (bz.length:Int) bc bn bA bz dj) (0,([]:List V),List.replicate (((dj.length:Int):Int).toNat) (V.int .i64 0))).bind (un fun (alE:Int)=>un fun (NA:Bool)=>un fun (WN:List V) (WO:List V)=>
   bif ((WN.length:Int):Int)==count then
   kr WO
   else
   kn ((WN.length:Int),WO))
 else none
noncomputable def B4 (C:ae) (bc bn:Int) (bA bz:List V):(Int × (List V))→Option ((Int × (List V)) ⊕ (List V)):=un fun count dj=>B1 C bc bn bA bz count dj (fun y=>some (.inl y)) (fun r=>some (.inr r))
noncomputable def WQ (C:ae):b6:=fun β n ds k=>
 bif Nat.beq n 81 then bd LN [true,false,false,true,false,false,false,false,true] [[0,2,3,0,0,5,6,7,8,0]] (@BP C) ds k else
 bif Nat.beq n 273 then bd LO [false,false,false,false,false,false,false,true,false,false,false,false,false,false,false,true,true,true,true,true,true,true] [[1,2,3,4,5,6,7,0,0,9,10,11,12,13,14,15,0,0,0,0,0,0,0]] (@BQ C) ds k else
 bif Nat.beq n 209 then bd LP [false,false,false,true,false,false,false,false,false,true,true] [[1,2,3,0,0,5,6,7,8,9,0,0]] (@BR C) ds k else
 bif Nat.beq n 161 then bd LQ [true,false,false,false,false,true] [[0]] (@B1 C) ds k else
 none
abbrev HF (C:ae) (b:bY):Prop:=bZ Tryd.prog aq C (WQ C) 109 (cm Tryd.prog (aq.aO 109)) (aq.sin 109).aW.length b
theorem af4 (C:ae):HF C (.loop (an [1,1,1,0,1,0,0] sZ)):=
 bh LN [true,false,false,true,false,false,false,false,true] [[0,2,3,0,0,5,6,7,8,0]] (@BP C) (by kernel_rfl) (aI (bs:=[]) (by kernel_rfl) ao) (fun ds=>by kernel_rfl) (fun i x=>by kernel_rfl) (fun i x β k=>by kernel_rfl) (fun β ds k=>by kernel_rfl)
theorem af5 (C:ae):HF C (.loop (an [1,1,1,1,0,0,0,1,1,0,1,0,0,1,1,0,0,1,1,0,1,0,0] sZ)):=
 bh LO [false,false,false,false,false,false,false,true,false,false,false,false,false,false,false,true,true,true,true,true,true,true] [[1,2,3,4,5,6,7,0,0,9,10,11,12,13,14,15,0,0,0,0,0,0,0]] (@BQ C) (by kernel_rfl) (aI (bs:=[]) (by kernel_rfl) ao) (fun ds=>by kernel_rfl) (fun i x=>by kernel_rfl) (fun i x β k=>by kernel_rfl) (fun β ds k=>by kernel_rfl)
theorem af6 (C:ae):HF C (.loop (an [1,1,1,1,0,0,0,1,1,0,1,0,0] sZ)):=
 bh LP [false,false,false,true,false,false,false,false,false,true,true] [[1,2,3,0,0,5,6,7,8,9,0,0]] (@BR C) (by kernel_rfl) (aI (bs:=[.loop (an [1,1,1,1,0,0,0,1,1,0,1,0,0,1,1,0,0,1,1,0,1,0,0] sZ)]) (by kernel_rfl) (aU (af5 C) ao)) (fun ds=>by kernel_rfl) (fun i x=>by kernel_rfl) (fun i x β k=>by kernel_rfl) (fun β ds k=>by kernel_rfl)
theorem af7 (C:ae):HF C (.loop (an [1,1,1,1,0,0] sZ)):=
 bh LQ [true,false,false,false,false,true] [[0]] (@B1 C) (by kernel_rfl) (aI (bs:=[.loop (an [1,1,1,1,0,0,0,1,1,0,1,0,0] sZ)]) (by kernel_rfl) (aU (af6 C) ao)) (fun ds=>by kernel_rfl) (fun i x=>by kernel_rfl) (fun i x β k=>by kernel_rfl) (fun β ds k=>by kernel_rfl)
noncomputable def WR (C:ae) (aJ aP:Int) (aF aM:List V):Option (List V):=
 (C py [.int .i64 aJ,.int .i64 aP,.list aD aF,.list aG aM]).bind fun r1=>
 bif (((V.nth r1 0).toInt):Int) != 0 then
  some [.list bt ([]:List V)]
 else
  bif (decide (0≤(aF.length:Int)))&&((decide ((aF.length:Int)≤(aF.length:Int)))&&(Nat.ble ((((aF.length:Int):Int).toNat)*8) cg)) then
  (Loop (Hu C aF (aF.length:Int) aJ aP aF aM) (1,0,List.replicate (((aF.length:Int):Int).toNat) (V.int .i64 0))).bind (un fun (af8:Int)=>un fun (nJ:Int)=>un fun (mO:Bool) (af9:List V)=>
   (Loop (B4 C aJ aP aF aM) (af8,af9)).bind (fun (aga:List V)=>
    some [.list bt aga]))
  else none
theorem agb {aJ aP:Int} {aF aM:List V} {r:Option (List V)} (h:WR CC aJ aP aF aM=r):CC Gv [.int .i64 aJ,.int .i64 aP,.list aD aF,.list aG aM]=r:=
 bf (key:=109) (L:=WQ CC) (bs:=[.loop (an [1,1,1,0,1,0,0] sZ),.loop (an [1,1,1,1,0,0] sZ)]) (by kernel_rfl) (aU (af4 CC) (aU (af7 CC) ao)) (Eq.trans (by kernel_rfl) h)
def dP (a:Da) (c:Nat→Nat) (q t j:Nat):Nat:=if j=0 then c q else if j≤t then c (a.nx q (j-1)) else 0
def dM (a:Da) (c:Nat→Nat) (q:Nat):List Nat:=tab 7 (dP a c q a.L)
def B5 (s:List Nat):V:= .agg (s.map nV)
theorem WS: ∀s t:List Nat,oW (s.map nV) (t.map nV)=decide (s=t)
 | [],[]=>rfl
 | [],b::t=>rfl
 | a::s,[]=>rfl
 | a::s,b::t=>by
  simp only[List.map_cons,oW]
  rw[WS s t,Bool.eq_iff_iff]
  simp only[nV,sh]
  simp only[Bool.and_eq_true,beq_iff_eq,decide_eq_true_eq,List.cons.injEq]
  exact and_congr (by omega) Iff.rfl
theorem NB (s t:List Nat):jg (B5 s) (B5 t)=decide (s=t):=WS s t
theorem NC {a:Da} (h:a.Ok) {c:Nat→Nat} {q q':Nat}:dM a c q=dM a c q'↔a.sig c q=a.sig c q':=by
 rw[Da.uW]
 have h6:=h.l6
 constructor
 ·intro e
  have g:=fun j (hj:j<7)=>congrArg (fun l:List Nat=>l.getD j 0) e
  unfold dM at g
  refine ⟨?_,fun x hx=> ?_⟩
  ·have:=g 0 (by omega)
   rw[rq (by omega),rq (by omega)] at this
   exact this
  ·have:=g (x+1) (by omega)
   rw[rq (by omega),rq (by omega)] at this
   unfold dP at this
   rwa [if_neg (by omega),if_pos (by omega),if_neg (by omega),if_pos (by omega)] at this
 ·rintro ⟨h1,h2⟩
  refine fa fun j _=> ?_
  unfold dP
  by_cases hj:j=0
  ·rw[if_pos hj,if_pos hj,h1]
  ·rw[if_neg hj,if_neg hj]
   by_cases b8:j≤a.L
   ·rw[if_pos b8,if_pos b8,h2 (j-1) (by omega)]
   ·rw[if_neg b8,if_neg b8]
theorem uZ {a:Da} {c:Nat→Nat} {q t:Nat} (j:Nat):(bif Nat.beq (0+(t+1)*1) j then ((c (a.nx q t):Nat):Int) else ((dP a c q t j:Nat):Int))=((dP a c q (t+1) j:Nat):Int):=by
 by_cases hj:t+1=j
 ·rw[show Nat.beq (0+(t+1)*1) j=true from by rw[Nat.beq_eq];omega,cond_true,←hj]
  unfold dP
  rw[if_neg (by omega),if_pos (by omega)]
  rfl
 ·rw[show Nat.beq (0+(t+1)*1) j=false from by rw[←Bool.not_eq_true,Nat.beq_eq];omega,cond_false]
  unfold dP
  by_cases h0:j=0
  ·rw[if_pos h0,if_pos h0]
  ·rw[if_neg h0,if_neg h0]
   by_cases h1:j≤t
   ·rw[if_pos h1,if_pos (by omega)]
   ·rw[if_neg h1,if_neg (by omega)]
def cV (n:Nat) (c:Nat→Nat):List V:=tab n fun q=>nV (c q)
section
variable {a:Da} (h:a.Ok) {c:Nat→Nat}
include h
theorem agc {q:Nat} (hq:q<a.n) {k1 k2 k3 k4 k5 k6:Int} {l1 l2 l3 l4 l5:List V}:
  Loop (HD CC k1 k2 l1 k3 k4 (tab a.L fun x=>iV (a.nx q x)) ((tab a.L fun x=>iV (a.nx q x)).length:Int) k5 k6 l2 l3 (cV a.n c) l4 l5) (0,(c q:Int),0,0,0,0,0,0)=
   some ((a.L:Int),false,(dP a c q a.L 0:Int),(dP a c q a.L 1:Int),(dP a c q a.L 2:Int),(dP a c q a.L 3:Int),(dP a c q a.L 4:Int),(dP a c q a.L 5:Int),(dP a c q a.L 6:Int)):=by
 have h6:=h.l6
 rw[ft]
 refine (fu a.L (fun t=>((t:Int),(dP a c q t 0:Int),(dP a c q t 1:Int),(dP a c q t 2:Int),(dP a c q t 3:Int),(dP a c q t 4:Int),(dP a c q t 5:Int),(dP a c q t 6:Int))) _ (fun t ht=> ?_) ?_)
 ·simp only[HD,BQ,un]
  refine bT (er ht) ?_
  refine bs (uT ht) ?_
  refine (fQ (i:=a.nx q t) (h.gk hq ht)).trans ?_
  have w:IntKind.wrap .i64 (1+(t:Int))=((t+1:Nat):Int):=by rw[wrap64 (by omega) (by omega)];omega
  rw[w,dI (by omega),Int.toNat_natCast]
  refine bT (Bool.and_eq_true_iff.2 ⟨decide_eq_true (by omega),decide_eq_true (by omega)⟩) ?_
  refine bT (show Nat.ble (0+(t+1)*1+1) 7=true by rw[Nat.ble_eq];omega) ?_
  show some (Sum.inl _)=some (Sum.inl _)
  refine congrArg (fun x=>some (Sum.inl x)) ?_
  exact Prod.ext rfl (Prod.ext (uZ 0) (Prod.ext (uZ 1) (Prod.ext (uZ 2) (Prod.ext (uZ 3) (Prod.ext (uZ 4) (Prod.ext (uZ 5) (uZ 6)))))))
 ·simp only[HD,BQ,un]
  refine bF (bM (Nat.le_refl _)) ?_
  rw[bM (Nat.le_refl _)]
theorem agd (hc: ∀q,q<a.n→c q≤1000) {q:Nat} (hq:q<a.n) (j:Nat):dP a c q a.L j≤1000:=by
 unfold dP
 split
 ·exact hc q hq
 ·split
  ·exact hc _ (h.gk hq (by omega))
  ·omega
theorem age (hc: ∀q,q<a.n→c q≤1000) {k1 k2 k3:Int} {l2:List V}:
  Loop (HE CC k1 a.cQ (a.cQ.length:Int) k2 k3 l2 a.cQ (cV a.n c)) (0,([]:List V),List.replicate ((((cV a.n c).length:Int):Int).toNat) (V.int .i64 0))=
   some ((a.n:Int),false,fR B5 0 (aV (dM a c) a.n),cV a.n (cz (dM a c) a.n)):=by
 have hm:=h.eP
 have hl:(cV a.n c).length=a.n:=by simp[cV]
 rw[hl,Int.toNat_natCast,nM,Da.We]
 refine (fu a.n (fun i=>((i:Int),fR B5 0 (aV (dM a c) i),(tab a.n fun q=>if q<i then nV (cz (dM a c) a.n q) else nV 0))) _ (fun q hq=> ?_) ?_)
 ·have hle:=rD (dM a c) q
  simp only[HE,BR,un]
  refine bT (er hq) ?_
  refine bs (Da.rz hq) ?_
  refine (fQ (i:=q) hq).trans ?_
  simp only[sY]
  refine bs (agc h hq) ?_
  have k0:=agd h hc hq
  have kk: ∀j,dA .i64 ((dP a c q a.L j:Nat):Int)=true:=fun j=>Hi (by have:=k0 j;omega)
  have WU:((dA .i64 ((dP a c q a.L 0:Nat):Int)&&(dA .i64 ((dP a c q a.L 1:Nat):Int)&&(dA .i64 ((dP a c q a.L 2:Nat):Int)&&(dA .i64 ((dP a c q a.L 3:Nat):Int)&&(dA .i64 ((dP a c q a.L 4:Nat):Int)&&(dA .i64 ((dP a c q a.L 5:Nat):Int)&&(dA .i64 ((dP a c q a.L 6:Nat):Int)&&true)))))))&&true)=true:=by
   simp only[kk,Bool.and_self]
  refine bT WU ?_
  have ek:V.agg [V.int .i64 (dP a c q a.L 0:Int),V.int .i64 (dP a c q a.L 1:Int),V.int .i64 (dP a c q a.L 2:Int),V.int .i64 (dP a c q a.L 3:Int),V.int .i64 (dP a c q a.L 4:Int),V.int .i64 (dP a c q a.L 5:Int),V.int .i64 (dP a c q a.L 6:Int)]=B5 (dM a c q):=rfl
  simp only[un,ek]
  have e1:=Bw NB (dM a c q) (aV (dM a c) q) 0
  have fin: ∀v,v=nV (cz (dM a c) a.n q)→(tab a.n fun j=>if j<q then nV (cz (dM a c) a.n j) else nV 0).set q v=tab a.n fun j=>if j<q+1 then nV (cz (dM a c) a.n j) else nV 0:=by
   rintro v rfl
   rw[ru]
   refine fa fun j _=> ?_
   by_cases hj:j=q
   ·rw[if_pos hj,if_pos (by omega),hj]
   ·rw[if_neg hj]
    by_cases b8:j<q
    ·rw[if_pos b8,if_pos (by omega)]
    ·rw[if_neg b8,if_neg (by omega)]
  rw[dI (by omega)]
  by_cases hx:dM a c q∈aV (dM a c) q
  ·refine bF (by rw[e1];simpa using hx) ?_
   refine (fQ hq).trans ?_
   have e2:=Bx NB (dM a c q) (.int .i64 0) (aV (dM a c) q) 0 hx
   rw[Nat.zero_add,←WD hq hx] at e2
   rw[e2,V.toInt_int,Int.toNat_natCast,show (V.int .i64 (cz (dM a c) a.n q:Int))=nV (cz (dM a c) a.n q) from rfl,fin _ rfl,Nv hx]
  ·refine bT (by rw[e1];simpa using hx) ?_
   refine bT WU ?_
   refine (fQ hq).trans ?_
   have e2:=By NB (dM a c q) (aV (dM a c) q) 0 hx
   rw[Nat.zero_add] at e2
   rw[xA,e2,Int.toNat_natCast,←WE hq hx,show (V.int .i64 (cz (dM a c) a.n q:Int))=nV (cz (dM a c) a.n q) from rfl,fin _ rfl,Nw hx]
 ·simp only[HE,BR,un]
  refine bF (bM (Nat.le_refl _)) ?_
  rw[bM (Nat.le_refl _)]
  have:(tab a.n fun q=>if q<a.n then nV (cz (dM a c) a.n q) else nV 0)=cV a.n (cz (dM a c) a.n):=fa fun q hq=>if_pos hq
  rw[this]
def kW (a:Da):Nat→Nat
 | 0=>1
 | i+1=>if a.fin i=a.fin 0 then kW a i else 2
def fv (a:Da) (q:Nat):Nat:=if a.fin q=a.fin 0 then 0 else 1
theorem agf:(aV (fv a) a.n).length=kW a a.n:=by
 have key: ∀m,(aV (fv a) (m+1)=[0]∧kW a (m+1)=1)∨(aV (fv a) (m+1)=[0,1]∧kW a (m+1)=2):=by
  intro m
  induction m with
  | zero=>left;simp[aV,dr,fv,kW]
  | succ m ih=>
   rw[aV,kW]
   unfold fv dr
   by_cases hf:a.fin (m+1)=a.fin 0
   ·rw[if_pos hf,if_pos hf]
    rcases ih with ⟨i1,i2⟩|⟨i1,i2⟩
    ·left;refine ⟨?_,i2⟩;unfold fv at i1;rw[i1];rfl
    ·right;refine ⟨?_,i2⟩;unfold fv at i1;rw[i1];rfl
   ·rw[if_neg hf,if_neg hf]
    rcases ih with ⟨i1,i2⟩|⟨i1,i2⟩
    ·right;refine ⟨?_,rfl⟩;unfold fv at i1;rw[i1];rfl
    ·right;refine ⟨?_,rfl⟩;unfold fv at i1;rw[i1];rfl
 have hs:=h.s
 obtain ⟨m,hm⟩: ∃m,a.n=m+1:=⟨a.n-1,by omega⟩
 rw[hm]
 rcases key m with ⟨e1,e2⟩|⟨e1,e2⟩<;>rw[e1,e2]<;>rfl
theorem agh {k2 k3:Int} {l2:List V}:Loop (Hu CC a.dg (a.dg.length:Int) k2 k3 a.dg l2) (1,0,List.replicate ((((a.dg.length:Nat):Int)).toNat) (V.int .i64 0))=some ((kW a a.n:Int),(a.n:Int),false,cV a.n (fv a)):=by
 have hm:=h.eP
 have hs:=h.s
 rw[Da.pO,Int.toNat_natCast,nM]
 refine (fu a.n (fun i=>((kW a i:Int),(i:Int),(tab a.n fun q=>if q<i then nV (fv a q) else nV 0))) _ (fun q hq=> ?_) ?_)
 ·simp only[Hu,BP,un]
  refine bT (er hq) ?_
  refine bs (Da.xz hq) ?_
  refine bs (a:= .bool (a.fin 0)) (by unfold Da.dg;exact Nj (by omega)) ?_
  rw[dI (by omega)]
  have fin:(tab a.n fun j=>if j<q then nV (fv a j) else nV 0).set q (nV (fv a q))=tab a.n fun j=>if j<q+1 then nV (fv a j) else nV 0:=by
   rw[ru]
   refine fa fun j _=> ?_
   by_cases hj:j=q
   ·rw[if_pos hj,if_pos (by omega),hj]
   ·rw[if_neg hj]
    by_cases b8:j<q
    ·rw[if_pos b8,if_pos (by omega)]
    ·rw[if_neg b8,if_neg (by omega)]
  simp only[V.iS]
  by_cases hf:a.fin q=a.fin 0
  ·refine bF (by rw[hf];simp) ?_
   have e:kW a (q+1)=kW a q:=by rw[kW,if_pos hf]
   have e2:(tab a.n fun j=>if j<q then nV (fv a j) else nV 0)=tab a.n fun j=>if j<q+1 then nV (fv a j) else nV 0:=fa fun j _=>by
    by_cases hj:j=q
    ·rw[if_neg (by omega),if_pos (by omega),hj];unfold fv;rw[if_pos hf]
    ·by_cases b8:j<q
     ·rw[if_pos b8,if_pos (by omega)]
     ·rw[if_neg b8,if_neg (by omega)]
   rw[e,e2]
  ·refine bT (by simpa using hf) ?_
   refine (fQ hq).trans ?_
   have e:kW a (q+1)=2:=by rw[kW,if_neg hf]
   have e3:fv a q=1:=by unfold fv;rw[if_neg hf]
   rw[e3] at fin
   rw[e,Int.toNat_natCast,show (V.int .i64 1)=nV 1 from rfl,fin];rfl
 ·simp only[Hu,BP,un]
  refine bF (bM (Nat.le_refl _)) ?_
  rw[bM (Nat.le_refl _)]
  have:(tab a.n fun q=>if q<a.n then nV (fv a q) else nV 0)=cV a.n (fv a):=fa fun q hq=>if_pos hq
  rw[this]
theorem agi {k2 k3:Int} {l2:List V}: ∃p,Loop (B4 CC k2 k3 l2 a.cQ) ((kW a a.n:Int),cV a.n (fv a))=some (cV a.n p)∧a.uX p∧∀q,q<a.n→p q≤1000:=by
 have hm:=h.eP
 have:=Tl (step:=B4 CC k2 k3 l2 a.cQ)
  (fun x=> ∃c,x=(((aV c a.n).length:Int),cV a.n c)∧a.Part c∧∀q,q<a.n→c q≤1000)
  (fun x=>a.n-x.1.toNat)
  (fun r=> ∃p,r=cV a.n p∧a.uX p∧∀q,q<a.n→p q≤1000) (fun x hx=> ?_) ((kW a a.n:Int),cV a.n (fv a)) ⟨fv a,by rw[agf h],⟨?_,?_⟩,?_⟩
 ·obtain ⟨r,h1,p,rfl,h2,h3⟩:=this
  exact ⟨p,h1,h2,h3⟩
 ·obtain ⟨c,rfl,hp,hc⟩:=hx
  have hl:(cV a.n c).length=a.n:=by simp[cV]
  have jw:a.Hr c (cz (dM a c) a.n):=fun q q' hq ca=>(BL hq ca).trans (NC h)
  have hle:=rD (dM a c) a.n
  have hb: ∀q,q<a.n→cz (dM a c) a.n q≤1000:=fun q hq=>by have:=BK (g:=dM a c) hq;omega
  have u3: ∀q q',q<a.n→q'<a.n→dM a c q=dM a c q'→c q=c q':=fun q q' hq ca e=>(Da.uW.1 ((NC h).1 e)).1
  have agj:=WH u3
  have cr:=age h hc (k1:=((aV c a.n).length:Int)) (k2:=k2) (k3:=k3) (l2:=l2)
  by_cases he:(aV (dM a c) a.n).length=(aV c a.n).length
  ·right
   refine ⟨_,?_,cz (dM a c) a.n,rfl,⟨fun q q' hq ca=> ?_,Nx _ _⟩,hb⟩
   ·simp only[B4,B1,un]
    refine bT (by rw[hl];exact mU (by omega) (by omega)) ?_
    refine bs cr ?_
    refine bT (by rw[xA];simp[he]) ?_
    rfl
   ·have cK:=Ny u3 (by omega)
    rw[BL hq ca,←hp.WI h (fun s s' hs sH e=>(NC h).1 (cK s s' hs sH e)) q q' hq ca]
    exact ⟨u3 q q' hq ca,cK q q' hq ca⟩
  ·left
   have e2:(aV (cz (dM a c) a.n) a.n).length=(aV (dM a c) a.n).length:=by rw[WG _ _ _ (Nat.le_refl _),List.length_range]
   refine ⟨(((aV (dM a c) a.n).length:Int),cV a.n (cz (dM a c) a.n)),?_,⟨cz (dM a c) a.n,by rw[e2],jw.part h hp,hb⟩,?_⟩
   ·simp only[B4,B1,un]
    refine bT (by rw[hl];exact mU (by omega) (by omega)) ?_
    refine bs cr ?_
    refine bF (by rw[xA];simpa using fun e=>he (by omega)) ?_
    rw[xA]
   ·simp only[Int.toNat_natCast]
    omega
 ·intro q q' hq ca he
  have:=he [] WL.nil
  rw[Da.nL,Da.nL] at this
  unfold fv;rw[this]
 ·intro q q' hq ca he
  unfold fv at he
  split at he<;>split at he
  ·rename_i h1 h2;rw[h1,h2]
  ·omega
  ·omega
  ·rename_i h1 h2
   revert h1 h2
   cases a.fin q<;>cases a.fin q'<;>cases a.fin 0<;>simp
 ·intro q _
  unfold fv;split<;>omega
theorem agk: ∃p,CC Gv (eI a)=some [.list bt (cV a.n p)]∧a.uX p∧∀q,q<a.n→p q≤1000:=by
 have hm:=h.eP
 obtain ⟨p,h1,h2,h3⟩:=agi h (k2:=(a.L:Int)) (k3:=(a.st:Int)) (l2:=a.dg)
 refine ⟨p,agb ?_,h2,h3⟩
 unfold WR
 refine bs (uU h) ?_
 refine bF rfl ?_
 refine bT (by rw[Da.pO];exact mU (by omega) (by omega)) ?_
 refine bs (agh h) ?_
 refine bs h1 ?_
 rfl
end
noncomputable abbrev xE:Code:=ch Tryd.prog (aq.aO 86)
noncomputable def B6 (C:ae) (q t29 t30:Int) (t47:List V) (t48 bc bn:Int) (bA bz:List V) (dJ dK xF xG:Int) (places dj:List V) (xH xI:Int) (cv cY eu gl mY WV:List V) (t49:Int) (rows:List V) {β:Type} (kn:(Int × (List V))→Option β) (kr:(Int × Bool × (List V))→Option β):Option β:=
 bif decide ((t49:Int)<t48) then
  (idx t47 t49).bind fun x5=>
  bif (decide (0≤x5.toInt))&&(decide (x5.toInt<(dj.length:Int))) then
  (dj[(x5.toInt:Int).toNat]?).bind fun x6=>
  bif (decide (0≤t49))&&(decide (t49<(rows.length:Int))) then
   (rows[(t49:Int).toNat]?).bind fun x7=>
   kn (IntKind.wrap .i64 (t49+1),rows.set ((t49:Int).toNat) (.int .i64 x6.toInt))
  else none
  else none
 else
  kr (t49,decide ((t49:Int)<t48),rows)
noncomputable def HG (C:ae) (q t29 t30:Int) (t47:List V) (t48 bc bn:Int) (bA bz:List V) (dJ dK xF xG:Int) (places dj:List V) (xH xI:Int) (cv cY eu gl mY WV:List V):(Int × (List V))→Option ((Int × (List V)) ⊕ (Int × Bool × (List V))):=un fun t49 rows=>B6 C q t29 t30 t47 t48 bc bn bA bz dJ dK xF xG places dj xH xI cv cY eu gl mY WV t49 rows (fun y=>some (.inl y)) (fun r=>some (.inr r))
noncomputable def B7 (C:ae) (t29 bc bn:Int) (bA bz:List V) (dJ dK xF xG:Int) (places dj:List V) (xH xI:Int) (cD cv cY eu:List V) (t30:Int) (gl mY:List V) {β:Type} (kn:(Int × (List V) × (List V))→Option β) (kr:(Int × Bool × (List V) × (List V))→Option β):Option β:=
 bif decide ((t30:Int)<t29) then
  bif (decide (0≤t30))&&(decide (t30<(dj.length:Int))) then
  (dj[(t30:Int).toNat]?).bind fun x3=>
  bif decide ((x3.toInt:Int)<(gl.length:Int)) then
   kn (IntKind.wrap .i64 (t30+1),gl,mY)
  else
   bif (decide (0≤bc))&&((decide (bc≤bc))&&(Nat.ble (((bc:Int).toNat)*8) cg)) then
   bif (decide (0≤t30))&&(decide (t30<(eu.length:Int))) then
    (eu[(t30:Int).toNat]?).bind fun x4=>
    (Loop (HG C t30 t29 t30 x4.toList (x4.toList.length:Int) bc bn bA bz dJ dK xF xG places dj xH xI cD cv cY eu gl mY) (0,List.replicate ((bc:Int).toNat) (V.int .i64 0))).bind (un fun (AZ:Int)=>un fun (mT:Bool) (WW:List V)=>
     bif (decide (0≤t30))&&(decide (t30<(cY.length:Int))) then
     (cY[(t30:Int).toNat]?).bind fun dH=>
     bif Nat.ble ((gl.length+([.bool dH.toBool]:List V).length)*1) cg then
      bif Nat.ble ((mY.length+([.list bt WW]:List V).length)*24) cg then
      kn (IntKind.wrap .i64 (t30+1),gl++([.bool dH.toBool]:List V),mY++([.list bt WW]:List V))
      else none
     else none
     else none)
   else none
   else none
  else none
 else
  kr (t30,decide ((t30:Int)<t29),gl,mY)
noncomputable def HH (C:ae) (t29 bc bn:Int) (bA bz:List V) (dJ dK xF xG:Int) (places dj:List V) (xH xI:Int) (cD cv cY eu:List V):(Int × (List V) × (List V))→Option ((Int × (List V) × (List V)) ⊕ (Int × Bool × (List V) × (List V))):=un fun t30=>un fun gl mY=>B7 C t29 bc bn bA bz dJ dK xF xG places dj xH xI cD cv cY eu t30 gl mY (fun y=>some (.inl y)) (fun r=>some (.inr r))
noncomputable def B8 (C:ae) (t88 dJ dK:Int) (dj:List V) (gm gn:Int) (numbers HI cD cv cY eu:List V) (t89:Int) (nO:List V) {β:Type} (kn:(Int × (List V))→Option β) (kr:(Int × Bool × (List V))→Option β):Option β:=
 bif decide ((t89:Int)<t88) then
  bif (decide (0≤t89))&&(decide (t89<(HI.length:Int))) then
  (HI[(t89:Int).toNat]?).bind fun ku=>
  bif (decide (0≤t89))&&(decide (t89<(nO.length:Int))) then
   (nO[(t89:Int).toNat]?).bind fun xJ=>
   bif decide ((ku.toInt:Int)≥0) then
   bif (decide (0≤ku.toInt))&&(decide (ku.toInt<(dj.length:Int))) then
    (dj[(ku.toInt:Int).toNat]?).bind fun fS=>
    bif (decide (0≤fS.toInt))&&(decide (fS.toInt<(numbers.length:Int))) then
    (numbers[(fS.toInt:Int).toNat]?).bind fun jQ=>
    bif (decide (0≤t89))&&(decide (t89<((nO.set ((t89:Int).toNat) (.int .i64 (-1))).length:Int))) then
     ((nO.set ((t89:Int).toNat) (.int .i64 (-1)))[(t89:Int).toNat]?).bind fun nP=>
     kn (IntKind.wrap .i64 (t89+1),(nO.set ((t89:Int).toNat) (.int .i64 (-1))).set ((t89:Int).toNat) (.int .i64 jQ.toInt))
    else none
    else none
   else none
   else
   kn (IntKind.wrap .i64 (t89+1),nO.set ((t89:Int).toNat) (.int .i64 (-1)))
  else none
  else none
 else
  kr (t89,decide ((t89:Int)<t88),nO)
noncomputable def HJ (C:ae) (t88 dJ dK:Int) (dj:List V) (gm gn:Int) (numbers HI cD cv cY eu:List V):(Int × (List V))→Option ((Int × (List V)) ⊕ (Int × Bool × (List V))):=un fun t89 nO=>B8 C t88 dJ dK dj gm gn numbers HI cD cv cY eu t89 nO (fun y=>some (.inl y)) (fun r=>some (.inr r))
noncomputable def WX (C:ae):b6:=fun β n ds k=>
 bif Nat.beq n 161 then bd Lx [false,false,false,false,false,true,false,false,false,false,false,false,false,false,false,false,false,false,true,false,false,false,false,false,false] [[1,2,3,4,5,0,0,7,8,9,10,11,12,13,14,15,16,17,18,0,20,21,22,23,24,25]] (@B6 C) ds k else
 bif Nat.beq n 81 then bd Ly [false,true,false,false,false,false,false,false,false,false,false,false,false,false,false,false,false,false,true,true] [[1,0,0,3,4,5,6,7,8,9,10,11,12,13,14,15,16,17,18,0,0]] (@B7 C) ds k else
 bif Nat.beq n 321 then bd LA [false,true,false,false,false,false,false,false,true,false,false,false,false,false] [[1,0,0,3,4,5,6,7,8,0,10,11,12,13,14]] (@B8 C) ds k else
 none
abbrev ND (C:ae) (b:bY):Prop:=bZ Tryd.prog aq C (WX C) 86 (cm Tryd.prog (aq.aO 86)) (aq.sin 86).aW.length b
theorem agl (C:ae):ND C (.loop (an [1,1,1,1,0,1,0,0,1,1,0,0,1,1,1,0,1,0,0] xE)):=
 bh Lx [false,false,false,false,false,true,false,false,false,false,false,false,false,false,false,false,false,false,true,false,false,false,false,false,false] [[1,2,3,4,5,0,0,7,8,9,10,11,12,13,14,15,16,17,18,0,20,21,22,23,24,25]] (@B6 C) (by kernel_rfl) (aI (bs:=[]) (by kernel_rfl) ao) (fun ds=>by kernel_rfl) (fun i x=>by kernel_rfl) (fun i x β k=>by kernel_rfl) (fun β ds k=>by kernel_rfl)
theorem agm (C:ae):ND C (.loop (an [1,1,1,1,0,1,0,0] xE)):=
 bh Ly [false,true,false,false,false,false,false,false,false,false,false,false,false,false,false,false,false,false,true,true] [[1,0,0,3,4,5,6,7,8,9,10,11,12,13,14,15,16,17,18,0,0]] (@B7 C) (by kernel_rfl) (aI (bs:=[.loop (an [1,1,1,1,0,1,0,0,1,1,0,0,1,1,1,0,1,0,0] xE)]) (by kernel_rfl) (aU (agl C) ao)) (fun ds=>by kernel_rfl) (fun i x=>by kernel_rfl) (fun i x β k=>by kernel_rfl) (fun β ds k=>by kernel_rfl)
theorem agn (C:ae):ND C (.loop (an [1,1,1,1,1,1,1,0,1,0,0] xE)):=
 bh LA [false,true,false,false,false,false,false,false,true,false,false,false,false,false] [[1,0,0,3,4,5,6,7,8,0,10,11,12,13,14]] (@B8 C) (by kernel_rfl) (aI (bs:=[]) (by kernel_rfl) ao) (fun ds=>by kernel_rfl) (fun i x=>by kernel_rfl) (fun i x β k=>by kernel_rfl) (fun β ds k=>by kernel_rfl)
noncomputable def WY (C:ae) (aJ aP:Int) (aF aM:List V):Option (List V):=
 (C w4 [.int .i64 aJ,.int .i64 aP,.list aD aF,.list aG aM]).bind fun r1=>
 (C Gv [.int .i64 ((V.nth r1 0).toInt),.int .i64 ((V.nth (r1.drop 1) 0).toInt),.list aD ((V.nth (r1.drop 2) 0).toList),.list aG ((V.nth ((r1.drop 2).drop 1) 0).toList)]).bind fun r2=>
 (Loop (HH C (((V.nth r2 0).toList).length:Int) aJ aP aF aM 0 0 ((V.nth r1 0).toInt) ((V.nth (r1.drop 1) 0).toInt) ((V.nth (((r1.drop 2).drop 1).drop 1) 0).toList) ((V.nth r2 0).toList) aJ 0 ([]:List V) ([]:List V) ((V.nth (r1.drop 2) 0).toList) ((V.nth ((r1.drop 2).drop 1) 0).toList)) (0,([]:List V),([]:List V))).bind (un fun (xK:Int)=>un fun (sW:Bool)=>un fun (BC:List V) (Bf:List V)=>
  (C w4 [.int .i64 aJ,.int .i64 0,.list aD BC,.list aG Bf]).bind fun jR=>
  bif (decide (0≤(((V.nth (((r1.drop 2).drop 1).drop 1) 0).toList).length:Int)))&&((decide ((((V.nth (((r1.drop 2).drop 1).drop 1) 0).toList).length:Int)≤(((V.nth (((r1.drop 2).drop 1).drop 1) 0).toList).length:Int)))&&(Nat.ble ((((((V.nth (((r1.drop 2).drop 1).drop 1) 0).toList).length:Int):Int).toNat)*8) cg)) then
   (Loop (HJ C (((V.nth (((r1.drop 2).drop 1).drop 1) 0).toList).length:Int) 0 0 ((V.nth r2 0).toList) ((V.nth jR 0).toInt) ((V.nth (jR.drop 1) 0).toInt) ((V.nth (((jR.drop 2).drop 1).drop 1) 0).toList) ((V.nth (((r1.drop 2).drop 1).drop 1) 0).toList) ([]:List V) ([]:List V) ((V.nth (jR.drop 2) 0).toList) ((V.nth ((jR.drop 2).drop 1) 0).toList)) (0,List.replicate (((((V.nth (((r1.drop 2).drop 1).drop 1) 0).toList).length:Int):Int).toNat) (V.int .i64 0))).bind (un fun (WZ:Int)=>un fun (HK:Bool) (ago:List V)=>
    some [.int .i64 ((V.nth jR 0).toInt),.int .i64 ((V.nth (jR.drop 1) 0).toInt),.list aD ((V.nth (jR.drop 2) 0).toList),.list aG ((V.nth ((jR.drop 2).drop 1) 0).toList),.list bt ago])
  else none)
theorem agp {aJ aP:Int} {aF aM:List V} {r:Option (List V)} (h:WY CC aJ aP aF aM=r):CC Gn [.int .i64 aJ,.int .i64 aP,.list aD aF,.list aG aM]=r:=
 bf (key:=86) (L:=WX CC) (bs:=[.loop (an [1,1,1,1,0,1,0,0] xE),.loop (an [1,1,1,1,1,1,1,0,1,0,0] xE)]) (by kernel_rfl) (aU (agm CC) (aU (agn CC) ao)) (Eq.trans (by kernel_rfl) h)
noncomputable def W0 (C:ae) (aJ aP:Int) (aF aM:List V):Option (List V):=
 (C py [.int .i64 aJ,.int .i64 aP,.list aD aF,.list aG aM]).bind fun r1=>
 bif (((V.nth r1 0).toInt):Int) != 0 then
  some [.int .i64 0,.int .i64 0,.list aD ([]:List V),.list aG ([]:List V)]
 else
  (C Gn [.int .i64 aJ,.int .i64 aP,.list aD aF,.list aG aM]).bind fun r2=>
  some [.int .i64 ((V.nth r2 0).toInt),.int .i64 ((V.nth (r2.drop 1) 0).toInt),.list aD ((V.nth (r2.drop 2) 0).toList),.list aG ((V.nth ((r2.drop 2).drop 1) 0).toList)]
theorem agq {aJ aP:Int} {aF aM:List V} {r:Option (List V)} (h:W0 CC aJ aP aF aM=r):CC qT [.int .i64 aJ,.int .i64 aP,.list aD aF,.list aG aM]=r:=
 bf (key:=54) (L:=dq) (bs:=[]) (by kernel_rfl) ao (Eq.trans (by kernel_rfl) h)
theorem agr {p:Nat→Nat} {n:Nat} (h:oI p n) (hn:0<n):p 0=0:=by
 simpa[aV,dr] using h 1 (by omega)
theorem W3 {p:Nat→Nat} {n i:Nat} (h:oI p n) (hi:i<n):p i∈aV p i↔p i<(Da.eV p i).length:=by
 rw[Da.BN]
 constructor
 ·intro hm
  rw[h i (by omega)] at hm
  simpa using hm
 ·intro hm
  rw[h i (by omega)]
  simpa using hm
theorem W4 (p:Nat→Nat) (n:Nat):(Da.eV p n).length≤n:=by rw[Da.BN];exact rD p n
def qF (a:Da) (p:Nat→Nat) (i:Nat):List V:=(Da.eV p i).map fun r=>V.bool (a.fin r)
def qN (a:Da) (p:Nat→Nat) (i:Nat):List V:=(Da.eV p i).map fun r=>gN a.L fun x=>p (a.nx r x)
theorem ags {a:Da} {p:Nat→Nat}:(a.quo p).dg=qF a p a.n∧(a.quo p).cQ=qN a p a.n:=by
 constructor
 ·unfold Da.dg qF
  rw[Br _ 0,Da.rE]
  exact fa fun i hi=>by rw[Da.WJ hi,fj hi]
 ·unfold Da.cQ qN
  rw[Br _ 0,Da.rE]
  refine fa fun i hi=> ?_
  unfold gN
  exact congrArg _ (fa fun x hx=>by rw[Da.WK hi hx,fj hi])
section
variable {a:Da} (h:a.Ok) {p:Nat→Nat}
include h
theorem agt {q:Nat} (hq:q<a.n) {k1 k2 k3 k4 k5 k6 k7 k8 k9 k10 k11:Int} {l1 l2 l3 l4 l5 l6 l7 l8 l9:List V}:
  Loop (HG CC k1 k2 k3 (tab a.L fun x=>iV (a.nx q x)) ((tab a.L fun x=>iV (a.nx q x)).length:Int) k4 k5 l1 l2 k6 k7 k8 k9 l3 (cV a.n p) k10 k11 l4 l5 l6 l7 l8 l9) (0,List.replicate (((a.L:Nat):Int).toNat) (V.int .i64 0))=
   some ((a.L:Int),false,(tab a.L fun x=>nV (p (a.nx q x)))):=by
 have h6:=h.l6
 rw[ft,Int.toNat_natCast,nM]
 refine (fu a.L (fun t=>((t:Int),(tab a.L fun x=>if x<t then nV (p (a.nx q x)) else nV 0))) _ (fun t ht=> ?_) ?_)
 ·simp only[HG,B6,un]
  refine bT (er ht) ?_
  refine bs (uT ht) ?_
  refine (fQ (i:=a.nx q t) (h.gk hq ht)).trans ?_
  refine (fQ ht).trans ?_
  rw[dI (by omega),Int.toNat_natCast,ru]
  refine congrArg (fun x=>some (Sum.inl (((t+1:Nat):Int),x))) (fa fun j _=> ?_)
  by_cases hj:j=t
  ·rw[if_pos hj,if_pos (by omega),hj];rfl
  ·rw[if_neg hj]
   by_cases b8:j<t
   ·rw[if_pos b8,if_pos (by omega)]
   ·rw[if_neg b8,if_neg (by omega)]
 ·simp only[HG,B6,un]
  refine bF (bM (Nat.le_refl _)) ?_
  rw[bM (Nat.le_refl _)]
  refine congrArg (fun x=>some (Sum.inr ((a.L:Int),false,x))) (fa fun j hj=>if_pos hj)
theorem agu (ho:oI p a.n) {k3 k4 k5 k6 k7 k8 k9:Int} {l1 l2 l3 l4 l5:List V}:
  Loop (HH CC ((cV a.n p).length:Int) (a.L:Int) k3 l1 l2 k4 k5 k6 k7 l3 (cV a.n p) k8 k9 l4 l5 a.dg a.cQ) (0,([]:List V),([]:List V))=
   some ((a.n:Int),false,qF a p a.n,qN a p a.n):=by
 have h6:=h.l6
 have hm:=h.eP
 rw[show (cV a.n p).length=a.n by simp[cV]]
 refine (fu a.n (fun i=>((i:Int),qF a p i,qN a p i)) _ (fun q hq=> ?_) ?_)
 ·have hle:=W4 p q
  have hF:(qF a p q).length=(Da.eV p q).length:=by simp[qF]
  have hN:(qN a p q).length=(Da.eV p q).length:=by simp[qN]
  simp only[HH,B7,un]
  refine bT (er hq) ?_
  refine (fQ (i:=q) hq).trans ?_
  rw[dI (by omega)]
  simp only[nV,V.toInt_int]
  by_cases hx:p q∈aV p q
  ·refine bT (decide_eq_true (by rw[hF];have:=(W3 ho hq).1 hx;omega)) ?_
   unfold qF qN
   rw[Da.eV,if_pos hx]
  ·refine bF (decide_eq_false (by rw[hF];intro h2;exact hx ((W3 ho hq).2 (by omega)))) ?_
   refine bT (mU (by omega) (by omega)) ?_
   refine (fQ (i:=q) hq).trans ?_
   simp only[sY]
   refine bs (agt h hq) ?_
   refine (fQ (i:=q) hq).trans ?_
   refine bT (cap (by rw[hF];simp;omega) (by omega)) ?_
   refine bT (cap (by rw[hN];simp;omega) (by omega)) ?_
   unfold qF qN
   rw[Da.eV,if_neg hx,List.map_append,List.map_append]
   rfl
 ·simp only[HH,B7,un]
  refine bF (bM (Nat.le_refl _)) ?_
  rw[bM (Nat.le_refl _)]
end
def rF (U U':List Nat) (p:Nat→Nat) (q:Nat):V:=if q∈U then iV ((if p (U.idxOf q)∈U' then nV (U'.idxOf (p (U.idxOf q))) else V.int .i64 (-1)).toInt) else V.int .i64 (-1)
theorem agv {n m k:Nat} {U U':List Nat} {p:Nat→Nat} (hn:n≤512) (hU:U.length≤m) (hp: ∀q,q<m→p q<k) {k1 k2 k3 k4:Int} {l1 l2 l3 l4:List V}:
  ∃X,Loop (HJ CC ((kV U n).length:Int) k1 k2 (cV m p) k3 k4 (kV U' k) (kV U n) l1 l2 l3 l4) (0,List.replicate ((((kV U n).length:Int):Int).toNat) (V.int .i64 0))=some ((n:Int),false,X):=by
 rw[show (kV U n).length=n by simp[kV],Int.toNat_natCast,nM]
 refine ⟨tab n fun q=>if q<n then rF U U' p q else V.int .i64 0,fu n (fun i=>((i:Int),(tab n fun q=>if q<i then rF U U' p q else V.int .i64 0))) _ (fun q hq=> ?_) ?_⟩
 ·simp only[HJ,B8,un]
  refine bT (er hq) ?_
  refine (fQ (i:=q) hq).trans ?_
  refine (fQ (i:=q) hq).trans ?_
  rw[dI (by omega)]
  have fin: ∀v,v=rF U U' p q→((tab n fun j=>if j<q then rF U U' p j else V.int .i64 0).set q v)=tab n fun j=>if j<q+1 then rF U U' p j else V.int .i64 0:=by
   rintro v rfl
   rw[ru]
   refine fa fun j _=> ?_
   by_cases hj:j=q
   ·rw[if_pos hj,if_pos (show j<q+1 by omega),hj]
   ·rw[if_neg hj]
    by_cases b8:j<q
    ·rw[if_pos b8,if_pos (show j<q+1 by omega)]
    ·rw[if_neg b8,if_neg (show¬j<q+1 by omega)]
  by_cases hx:q∈U
  ·have es:rF U U' p q=iV ((if p (U.idxOf q)∈U' then nV (U'.idxOf (p (U.idxOf q))) else V.int .i64 (-1)).toInt):=by unfold rF;rw[if_pos hx]
   have hi:=List.idxOf_lt_length_of_mem hx
   rw[if_pos hx]
   refine bT (decide_eq_true (by simp only[nV,V.toInt_int];omega)) ?_
   simp only[nV,V.toInt_int]
   refine (fQ (i:=U.idxOf q) (by omega)).trans ?_
   simp only[nV,V.toInt_int]
   refine (fQ (i:=p (U.idxOf q)) (hp _ (by omega))).trans ?_
   refine bT (by rw[List.length_set,ft];exact afg hq) ?_
   refine bs (a:= .int .i64 (-1)) (by rw[Int.toNat_natCast,List.getElem?_set];simp[hq]) ?_
   rw[Int.toNat_natCast,List.set_set,←fin _ es.symm]
  ·rw[if_neg hx]
   refine bF (decide_eq_false (by simp)) ?_
   rw[Int.toNat_natCast,←fin _ (show V.int .i64 (-1)=rF U U' p q by unfold rF;rw[if_neg hx])]
 ·simp only[HJ,B8,un]
  refine bF (bM (Nat.le_refl _)) ?_
  rw[bM (Nat.le_refl _)]
theorem Canon.congr {m:Da} {L:Nat} {K K':List Nat→Bool} (h:m.Canon L K) (e: ∀w,WL L w→K w=K' w):m.Canon L K':=⟨h.ok,h.hL,h.st,h.num,h.red,fun w hw=>(h.lR w hw).trans (e w hw)⟩
theorem agw {a:Da} (h:a.Ok): ∃m X,CC Gn (eI a)=some (eI m++[.list bt X])∧m.Canon a.L (a.acc a.st):=by
 have ht:=h.VP
 have hm:=h.eP
 have hle:=h.pM a.n
 have e3:a.trim.n=(av a.L a.nx a.st a.n).length:=mQ
 obtain ⟨p,c1,c2,c3⟩:=agk ht
 have hq:=Da.Nz ht c2
 obtain ⟨q1,q2⟩:=ags (a:=a.trim) (p:=p)
 have agx:=Da.WM ht c2
 have cK:(a.trim.quo p).st=0:=agr c2.2 ht.s
 have Fk:=WC hq
 obtain ⟨X,hX⟩:=agv (n:=a.n) (m:=a.trim.n) (k:=(a.trim.quo p).n) (U:=av a.L a.nx a.st a.n) (U':=av (a.trim.quo p).L (a.trim.quo p).nx (a.trim.quo p).st (a.trim.quo p).n) (p:=p) hm (by omega) (fun q hq=>by rw[Da.rE];exact Da.BO c2.2 hq) (k1:=0) (k2:=0) (k3:=((a.trim.quo p).trim.L:Int)) (k4:=((a.trim.quo p).trim.st:Int)) (l1:=[]) (l2:=[]) (l3:=(a.trim.quo p).trim.dg) (l4:=(a.trim.quo p).trim.cQ)
 refine ⟨(a.trim.quo p).trim,X,agp ?_,Canon.congr agx fun w hw=>h.VQ hw⟩
 unfold WY
 refine bs (WC h) ?_
 refine bs c1 ?_
 refine bs (agu ht c2.2) ?_
 simp only[un]
 rw[←q1,←q2]
 have agy:CC w4 [.int .i64 (a.L:Int),.int .i64 0,.list aD (a.trim.quo p).dg,.list aG (a.trim.quo p).cQ]=some (eI (a.trim.quo p).trim++[.list bt (kV (av (a.trim.quo p).L (a.trim.quo p).nx (a.trim.quo p).st (a.trim.quo p).n) (a.trim.quo p).n)]):=by
  rw[←Fk]
  unfold eI lS
  rw[cK];rfl
 refine bs agy ?_
 have e0:(kV (av a.L a.nx a.st a.n) a.n).length=a.n:=by simp[kV]
 refine bT (show ((decide (0≤((kV (av a.L a.nx a.st a.n) a.n).length:Int)))&&((decide (((kV (av a.L a.nx a.st a.n) a.n).length:Int)≤((kV (av a.L a.nx a.st a.n) a.n).length:Int)))&&(Nat.ble (((((kV (av a.L a.nx a.st a.n) a.n).length:Nat):Int).toNat)*8) cg)))=true from mU (by rw[e0];omega) (by omega)) ?_
 refine bs hX ?_
 rfl
theorem W5 {a:Da} (h:a.Ok): ∃m,CC qT (eI a)=some (eI m)∧m.Canon a.L (a.acc a.st):=by
 obtain ⟨m,X,h1,h2⟩:=agw h
 refine ⟨m,agq ?_,h2⟩
 unfold W0
 refine bs (uU h) ?_
 refine bF rfl ?_
 refine bs h1 ?_
 rfl
open Classical in
noncomputable def minD (a:Da):Da:=if h: ∃m:Da,m.Canon a.L (a.acc a.st) then Classical.choose h else a
theorem xL {a:Da} (h:a.Ok):(minD a).Canon a.L (a.acc a.st):=by
 obtain ⟨m,_,h2⟩:=W5 h
 have: ∃m:Da,m.Canon a.L (a.acc a.st):=⟨m,h2⟩
 unfold minD
 rw[dif_pos this]
 exact Classical.choose_spec this
theorem B9 {a m:Da} (h:a.Ok) (hm:m.Canon a.L (a.acc a.st)):m=minD a:=hm.eq (xL h)
theorem Cc {a:Da} (h:a.Ok):CC qT (eI a)=some (eI (minD a)):=by
 obtain ⟨m,h1,h2⟩:=W5 h
 rw[h1,B9 h h2]
end Go.AM
set_option maxRecDepth 100000
namespace Go.AM
section
variable {α:Type} [DecidableEq α] {L:Nat} {next:α→Nat→α} {a0:α}
theorem W6 (S:List α) (a:α): ∀x,(dy next S a x).length≤S.length+x
 | 0=>Nat.le_refl _
 | x+1=>by
  have:=W6 S a x
  rw[dy,sX]
  split<;>omega
theorem agz {m:Nat} (h:(av L next a0 m).length≤m) (i:Nat):(av L next a0 i).length≤m:=by
 rcases Nat.lt_or_ge m i with c|c
 ·rw[Bg h (by omega)];exact h
 ·exact Nat.le_trans (mP c).length_le h
theorem agA {k:Nat} (hd:(av L next a0 k).length≤k) (i:Nat):(av L next a0 i).length≤(av L next a0 k).length:=by
 rcases Nat.lt_or_ge k i with c|c
 ·rw[Bg hd (by omega)];exact Nat.le_refl _
 ·exact (mP c).length_le
theorem agB {k m:Nat} (h:m<(av L next a0 k).length):m<(av L next a0 m).length:=by
 rcases Nat.lt_or_ge m (av L next a0 m).length with c|c
 ·exact c
 ·have:=agz c k
  omega
theorem agC {m:Nat} (h:m<(av L next a0 m).length) (hm:1≤m): ∃i,i<m∧(∀j,j≤i→j<(av L next a0 j).length∧(av L next a0 j).length≤m)∧m<(av L next a0 (i+1)).length:=by
 have key: ∀d k,k+d=m→(∀j,j≤k→(av L next a0 j).length≤m)→∃i,i<m∧(∀j,j≤i→j<(av L next a0 j).length∧(av L next a0 j).length≤m)∧m<(av L next a0 (i+1)).length:=by
  intro d
  induction d with
  | zero=>
   intro k hk hj
   have:=hj k (Nat.le_refl _)
   rw[show k=m by omega] at this
   omega
  | succ d ih=>
   intro k hk hj
   rcases Nat.lt_or_ge m (av L next a0 (k+1)).length with c|c
   ·refine ⟨k,by omega,fun j W7=>⟨?_,hj j W7⟩,c⟩
    rcases Nat.lt_or_ge j (av L next a0 j).length with c1|c1
    ·exact c1
    ·have h1:=hj j W7
     rw[←Bg c1 (show j≤m by omega)] at h1
     omega
   ·refine ih (k+1) (by omega) fun j b8=> ?_
    rcases Nat.lt_or_ge j (k+1) with c1|c1
    ·exact hj j (by omega)
    ·rw[show j=k+1 by omega];exact c
 exact key m 0 (by omega) fun j hj=>by rw[Nat.le_zero.1 hj];simp[av];omega
theorem agD {P:α→Prop} (h0:P a0) (hP: ∀a,P a→∀x,x<L→P (next a x)) (i:Nat): ∀a∈av L next a0 i,P a:=by
 intro a ha
 obtain ⟨w,hw,rfl⟩:=Bi i a ha
 have: ∀(w:List Nat) (b:α),P b→WL L w→P (w.foldl next b):=by
  intro w
  induction w with
  | nil=>intro b hb _;exact hb
  | cons x w ih=>intro b hb hw;exact ih _ (hP b hb x hw.head) hw.tail
 exact this w a0 h0 hw
end
end Go.AM
set_option maxRecDepth 100000
namespace Go.AM
open Go.Proofs
structure NP where
 p:Nat
 q:Nat
deriving DecidableEq
section
variable {a b:Da} (ha:a.Ok) (hb:b.Ok) (hL:a.L=b.L) {op:Nat}
include ha hb hL
end
def zD:Da:=⟨0,0,[],[]⟩
def kX (m:Da) (e:Int):List V:=[.int .i64 (m.L:Int),.int .i64 (m.st:Int),.int .i64 e,.list aD m.dg,.list aG m.cQ]
section
variable {a b:Da} (ha:a.Ok) (hb:b.Ok) (hL:a.L=b.L) {op:Nat}
include ha hb hL
end
section
variable {a b:Da} (ha:a.Ok) (hb:b.Ok) (hL:a.L=b.L) {op:Nat}
include ha hb hL
end
noncomputable def W8 (C:ae) (fi letter:Int) (Cd:List V):Option (List V):=
 (idx Cd letter).bind fun x1=>
 (C Gz [.list ct x1.toList,.int .u64 fi]).bind fun r2=>
 some [.int .u64 ((V.nth r2 0).toInt),.list eG Cd]
theorem agE {fi letter:Int} {Cd:List V} {r:Option (List V)} (h:W8 CC fi letter Cd=r):CC pz [.int .u64 fi,.int .i64 letter,.list eG Cd]=r:=
 bf (key:=138) (L:=dq) (bs:=[]) (by kernel_rfl) ao (Eq.trans (by kernel_rfl) h)
noncomputable def W9 (C:ae) (fi rB rC pQ pR:Int) (HL:List V):Option (List V):=
 some [.bool (((IntKind.wrap .u64 ((BitVec.ofInt (IntKind.bits .u64) fi&&&BitVec.ofInt (IntKind.bits .u64) pR).toNat)):Int) != 0),.int .i64 rB,.int .i64 rC,.int .u64 pQ,.int .u64 pR,.list aj HL]
theorem agF {fi rB rC pQ pR:Int} {HL:List V} {r:Option (List V)} (h:W9 CC fi rB rC pQ pR HL=r):CC qV [.int .u64 fi,.int .i64 rB,.int .i64 rC,.int .u64 pQ,.int .u64 pR,.list aj HL]=r:=
 bf (key:=119) (L:=dq) (bs:=[]) (by kernel_rfl) ao (Eq.trans (by kernel_rfl) h)
noncomputable def Xa (C:ae) (x:Int) (bE:List V):Option (List V):=
 bif dA .u64 x&&true then
  bif dA .u64 x&&true then
  bif Nat.ble ((bE.length+([.int .u64 x]:List V).length)*8) cg then
   some [.int .i64 (bE.length:Int),.list ct (bE++([.int .u64 x]:List V)),.list iU (fI (.int .u64 x) (.int .i64 (bE.length:Int)) ([]:List V))]
  else none
  else none
 else none
theorem agG {x:Int} {bE:List V} {r:Option (List V)} (h:Xa CC x bE=r):CC AN [.int .u64 x,.list ct bE]=r:=
 bf (key:=137) (L:=dq) (bs:=[]) (by kernel_rfl) ao (Eq.trans (by kernel_rfl) h)
noncomputable def Xb (C:ae) (x:Int) (bE dx:List V):Option (List V):=
 bif dA .u64 x&&true then
  bif !(gH (.int .u64 x) dx) then
  bif dA .u64 x&&true then
   bif Nat.ble ((bE.length+([.int .u64 x]:List V).length)*8) cg then
   some [.int .i64 (bE.length:Int),.list iU (fI (.int .u64 x) (.int .i64 (bE.length:Int)) dx),.list ct (bE++([.int .u64 x]:List V))]
   else none
  else none
  else
  some [.int .i64 ((jh (.int .u64 x) dx (.int .i64 0)).toInt),.list iU dx,.list ct bE]
 else none
theorem agH {x:Int} {bE dx:List V} {r:Option (List V)} (h:Xb CC x bE dx=r):CC KO [.int .u64 x,.list ct bE,.list iU dx]=r:=
 bf (key:=183) (L:=dq) (bs:=[]) (by kernel_rfl) ao (Eq.trans (by kernel_rfl) h)
noncomputable abbrev HM:Code:=ch Tryd.prog (aq.aO 117)
noncomputable def Ce (C:ae) (bu i state t36 lX lY lZ ma:Int) (mb:List V) (mV mW bc bn:Int) (cD cv gl mY:List V) (t37:Int) (mc rows cY eu:List V) {β:Type} (kn:(Int × (List V) × (List V) × (List V) × (List V))→Option β) (kr:(Int × Bool × (List V) × (List V) × (List V) × (List V))→Option β):Option β:=
 bif decide ((t37:Int)<t36) then
  (C pz [.int .u64 state,.int .i64 t37,.list eG mc]).bind fun r3=>
  (C KO [.int .u64 ((V.nth r3 0).toInt),.list ct cY,.list iU eu]).bind fun r4=>
  bif (decide (0≤t37))&&(decide (t37<(rows.length:Int))) then
  (rows[(t37:Int).toNat]?).bind fun x5=>
  kn (IntKind.wrap .i64 (t37+1),(V.nth (r3.drop 1) 0).toList,rows.set ((t37:Int).toNat) (.int .i64 ((V.nth r4 0).toInt)),(V.nth ((r4.drop 1).drop 1) 0).toList,(V.nth (r4.drop 1) 0).toList)
  else none
 else
  kr (t37,decide ((t37:Int)<t36),mc,rows,cY,eu)
noncomputable def HN (C:ae) (bu i state t36 lX lY lZ ma:Int) (mb:List V) (mV mW bc bn:Int) (cD cv gl mY:List V):(Int × (List V) × (List V) × (List V) × (List V))→Option ((Int × (List V) × (List V) × (List V) × (List V)) ⊕ (Int × Bool × (List V) × (List V) × (List V) × (List V))):=un fun t37=>un fun mc=>un fun rows=>un fun cY eu=>Ce C bu i state t36 lX lY lZ ma mb mV mW bc bn cD cv gl mY t37 mc rows cY eu (fun y=>some (.inl y)) (fun r=>some (.inr r))
noncomputable def Cf (C:ae) (bu mV mW bc bn:Int) (dL cD:List V) (i:Int) (mc:List V) (lX lY lZ ma:Int) (mb cv cY eu gl:List V) {β:Type} (kn:(Int × (List V) × Int × Int × Int × Int × (List V) × (List V) × (List V) × (List V) × (List V))→Option β) (kr:((Int × (List V) × Int × Int × Int × Int × (List V) × Int × Int × (List V) × (List V) × (List V)) ⊕ (Int × Bool × (List V) × Int × Int × Int × Int × (List V) × (List V) × (List V) × (List V) × (List V)))→Option β):Option β:=
 bif decide ((i:Int)<(cv.length:Int)) then
  bif (decide (0≤i))&&(decide (i<(cv.length:Int))) then
  (cv[(i:Int).toNat]?).bind fun x2=>
  bif (decide (0≤bu))&&((decide (bu≤bu))&&(Nat.ble (((bu:Int).toNat)*8) cg)) then
   (Loop (HN C bu i x2.toInt ((List.replicate ((bu:Int).toNat) (V.int .i64 0)).length:Int) lX lY lZ ma mb mV mW bc bn dL cD eu gl) (0,mc,List.replicate ((bu:Int).toNat) (V.int .i64 0),cv,cY)).bind (un fun (nJ:Int)=>un fun (mO:Bool)=>un fun (BB:List V)=>un fun (Xc:List V)=>un fun (HO:List V) (NF:List V)=>
    bif decide (((HO.length:Int):Int)>512) then
    kr (.inl (3,BB,lX,lY,lZ,ma,mb,0,0,([]:List V),([]:List V),([]:List V)))
    else
    bif Nat.ble ((gl.length+([.list bt Xc]:List V).length)*24) cg then
     (C qV [.int .u64 x2.toInt,.int .i64 lX,.int .i64 lY,.int .u64 lZ,.int .u64 ma,.list aj mb]).bind fun fw=>
     bif Nat.ble ((eu.length+([.bool ((V.nth fw 0).toBool)]:List V).length)*1) cg then
     kn (IntKind.wrap .i64 (i+1),BB,(V.nth (fw.drop 1) 0).toInt,(V.nth ((fw.drop 1).drop 1) 0).toInt,(V.nth (((fw.drop 1).drop 1).drop 1) 0).toInt,(V.nth ((((fw.drop 1).drop 1).drop 1).drop 1) 0).toInt,(V.nth (((((fw.drop 1).drop 1).drop 1).drop 1).drop 1) 0).toList,HO,NF,eu++([.bool ((V.nth fw 0).toBool)]:List V),gl++([.list bt Xc]:List V))
     else none
    else none)
  else none
  else none
 else
  kr (.inr (i,decide ((i:Int)<(cv.length:Int)),mc,lX,lY,lZ,ma,mb,cv,cY,eu,gl))
noncomputable def xM (C:ae) (bu mV mW bc bn:Int) (dL cD:List V):(Int × (List V) × Int × Int × Int × Int × (List V) × (List V) × (List V) × (List V) × (List V))→Option ((Int × (List V) × Int × Int × Int × Int × (List V) × (List V) × (List V) × (List V) × (List V)) ⊕ ((Int × (List V) × Int × Int × Int × Int × (List V) × Int × Int × (List V) × (List V) × (List V)) ⊕ (Int × Bool × (List V) × Int × Int × Int × Int × (List V) × (List V) × (List V) × (List V) × (List V)))):=un fun i=>un fun mc=>un fun lX=>un fun lY=>un fun lZ=>un fun ma=>un fun mb=>un fun cv=>un fun cY=>un fun eu gl=>Cf C bu mV mW bc bn dL cD i mc lX lY lZ ma mb cv cY eu gl (fun y=>some (.inl y)) (fun r=>some (.inr r))
noncomputable def Xd (C:ae):b6:=fun β n ds k=>
 bif Nat.beq n 161 then bd LX [false,false,false,false,true,true,false,false,false,false,false,false,false,false,false,true,false,false,true,true,false,false] [[1,2,3,4,0,0,0,7,8,9,10,11,12,13,14,15,0,17,18,0,0,21,22]] (@Ce C) ds k else
 bif Nat.beq n 81 then bd LY [false,true,true,true,true,true,true,true,false,false,false,false,false,false,true,true,true,true] [[0,0,0,0,0,0,0,0,0,0,0,0],[1,0,0,0,0,0,0,0,0,9,10,11,12,13,14,0,0,0,0]] (@Cf C) ds k else
 none
abbrev Xe (C:ae) (b:bY):Prop:=bZ Tryd.prog aq C (Xd C) 117 (cm Tryd.prog (aq.aO 117)) (aq.sin 117).aW.length b
theorem agI (C:ae):Xe C (.loop (an [1,1,1,1,0,1,0,0,1,0,0,1,1,0,1,0,0] HM)):=
 bh LX [false,false,false,false,true,true,false,false,false,false,false,false,false,false,false,true,false,false,true,true,false,false] [[1,2,3,4,0,0,0,7,8,9,10,11,12,13,14,15,0,17,18,0,0,21,22]] (@Ce C) (by kernel_rfl) (aI (bs:=[]) (by kernel_rfl) ao) (fun ds=>by kernel_rfl) (fun i x=>by kernel_rfl) (fun i x β k=>by kernel_rfl) (fun β ds k=>by kernel_rfl)
theorem agJ (C:ae):Xe C (.loop (an [1,1,1,1,0,1,0,0] HM)):=
 bh LY [false,true,true,true,true,true,true,true,false,false,false,false,false,false,true,true,true,true] [[0,0,0,0,0,0,0,0,0,0,0,0],[1,0,0,0,0,0,0,0,0,9,10,11,12,13,14,0,0,0,0]] (@Cf C) (by kernel_rfl) (aI (bs:=[.loop (an [1,1,1,1,0,1,0,0,1,0,0,1,1,0,1,0,0] HM)]) (by kernel_rfl) (aU (agI C) ao)) (fun ds=>by kernel_rfl) (fun i x=>by kernel_rfl) (fun i x β k=>by kernel_rfl) (fun β ds k=>by kernel_rfl)
noncomputable def NG (C:ae) (bu start:Int) (mc:List V) (lX lY lZ ma:Int) (mb:List V):Option (List V):=
 (C AN [.int .u64 start,.list ct ([]:List V)]).bind fun r1=>
 (Loop (xM C bu 0 0 bu 0 ([]:List V) ([]:List V)) (0,mc,lX,lY,lZ,ma,mb,(V.nth (r1.drop 1) 0).toList,(V.nth ((r1.drop 1).drop 1) 0).toList,([]:List V),([]:List V))).bind (cI (un fun (sW:Int)=>un fun (BC:List V)=>un fun (Bf:Int)=>un fun (agK:Int)=>un fun (BD:Int)=>un fun (BE:Int)=>un fun (BF:List V)=>un fun (agL:Int)=>un fun (Np:Int)=>un fun (agM:List V)=>un fun (Nq:List V) (agN:List V)=>
  some [.int .i64 agL,.int .i64 Np,.int .i64 sW,.list eG BC,.int .i64 Bf,.int .i64 agK,.int .u64 BD,.int .u64 BE,.list aj BF,.list aD agM,.list aG Nq,.list ct agN]) (un fun (alF:Int)=>un fun (Xf:Bool)=>un fun (agO:List V)=>un fun (agP:Int)=>un fun (agQ:Int)=>un fun (agR:Int)=>un fun (agS:Int)=>un fun (agT:List V)=>un fun (Ww:List V)=>un fun (Wx:List V)=>un fun (Nr:List V) (agU:List V)=>
  some [.int .i64 bu,.int .i64 0,.int .i64 0,.list eG agO,.int .i64 agP,.int .i64 agQ,.int .u64 agR,.int .u64 agS,.list aj agT,.list aD Nr,.list aG agU,.list ct Ww]))
theorem Xg {bu start:Int} {mc:List V} {lX lY lZ ma:Int} {mb:List V} {r:Option (List V)} (h:NG CC bu start mc lX lY lZ ma mb=r):CC uE [.int .i64 bu,.int .u64 start,.list eG mc,.int .i64 lX,.int .i64 lY,.int .u64 lZ,.int .u64 ma,.list aj mb]=r:=
 bf (key:=117) (L:=Xd CC) (bs:=[.loop (an [1,1,1,1,0,1,0,0] HM)]) (by kernel_rfl) (aU (agJ CC) ao) (Eq.trans (by kernel_rfl) h)
noncomputable def NH (C:ae) (dS eN dB e9:Int) (ee:List V):Option (List V):=
 (C AE [.int .i64 dS,.int .i64 eN,.int .u64 dB,.int .u64 e9,.list aj ee]).bind fun r1=>
 bif (((V.nth r1 0).toInt):Int) != 0 then
  some [.int .i64 0,.int .i64 0,.int .i64 ((V.nth r1 0).toInt),.list aD ([]:List V),.list aG ([]:List V),.list ct ([]:List V)]
 else
  (C Gw [.int .i64 dS,.int .i64 eN,.int .u64 dB,.int .u64 e9,.list aj ee]).bind fun r2=>
  (C uE [.int .i64 dS,.int .u64 dB,.list eG ((V.nth r2 0).toList),.int .i64 dS,.int .i64 eN,.int .u64 dB,.int .u64 e9,.list aj ee]).bind fun r3=>
  some [.int .i64 ((V.nth r3 0).toInt),.int .i64 ((V.nth (r3.drop 1) 0).toInt),.int .i64 ((V.nth (r3.drop 2) 0).toInt),.list aD ((V.nth (((r3.drop 3).drop 1).drop 5) 0).toList),.list aG ((V.nth ((((r3.drop 3).drop 1).drop 5).drop 1) 0).toList),.list ct ((V.nth (((((r3.drop 3).drop 1).drop 5).drop 1).drop 1) 0).toList)]
theorem Xh {dS eN dB e9:Int} {ee:List V} {r:Option (List V)} (h:NH CC dS eN dB e9 ee=r):CC AD [.int .i64 dS,.int .i64 eN,.int .u64 dB,.int .u64 e9,.list aj ee]=r:=
 bf (key:=99) (L:=dq) (bs:=[]) (by kernel_rfl) ao (Eq.trans (by kernel_rfl) h)
def uV (q:Nat):V:= .int .u64 (q:Int)
def uM (S:List Nat):List V:=fR uV 0 S
theorem NI (a b:Nat):jg (uV a) (uV b)=decide (a=b):=afy a b
theorem agV {S:List Nat} {i:Nat} (h:i<S.length):(U1 S)[i]? =some (uV S[i]):=M5 (List.getElem?_eq_getElem h)
theorem Xi {x:Nat} (hx:x<2^64):CC AN [uV x,.list ct []]=some [nV 0,.list ct (U1 [x]),.list iU (uM [x])]:=by
 refine agG ?_
 unfold Xa
 rw[Wh hx]
 exact bT rfl (bT rfl (bT (cap (by simp) (by omega)) rfl))
theorem agW {S:List Nat} {x:Nat} (hx:x<2^64) (hl:S.length≤1000000):CC KO [uV x,.list ct (U1 S),.list iU (uM S)]=some [nV ((dr S x).idxOf x),.list iU (uM (dr S x)),.list ct (U1 (dr S x))]:=by
 refine agH ?_
 unfold Xb
 have e1:=Bw NI x S 0
 rw[Wh hx]
 refine bT rfl ?_
 rw[show (V.int .u64 (x:Int))=uV x from rfl,Wi]
 by_cases h:x∈S
 ·refine bF (by rw[show gH (uV x) (uM S)=_ from e1];simpa using h) ?_
  have e2:=Bx NI x (.int .i64 0) S 0 h
  rw[show jh (uV x) (uM S) (.int .i64 0)=_ from e2,if_pos h,Nat.zero_add,show dr S x=S by unfold dr;rw[if_pos h]]
  rfl
 ·refine bT (by rw[show gH (uV x) (uM S)=_ from e1];simpa using h) ?_
  refine bT rfl ?_
  refine bT (cap (by rw[pI];simp;omega) (by omega)) ?_
  have e2:=By NI x S 0 h
  rw[Nat.zero_add] at e2
  rw[pI,show fI (uV x) (.int .i64 (S.length:Int)) (uM S)=_ from e2,if_neg h,show dr S x=S++[x] by unfold dr;rw[if_neg h]]
  simp[U1,nV,uM,uV]
def sn (E:List Ed) (s x:Nat):Nat:=iz E s (x:Int)
def sf (fin s:Nat):Bool:= !((s&&&fin)==0)
structure Nat6 (n:Nf) (L S:Nat):Prop where
 code:n.code=0
 ok:n.Ok
 hL:n.L=(L:Int)
 hS:n.S=(S:Int)
namespace Nat6
variable {n:Nf} {L S:Nat} (h:Nat6 n L S)
include h
theorem good:n.Good:=Nf.adT h.code
theorem l1:1≤L:=by have:=h.good.L1;have:=h.hL;omega
theorem l6:L≤6:=by have:=h.good.L6;have:=h.hL;omega
theorem pK:S≤64:=by have:=h.good.S64;have:=h.hS;omega
theorem sS:n.S.toNat=S:=by have:=h.hS;omega
theorem lL:n.L.toNat=L:=by have:=h.hL;omega
theorem edF: ∀e∈n.E,e.f.toNat<S:=fun e he=>by have:=h.good.E e he;have:=h.hS;unfold Ed.In at*;omega
theorem Xj: ∀e∈n.E,e.t.toNat<S:=fun e he=>by have:=h.good.E e he;have:=h.hS;unfold Ed.In at*;omega
theorem st:n.st<2^S:=by have:=h.good.st;rwa [h.sS] at this
theorem fin:n.fin<2^S:=by have:=h.good.fin;rwa [h.sS] at this
theorem pow:2^S≤2^64:=Nat.pow_le_pow_right (by omega) h.pK
theorem next (s x:Nat):sn n.E s x<2^S:=M1 h.Xj
end Nat6
def iA (n:Nf) (L S:Nat):List Nat:=av L (sn n.E) n.st (2^S)
def iZ (n:Nf) (L S:Nat):Da:=fk L (sn n.E) (sf n.fin) (iA n L S)
def iB (n:Nf) (L S:Nat):Prop:=512<(iA n L S).length
def tV (n:Nf) (L S:Nat):List V:=U2 (jO L S n.E)
def Xk (m:Da) (e:Int) (X:V):List V:=[.int .i64 (m.L:Int),.int .i64 (m.st:Int),.int .i64 e,.list aD m.dg,.list aG m.cQ,X]
section
variable {n:Nf} {L S:Nat} (h:Nat6 n L S)
include h
theorem agX {s x:Nat} (hs:s<2^S) (hx:x<L):CC pz [uV s,nV x,.list eG (tV n L S)]=some [uV (sn n.E s x),.list eG (tV n L S)]:=by
 have hp:=h.pow
 refine agE ?_
 unfold W8
 have e1:idx (tV n L S) (x:Int)=some (.list ct (U1 (lQ S n.E (x:Int)))):=by
  rw[Kt rfl]
  unfold tV U2
  rw[List.getElem?_map,M6 hx];rfl
 refine bs e1 ?_
 have hr:xr (lQ S n.E (x:Int)):=aeP h.pK h.Xj
 have e2:=aeO hr (s:=s) (by omega)
 have hl:(lQ S n.E (x:Int)).length=S:=by simp[lQ]
 rw[hl,aeQ (by omega) h.pK h.edF] at e2
 refine bs e2 ?_
 rfl
theorem agY {s:Nat} (hs:s<2^S):CC qV (uV s::kS n [])=some (.bool (sf n.fin s)::kS n []):=by
 have hp:=h.pow
 have hf:=h.fin
 refine agF ?_
 unfold W9
 have e:IntKind.wrap .u64 ((BitVec.ofInt (IntKind.bits .u64) (s:Int)&&&BitVec.ofInt (IntKind.bits .u64) (n.fin:Int)).toNat)=((s&&&n.fin:Nat):Int):=u64_and (by omega) (by omega)
 rw[e]
 have e2:(((s&&&n.fin:Nat):Int) != 0)=sf n.fin s:=by
  unfold sf
  rw[Bool.eq_iff_iff]
  simp
 rw[e2];rfl
theorem sub_lt (i:Nat): ∀s∈av L (sn n.E) n.st i,s<2^S:=agD (P:=fun s=>s<2^S) h.st (fun s _ x _=>h.next s x) i
theorem xN (i:Nat):(av L (sn n.E) n.st i).length≤2^S:=by
 have:=VO (L:=L) (next:=sn n.E) (a0:=n.st) (U:=List.range (2^S)) (List.mem_range.2 h.st) (fun s _ x _=>List.mem_range.2 (h.next s x)) i
 simpa using this
theorem agZ {T U:List Nat} {s:Nat} (hs:s<2^S) (hT:T.length≤1000) (hp:dy (sn n.E) T s L <+: U) {i c1 c2:Int} {l1 l2 l3 l4:List V}:
  Loop (HN CC (L:Int) i (s:Int) ((List.replicate (((L:Nat):Int).toNat) (V.int .i64 0)).length:Int) n.L n.S (n.st:Int) (n.fin:Int) (n.E.map Ed.enc) c1 c2 (L:Int) 0 l1 l2 l3 l4) (0,tV n L S,List.replicate (((L:Nat):Int).toNat) (V.int .i64 0),U1 T,uM T)=
   some ((L:Int),false,tV n L S,(tab L fun x=>nV (U.idxOf (sn n.E s x))),U1 (dy (sn n.E) T s L),uM (dy (sn n.E) T s L)):=by
 have h6:=h.l6
 have Xl:=h.pow
 rw[Int.toNat_natCast,nM,ft]
 refine (fu L (fun x=>((x:Int),tV n L S,(tab L fun j=>if j<x then nV (U.idxOf (sn n.E s j)) else nV 0),U1 (dy (sn n.E) T s x),uM (dy (sn n.E) T s x))) _ (fun x hx=> ?_) ?_)
 ·simp only[HN,Ce,un]
  refine bT (er hx) ?_
  refine bs (agX h hs hx) ?_
  have hl:=W6 (next:=sn n.E) T s x
  have hn:=h.next s x
  refine bs (agW (S:=dy (sn n.E) T s x) (x:=sn n.E s x) (by omega) (by omega)) ?_
  refine (fQ hx).trans ?_
  rw[dI (by omega),Int.toNat_natCast,ru]
  have e:(dr (dy (sn n.E) T s x) (sn n.E s x)).idxOf (sn n.E s x)=U.idxOf (sn n.E s x):=(xx ((xu T s (show x+1≤L by omega)).trans hp) xt).symm
  show some (Sum.inl _)=some (Sum.inl _)
  refine congrArg (fun x=>some (Sum.inl x)) ?_
  refine Prod.ext rfl (Prod.ext rfl (Prod.ext ?_ (Prod.ext rfl rfl)))
  refine fa fun j _=> ?_
  by_cases hj:j=x
  ·rw[if_pos hj,if_pos (by omega),hj,←e];rfl
  ·rw[if_neg hj]
   by_cases b8:j<x
   ·rw[if_pos b8,if_pos (by omega)]
   ·rw[if_neg b8,if_neg (by omega)]
 ·simp only[HN,Ce,un]
  refine bF (bM (Nat.le_refl _)) ?_
  rw[bM (Nat.le_refl _)]
  have:(tab L fun j=>if j<L then nV (U.idxOf (sn n.E s j)) else nV 0)=tab L fun j=>nV (U.idxOf (sn n.E s j)):=fa fun j hj=>if_pos hj
  rw[this]
theorem NJ {i:Nat} (mF:i<(av L (sn n.E) n.st i).length) (hlen:(av L (sn n.E) n.st i).length≤512) {U:List Nat} (hp:av L (sn n.E) n.st (i+1) <+: U) {l1 l2 l3 l4:List V} (hl3:l3.length≤1000) (hl4:l4.length≤1000):
  xM CC (L:Int) 0 0 (L:Int) 0 l1 l2 ((i:Int),tV n L S,n.L,n.S,(n.st:Int),(n.fin:Int),n.E.map Ed.enc,U1 (av L (sn n.E) n.st i),uM (av L (sn n.E) n.st i),l3,l4)=
   if 512<(av L (sn n.E) n.st (i+1)).length then some (.inr (.inl (3,tV n L S,n.L,n.S,(n.st:Int),(n.fin:Int),n.E.map Ed.enc,0,0,[],[],[])))
   else some (.inl (((i+1:Nat):Int),tV n L S,n.L,n.S,(n.st:Int),(n.fin:Int),n.E.map Ed.enc,U1 (av L (sn n.E) n.st (i+1)),uM (av L (sn n.E) n.st (i+1)),l3++[V.bool (sf n.fin (av L (sn n.E) n.st i)[i])],l4++[V.list bt (tab L fun x=>nV (U.idxOf (sn n.E (av L (sn n.E) n.st i)[i] x)))])):=by
 have h6:=h.l6
 have hq:=sub_lt h i _ (List.getElem_mem mF)
 have mu:av L (sn n.E) n.st (i+1)=dy (sn n.E) (av L (sn n.E) n.st i) (av L (sn n.E) n.st i)[i] L:=VH (List.getElem?_eq_getElem mF)
 simp only[xM,Cf,un]
 refine bT (decide_eq_true (by rw[pI];omega)) ?_
 refine (Nm (agV mF)).trans ?_
 refine bT (mU (by omega) (by omega)) ?_
 refine bs (agZ h hq (by omega) (U:=U) (by rw[←mu];exact hp)) ?_
 rw[←mu]
 by_cases uf:512<(av L (sn n.E) n.st (i+1)).length
 ·rw[if_pos uf]
  refine bT (decide_eq_true (by rw[pI];omega)) ?_
  rfl
 ·rw[if_neg uf]
  refine bF (decide_eq_false (by rw[pI];omega)) ?_
  refine bT (cap (by simp;omega) (by omega)) ?_
  refine bs (agY h hq) ?_
  refine bT (cap (by simp;omega) (by omega)) ?_
  rw[dI (by omega)]
  rfl
theorem ag0 (hn: ¬iB n L S): ∃X,CC uE (nV L::uV n.st:: .list eG (tV n L S)::kS n [])=some ([nV L,nV 0,.int .i64 0,.list eG (tV n L S)]++(kS n []++[.list aD (iZ n L S).dg,.list aG (iZ n L S).cQ,X])):=by
 have h6:=h.l6
 have cK:=h.st
 have Xl:=h.pow
 have hd:(av L (sn n.E) n.st (2^S)).length≤2^S:=xN h _
 have hle: ∀i,(av L (sn n.E) n.st i).length≤(iA n L S).length:=agA hd
 have alG:(iA n L S).length≤512:=by unfold iB at hn;omega
 refine ⟨.list ct (U1 (iA n L S)),Xg ?_⟩
 unfold NG
 refine bs (Xi (x:=n.st) (by omega)) ?_
 have key:Loop (xM CC (L:Int) 0 0 (L:Int) 0 ([]:List V) ([]:List V)) (0,tV n L S,n.L,n.S,(n.st:Int),(n.fin:Int),n.E.map Ed.enc,U1 [n.st],uM [n.st],([]:List V),([]:List V))=
   some (.inr (((iA n L S).length:Int),false,tV n L S,n.L,n.S,(n.st:Int),(n.fin:Int),n.E.map Ed.enc,U1 (iA n L S),uM (iA n L S),(iZ n L S).dg,(iZ n L S).cQ)):=by
  refine (fu (iA n L S).length (fun i=>((i:Int),tV n L S,n.L,n.S,(n.st:Int),(n.fin:Int),n.E.map Ed.enc,U1 (av L (sn n.E) n.st i),uM (av L (sn n.E) n.st i),(tab i fun j=>V.bool ((iZ n L S).fin j)),(tab i fun j=>gN L ((iZ n L S).nx j)))) _ (fun i hi=> ?_) ?_)
  ·have mF:=G5 hd hi
   have hiK:i<2^S:=Nat.lt_of_lt_of_le hi hd
   have Nt:(av L (sn n.E) n.st i)[i]=(iA n L S)[i]:=(mP (show i≤2^S by omega)).getElem mF
   have alH:=hle (i+1)
   have alI:=hle i
   have:=NJ h mF (by omega) (U:=iA n L S) (mP (by omega)) (l1:=[]) (l2:=[]) (l3:=(tab i fun j=>V.bool ((iZ n L S).fin j))) (l4:=(tab i fun j=>gN L ((iZ n L S).nx j))) (by rw[ft];omega) (by rw[ft];omega)
   rw[if_neg (by omega),Nt] at this
   rw[this,rv,rv]
   have e1:(iZ n L S).fin i=sf n.fin (iA n L S)[i]:=Nd hi
   have e2:gN L ((iZ n L S).nx i)= .list bt (tab L fun x=>nV ((iA n L S).idxOf (sn n.E (iA n L S)[i] x))):=by
    unfold gN
    refine congrArg _ (fa fun x hx=> ?_)
    rw[show (iZ n L S).nx i x=_ from Bk hi hx];rfl
   rw[e1,e2]
  ·simp only[xM,Cf,un]
   rw[show av L (sn n.E) n.st (iA n L S).length=iA n L S from Nh hd,pI]
   refine bF (bM (Nat.le_refl _)) ?_
   rw[bM (Nat.le_refl _)]
   have e3:(iZ n L S).n=(iA n L S).length:=mQ
   unfold Da.dg Da.cQ
   rw[e3];rfl
 refine bs key ?_
 rfl
theorem ag1 (hn:iB n L S): ∃X,CC uE (nV L::uV n.st:: .list eG (tV n L S)::kS n [])=some ([nV 0,nV 0,.int .i64 3,.list eG (tV n L S)]++(kS n []++[.list aD [],.list aG [],X])):=by
 have h6:=h.l6
 have cK:=h.st
 have Xl:=h.pow
 obtain ⟨m,hm1,qk,hm3⟩:=agC (agB (show 512<(av L (sn n.E) n.st (2^S)).length from hn)) (by omega)
 refine ⟨.list ct [],Xg ?_⟩
 unfold NG
 refine bs (Xi (x:=n.st) (by omega)) ?_
 have key: ∃r,Loop (xM CC (L:Int) 0 0 (L:Int) 0 ([]:List V) ([]:List V)) (0,tV n L S,n.L,n.S,(n.st:Int),(n.fin:Int),n.E.map Ed.enc,U1 [n.st],uM [n.st],([]:List V),([]:List V))=some r∧r=(.inl (3,tV n L S,n.L,n.S,(n.st:Int),(n.fin:Int),n.E.map Ed.enc,0,0,[],[],[])):=by
  refine V1 (fun i st=> ∃l3 l4:List V,l3.length=i∧l4.length=i∧st=((i:Int),tV n L S,n.L,n.S,(n.st:Int),(n.fin:Int),n.E.map Ed.enc,U1 (av L (sn n.E) n.st i),uM (av L (sn n.E) n.st i),l3,l4)) _ m 0 _ (fun i _ hi st cK=> ?_) (fun st cK=> ?_) ⟨[],[],rfl,rfl,rfl⟩
  ·obtain ⟨l3,l4,e3,e4,rfl⟩:=cK
   obtain ⟨h1,h2⟩:=qk i (by omega)
   have h3:=(qk (i+1) (by omega)).2
   have:=NJ h h1 h2 (List.prefix_refl _) (l1:=[]) (l2:=[]) (l3:=l3) (l4:=l4) (by omega) (by omega)
   rw[if_neg (by omega)] at this
   exact ⟨_,this,_,_,by simp[e3],by simp[e4],rfl⟩
  ·obtain ⟨l3,l4,e3,e4,rfl⟩:=cK
   rw[Nat.zero_add] at*
   obtain ⟨h1,h2⟩:=qk m (by omega)
   have:=NJ h h1 h2 (List.prefix_refl _) (l1:=[]) (l2:=[]) (l3:=l3) (l4:=l4) (by omega) (by omega)
   rw[if_pos (by omega)] at this
   exact ⟨_,this,rfl⟩
 obtain ⟨r,h1,rfl⟩:=key
 refine bs h1 ?_
 rfl
theorem ag2 (hn: ¬iB n L S): ∃X,CC AD (kS n [])=some (Xk (iZ n L S) 0 (.list ct X)):=by
 obtain ⟨X,hX⟩:=ag0 h hn
 refine ⟨X.toList,Xh ?_⟩
 unfold NH
 have hv:=M0 n h.ok
 rw[h.code] at hv
 refine bs hv (bF rfl ?_)
 have hs:=Vv n h.ok h.good
 rw[h.lL,h.sS] at hs
 refine bs hs ?_
 refine bs ((congrArg (fun z=>CC uE (.int .i64 z::uV n.st:: .list eG (tV n L S)::kS n [])) h.hL).trans hX) ?_
 rfl
theorem ag3 (hn:iB n L S): ∃X,CC AD (kS n [])=some (Xk zD 3 (.list ct X)):=by
 obtain ⟨X,hX⟩:=ag1 h hn
 refine ⟨X.toList,Xh ?_⟩
 unfold NH
 have hv:=M0 n h.ok
 rw[h.code] at hv
 refine bs hv (bF rfl ?_)
 have hs:=Vv n h.ok h.good
 rw[h.lL,h.sS] at hs
 refine bs hs ?_
 refine bs ((congrArg (fun z=>CC uE (.int .i64 z::uV n.st:: .list eG (tV n L S)::kS n [])) h.hL).trans hX) ?_
 rfl
theorem xO (hn: ¬iB n L S):(iZ n L S).Ok:=by
 unfold iB at hn
 exact VM (xN h _) h.l1 h.l6 (show (iA n L S).length≤512 by omega)
theorem ag4 {w:List Nat} (hw:WL L w):(iZ n L S).acc 0 w=sf n.fin (w.foldl (sn n.E) n.st):=by
 have h1:=VL (fin:=sf n.fin) (xN h _) (Bh _) hw
 have h2:=VI (L:=L) (next:=sn n.E) (a0:=n.st) (2^S)
 rw[List.getElem?_eq_getElem (Bh _)] at h2
 rw[Option.some.inj h2] at h1
 exact h1
end
noncomputable abbrev Xm:Code:=ch Tryd.prog (aq.aO 106)
noncomputable def Cg (C:ae) (a b':List V) (t12 t13:Int) {β:Type} (kn:Int→Option β) (kr:((Bool) ⊕ (Int × Bool))→Option β):Option β:=
 bif decide ((t13:Int)<t12) then
  (idx a t13).bind fun x1=>
  (idx b' t13).bind fun x2=>
  bif (x1.toInt:Int) != x2.toInt then
  kr (.inl false)
  else
  kn (IntKind.wrap .i64 (t13+1))
 else
  kr (.inr (t13,decide ((t13:Int)<t12)))
noncomputable def NK (C:ae) (a b':List V) (t12:Int):(Int)→Option ((Int) ⊕ ((Bool) ⊕ (Int × Bool))):=fun t13=>Cg C a b' t12 t13 (fun y=>some (.inl y)) (fun r=>some (.inr r))
noncomputable def Xn (C:ae):b6:=fun β n ds k=>
 bif Nat.beq n 65 then bd LJ [false,false,false,true] [[0],[1,2,3,0,0]] (@Cg C) ds k else
 none
abbrev ag5 (C:ae) (b:bY):Prop:=bZ Tryd.prog aq C (Xn C) 106 (cm Tryd.prog (aq.aO 106)) (aq.sin 106).aW.length b
theorem ag6 (C:ae):ag5 C (.loop (an [1,1,0,1,0,0] Xm)):=
 bh LJ [false,false,false,true] [[0],[1,2,3,0,0]] (@Cg C) (by kernel_rfl) (aI (bs:=[]) (by kernel_rfl) ao) (fun ds=>by kernel_rfl) (fun i x=>by kernel_rfl) (fun i x β k=>by kernel_rfl) (fun β ds k=>by kernel_rfl)
noncomputable def Xo (C:ae) (a b':List V):Option (List V):=
 bif ((a.length:Int):Int) != (b'.length:Int) then
  some [.bool false]
 else
  (Loop (NK C a b' (a.length:Int)) 0).bind (cI (fun (jN:Bool)=>
   some [.bool jN]) (un fun (iX:Int) (lP:Bool)=>
   some [.bool true]))
theorem ag7 {a b':List V} {r:Option (List V)} (h:Xo CC a b'=r):CC Gu [.list bt a,.list bt b']=r:=
 bf (key:=106) (L:=Xn CC) (bs:=[.loop (an [1,1,0,1,0,0] Xm)]) (by kernel_rfl) (aU (ag6 CC) ao) (Eq.trans (by kernel_rfl) h)
noncomputable abbrev Xp:Code:=ch Tryd.prog (aq.aO 104)
noncomputable def Ch (C:ae) (t13:List V) (t14 t15:Int) (rG outs:List V) {β:Type} (kn:(Int × (List V) × (List V))→Option β) (kr:(Int × Bool × (List V) × (List V))→Option β):Option β:=
 bif decide ((t15:Int)<t14) then
  (idx t13 t15).bind fun x1=>
  bif dA .i64 x1.toInt&&true then
  bif !(gH (.int .i64 x1.toInt) rG) then
   bif dA .i64 x1.toInt&&true then
   bif (decide (0≤t15))&&(decide (t15<(outs.length:Int))) then
    (outs[(t15:Int).toNat]?).bind fun x2=>
    kn (IntKind.wrap .i64 (t15+1),fI (.int .i64 x1.toInt) (.int .i64 (rG.length:Int)) rG,outs.set ((t15:Int).toNat) (.int .i64 (rG.length:Int)))
   else none
   else none
  else
   bif (decide (0≤t15))&&(decide (t15<(outs.length:Int))) then
   (outs[(t15:Int).toNat]?).bind fun x3=>
   kn (IntKind.wrap .i64 (t15+1),rG,outs.set ((t15:Int).toNat) (.int .i64 ((jh (.int .i64 x1.toInt) rG (.int .i64 0)).toInt)))
   else none
  else none
 else
  kr (t15,decide ((t15:Int)<t14),rG,outs)
noncomputable def NL (C:ae) (t13:List V) (t14:Int):(Int × (List V) × (List V))→Option ((Int × (List V) × (List V)) ⊕ (Int × Bool × (List V) × (List V))):=un fun t15=>un fun rG outs=>Ch C t13 t14 t15 rG outs (fun y=>some (.inl y)) (fun r=>some (.inr r))
noncomputable def Xq (C:ae):b6:=fun β n ds k=>
 bif Nat.beq n 65 then bd LH [false,false,true,true,true] [[1,2,0,0,0,0]] (@Ch C) ds k else
 none
abbrev ag8 (C:ae) (b:bY):Prop:=bZ Tryd.prog aq C (Xq C) 104 (cm Tryd.prog (aq.aO 104)) (aq.sin 104).aW.length b
theorem ag9 (C:ae):ag8 C (.loop (an [1,1,1,0,1,0,0] Xp)):=
 bh LH [false,false,true,true,true] [[1,2,0,0,0,0]] (@Ch C) (by kernel_rfl) (aI (bs:=[]) (by kernel_rfl) ao) (fun ds=>by kernel_rfl) (fun i x=>by kernel_rfl) (fun i x β k=>by kernel_rfl) (fun β ds k=>by kernel_rfl)
noncomputable def Xr (C:ae) (l:List V):Option (List V):=
 bif (decide (0≤(l.length:Int)))&&((decide ((l.length:Int)≤(l.length:Int)))&&(Nat.ble ((((l.length:Int):Int).toNat)*8) cg)) then
  (Loop (NL C l (l.length:Int)) (0,([]:List V),List.replicate (((l.length:Int):Int).toNat) (V.int .i64 0))).bind (un fun (iX:Int)=>un fun (lP:Bool)=>un fun (alJ:List V) (aha:List V)=>
   some [.list bt aha])
 else none
theorem ahb {l:List V} {r:Option (List V)} (h:Xr CC l=r):CC AF [.list bt l]=r:=
 bf (key:=104) (L:=Xq CC) (bs:=[.loop (an [1,1,1,0,1,0,0] Xp)]) (by kernel_rfl) (aU (ag9 CC) ao) (Eq.trans (by kernel_rfl) h)
noncomputable abbrev Xs:Code:=ch Tryd.prog (aq.aO 105)
noncomputable def Ci (C:ae) (p q:List V) (t11 t12:Int) (outs:List V) {β:Type} (kn:(Int × (List V))→Option β) (kr:(Int × Bool × (List V))→Option β):Option β:=
 bif decide ((t12:Int)<t11) then
  (idx p t12).bind fun x1=>
  (idx q t12).bind fun x2=>
  bif (decide (0≤t12))&&(decide (t12<(outs.length:Int))) then
  (outs[(t12:Int).toNat]?).bind fun x3=>
  kn (IntKind.wrap .i64 (t12+1),outs.set ((t12:Int).toNat) (.int .i64 (IntKind.wrap .i64 ((IntKind.wrap .i64 ((IntKind.wrap .i64 ((p.length:Int)+1))*x1.toInt))+x2.toInt))))
  else none
 else
  kr (t12,decide ((t12:Int)<t11),outs)
noncomputable def NM (C:ae) (p q:List V) (t11:Int):(Int × (List V))→Option ((Int × (List V)) ⊕ (Int × Bool × (List V))):=un fun t12 outs=>Ci C p q t11 t12 outs (fun y=>some (.inl y)) (fun r=>some (.inr r))
noncomputable def Xt (C:ae):b6:=fun β n ds k=>
 bif Nat.beq n 49 then bd LI [false,false,false,true,true] [[1,2,3,0,0,0]] (@Ci C) ds k else
 none
abbrev ahc (C:ae) (b:bY):Prop:=bZ Tryd.prog aq C (Xt C) 105 (cm Tryd.prog (aq.aO 105)) (aq.sin 105).aW.length b
theorem ahd (C:ae):ahc C (.loop (an [1,1,0,1,0,0] Xs)):=
 bh LI [false,false,false,true,true] [[1,2,3,0,0,0]] (@Ci C) (by kernel_rfl) (aI (bs:=[]) (by kernel_rfl) ao) (fun ds=>by kernel_rfl) (fun i x=>by kernel_rfl) (fun i x β k=>by kernel_rfl) (fun β ds k=>by kernel_rfl)
noncomputable def Xu (C:ae) (p q:List V):Option (List V):=
 bif (decide (0≤(p.length:Int)))&&((decide ((p.length:Int)≤(p.length:Int)))&&(Nat.ble ((((p.length:Int):Int).toNat)*8) cg)) then
  (Loop (NM C p q (p.length:Int)) (0,List.replicate (((p.length:Int):Int).toNat) (V.int .i64 0))).bind (un fun (iX:Int)=>un fun (lP:Bool) (ahe:List V)=>
   (C AF [.list bt ahe]).bind fun r7=>
   some [.list bt ((V.nth r7 0).toList)])
 else none
theorem ahf {p q:List V} {r:Option (List V)} (h:Xu CC p q=r):CC Gt [.list bt p,.list bt q]=r:=
 bf (key:=105) (L:=Xt CC) (bs:=[.loop (an [1,1,0,1,0,0] Xs)]) (by kernel_rfl) (aU (ahd CC) ao) (Eq.trans (by kernel_rfl) h)
noncomputable abbrev s6:Code:=ch Tryd.prog (aq.aO 84)
noncomputable def Cj (C:ae) (t14 bc bn:Int) (bA bz:List V) (t15:Int) (ps:List V) {β:Type} (kn:(Int × (List V))→Option β) (kr:(Int × Bool × (List V))→Option β):Option β:=
 bif decide ((t15:Int)<t14) then
  (idx bA t15).bind fun x1=>
  bif x1.toBool then
  bif (decide (0≤t15))&&(decide (t15<(ps.length:Int))) then
   (ps[(t15:Int).toNat]?).bind fun x2=>
   kn (IntKind.wrap .i64 (t15+1),ps.set ((t15:Int).toNat) (.int .i64 1))
  else none
  else
  kn (IntKind.wrap .i64 (t15+1),ps)
 else
  kr (t15,decide ((t15:Int)<t14),ps)
noncomputable def NN (C:ae) (t14 bc bn:Int) (bA bz:List V):(Int × (List V))→Option ((Int × (List V)) ⊕ (Int × Bool × (List V))):=un fun t15 ps=>Cj C t14 bc bn bA bz t15 ps (fun y=>some (.inl y)) (fun r=>some (.inr r))
noncomputable def Ck (C:ae) (p next':List V) (x t37 bc bn:Int) (bA bz:List V) (t38:Int) (Cl:List V) {β:Type} (kn:(Int × (List V))→Option β) (kr:(Int × Bool × (List V))→Option β):Option β:=
 bif decide ((t38:Int)<t37) then
  (idx bz t38).bind fun x7=>
  (idx x7.toList x).bind fun x8=>
  (idx p x8.toInt).bind fun x9=>
  bif Nat.ble ((Cl.length+([.int .i64 x9.toInt]:List V).length)*8) cg then
  kn (IntKind.wrap .i64 (t38+1),Cl++([.int .i64 x9.toInt]:List V))
  else none
 else
  kr (t38,decide ((t38:Int)<t37),Cl)
noncomputable def HP (C:ae) (p next':List V) (x t37 bc bn:Int) (bA bz:List V):(Int × (List V))→Option ((Int × (List V)) ⊕ (Int × Bool × (List V))):=un fun t38 Cl=>Ck C p next' x t37 bc bn bA bz t38 Cl (fun y=>some (.inl y)) (fun r=>some (.inr r))
noncomputable def Cm (C:ae) (p:List V) (bc bn:Int) (bA bz next':List V) (x:Int) {β:Type} (kn:((List V) × Int)→Option β) (kr:((List V) × Int × Bool)→Option β):Option β:=
 bif decide ((x:Int)<bc) then
  (Loop (HP C p next' x (p.length:Int) bc bn bA bz) (0,([]:List V))).bind (un fun (Ns:Int)=>un fun (NO:Bool) (ahg:List V)=>
   (C Gt [.list bt next',.list bt ahg]).bind fun NQ=>
   kn ((V.nth NQ 0).toList,IntKind.wrap .i64 (x+1)))
 else
  kr (next',x,decide ((x:Int)<bc))
noncomputable def HQ (C:ae) (p:List V) (bc bn:Int) (bA bz:List V):((List V) × Int)→Option (((List V) × Int) ⊕ ((List V) × Int × Bool)):=un fun next' x=>Cm C p bc bn bA bz next' x (fun y=>some (.inl y)) (fun r=>some (.inr r))
noncomputable def Cn (C:ae) (bc bn:Int) (bA bz p:List V) {β:Type} (kn:List V→Option β) (kr:(List V)→Option β):Option β:=
 (Loop (HQ C p bc bn bA bz) (p,0)).bind (un fun (Xv:List V)=>un fun (alK:Int) (Hm:Bool)=>
  (C Gu [.list bt Xv,.list bt p]).bind fun cb=>
  bif (V.nth cb 0).toBool then
   kr p
  else
   kn Xv)
noncomputable def Co (C:ae) (bc bn:Int) (bA bz:List V):(List V)→Option ((List V) ⊕ (List V)):=fun p=>Cn C bc bn bA bz p (fun y=>some (.inl y)) (fun r=>some (.inr r))
noncomputable def Xw (C:ae):b6:=fun β n ds k=>
 bif Nat.beq n 49 then bd Lt [false,true,false,false,false,false,true] [[1,0,0,3,4,5,6,0]] (@Cj C) ds k else
 bif Nat.beq n 241 then bd Lu [false,false,false,false,true,false,false,false,false,true] [[1,2,3,4,0,0,6,7,8,9,0]] (@Ck C) ds k else
 bif Nat.beq n 177 then bd Lv [false,true,true,false,false,false,false] [[1,0,0,0,4,5,6,7]] (@Cm C) ds k else
 bif Nat.beq n 145 then bd Lw [true,false,false,false,false] [[0]] (@Cn C) ds k else
 none
abbrev HR (C:ae) (b:bY):Prop:=bZ Tryd.prog aq C (Xw C) 84 (cm Tryd.prog (aq.aO 84)) (aq.sin 84).aW.length b
theorem ahh (C:ae):HR C (.loop (an [1,1,0,1,0,0] s6)):=
 bh Lt [false,true,false,false,false,false,true] [[1,0,0,3,4,5,6,0]] (@Cj C) (by kernel_rfl) (aI (bs:=[]) (by kernel_rfl) ao) (fun ds=>by kernel_rfl) (fun i x=>by kernel_rfl) (fun i x β k=>by kernel_rfl) (fun β ds k=>by kernel_rfl)
theorem ahi (C:ae):HR C (.loop (an [1,1,1,1,0,0,0,1,0,1,0,0,1,0,0,1,0,1,0,0] s6)):=
 bh Lu [false,false,false,false,true,false,false,false,false,true] [[1,2,3,4,0,0,6,7,8,9,0]] (@Ck C) (by kernel_rfl) (aI (bs:=[]) (by kernel_rfl) ao) (fun ds=>by kernel_rfl) (fun i x=>by kernel_rfl) (fun i x β k=>by kernel_rfl) (fun β ds k=>by kernel_rfl)
theorem ahj (C:ae):HR C (.loop (an [1,1,1,1,0,0,0,1,0,1,0,0] s6)):=
 bh Lv [false,true,true,false,false,false,false] [[1,0,0,0,4,5,6,7]] (@Cm C) (by kernel_rfl) (aI (bs:=[.loop (an [1,1,1,1,0,0,0,1,0,1,0,0,1,0,0,1,0,1,0,0] s6)]) (by kernel_rfl) (aU (ahi C) ao)) (fun ds=>by kernel_rfl) (fun i x=>by kernel_rfl) (fun i x β k=>by kernel_rfl) (fun β ds k=>by kernel_rfl)
theorem ahk (C:ae):HR C (.loop (an [1,1,1,1,0,0] s6)):=
 bh Lw [true,false,false,false,false] [[0]] (@Cn C) (by kernel_rfl) (aI (bs:=[.loop (an [1,1,1,1,0,0,0,1,0,1,0,0] s6)]) (by kernel_rfl) (aU (ahj C) ao)) (fun ds=>by kernel_rfl) (fun i x=>by kernel_rfl) (fun i x β k=>by kernel_rfl) (fun β ds k=>by kernel_rfl)
noncomputable def Xx (C:ae) (aJ aP:Int) (aF aM:List V):Option (List V):=
 bif (decide (0≤(aF.length:Int)))&&((decide ((aF.length:Int)≤(aF.length:Int)))&&(Nat.ble ((((aF.length:Int):Int).toNat)*8) cg)) then
  (Loop (NN C ((List.replicate (((aF.length:Int):Int).toNat) (V.int .i64 0)).length:Int) aJ aP aF aM) (0,List.replicate (((aF.length:Int):Int).toNat) (V.int .i64 0))).bind (un fun (jN:Int)=>un fun (iX:Bool) (ahl:List V)=>
   (C AF [.list bt ahl]).bind fun r6=>
   (Loop (Co C aJ aP aF aM) ((V.nth r6 0).toList)).bind (fun (NR:List V)=>
    some [.list bt NR]))
 else none
theorem ahm {aJ aP:Int} {aF aM:List V} {r:Option (List V)} (h:Xx CC aJ aP aF aM=r):CC KF [.int .i64 aJ,.int .i64 aP,.list aD aF,.list aG aM]=r:=
 bf (key:=84) (L:=Xw CC) (bs:=[.loop (an [1,1,0,1,0,0] s6),.loop (an [1,1,1,1,0,0] s6)]) (by kernel_rfl) (aU (ahh CC) (aU (ahk CC) ao)) (Eq.trans (by kernel_rfl) h)
theorem xP {n:Nat} {c:Nat→Nat}:(cV n c).length=n:=by simp[cV]
theorem xQ {n q:Nat} {c:Nat→Nat} (h:q<n):idx (cV n c) (q:Int)=some (nV (c q)):=pN h
theorem xR {n q:Nat} {f:Nat→V} {z v:V} (hv:v=f q):(tab n fun j=>if j<q then f j else z).set q v=tab n fun j=>if j<q+1 then f j else z:=by
 rw[hv,ru]
 refine fa fun j _=> ?_
 by_cases hj:j=q
 ·rw[if_pos hj,if_pos (by omega),hj]
 ·rw[if_neg hj]
  by_cases b8:j<q
  ·rw[if_pos b8,if_pos (by omega)]
  ·rw[if_neg b8,if_neg (by omega)]
theorem Cp {n:Nat} {f:Nat→V} {z:V}:(tab n fun j=>if j<n then f j else z)=tab n f:=fa fun j hj=>if_pos hj
theorem Xy {n:Nat} {g:Nat→Nat} (hn:n≤1000) (hg: ∀q,q<n→g q≤1000000000):CC AF [.list bt (cV n g)]=some [.list bt (cV n (cz g n))]:=by
 refine ahb ?_
 unfold Xr
 rw[xP]
 refine bT (mU (by omega) (by omega)) ?_
 rw[Int.toNat_natCast,nM]
 refine bs (fu n (fun i=>((i:Int),fR nV 0 (aV g i),(tab n fun q=>if q<i then nV (cz g n q) else nV 0))) ((n:Int),false,fR nV 0 (aV g n),cV n (cz g n)) (fun q hq=> ?_) ?_) ?_
 ·have hle:=rD g q
  simp only[NL,Ch,un]
  refine bT (er hq) ?_
  refine bs (xQ hq) ?_
  have hk:dA .i64 (g q:Int)=true:=Hi (by have:=hg q hq;omega)
  refine bT (by simp only[nV,V.toInt_int,hk,Bool.and_self]) ?_
  have e1:=Bw xB (g q) (aV g q) 0
  rw[dI (by omega)]
  simp only[nV,V.toInt_int]
  rw[show (V.int .i64 (g q:Int))=nV (g q) from rfl]
  by_cases hx:g q∈aV g q
  ·refine bF (by rw[show gH (nV (g q)) _=_ from e1];simpa using hx) ?_
   refine (fQ hq).trans ?_
   have e2:=Bx xB (g q) (.int .i64 0) (aV g q) 0 hx
   rw[Nat.zero_add,←WD hq hx] at e2
   rw[show jh (nV (g q)) _ (.int .i64 0)=_ from e2,V.toInt_int,Int.toNat_natCast,Nv hx]
   exact congrArg (fun x=>some (Sum.inl (((q+1:Nat):Int),fR nV 0 (aV g q),x))) (xR (f:=fun j=>nV (cz g n j)) rfl)
  ·refine bT (by rw[show gH (nV (g q)) _=_ from e1];simpa using hx) ?_
   refine bT (by simp only[hk,Bool.and_self]) ?_
   refine (fQ hq).trans ?_
   have e2:=By xB (g q) (aV g q) 0 hx
   rw[Nat.zero_add] at e2
   rw[show List.length (fR nV 0 (aV g q))=(aV g q).length from xA _ _,show fI (nV (g q)) _ _=_ from e2,Int.toNat_natCast,←WE hq hx,Nw hx]
   exact congrArg (fun x=>some (Sum.inl (((q+1:Nat):Int),fR nV 0 (aV g q++[g q]),x))) (xR (f:=fun j=>nV (cz g n j)) rfl)
 ·simp only[NL,Ch,un]
  refine bF (bM (Nat.le_refl _)) ?_
  rw[bM (Nat.le_refl _)]
  exact congrArg (fun x=>some (Sum.inr ((n:Int),false,fR nV 0 (aV g n),x))) (Cp (f:=fun j=>nV (cz g n j)))
 ·rfl
def kY (n:Nat) (p q:Nat→Nat) (i:Nat):Nat:=p i*(n+1)+q i
theorem ahn {n:Nat} {p q:Nat→Nat} (hn:n≤512) (hp: ∀i,i<n→p i≤1000) (hq: ∀i,i<n→q i≤1000):CC Gt [.list bt (cV n p),.list bt (cV n q)]=some [.list bt (cV n (cz (kY n p q) n))]:=by
 have hb: ∀i,i<n→kY n p q i≤1000000000:=fun i hi=>by
  have h1:=hp i hi
  have h2:=hq i hi
  have:=Nat.mul_le_mul h1 (show n+1≤513 by omega)
  unfold kY
  omega
 refine ahf ?_
 unfold Xu
 rw[xP]
 refine bT (mU (by omega) (by omega)) ?_
 rw[Int.toNat_natCast,nM]
 refine bs (fu n (fun i=>((i:Int),(tab n fun j=>if j<i then nV (kY n p q j) else nV 0))) ((n:Int),false,cV n (kY n p q)) (fun i hi=> ?_) ?_) ?_
 ·simp only[NM,Ci,un]
  refine bT (er hi) ?_
  refine bs (xQ hi) ?_
  refine bs (xQ hi) ?_
  refine (fQ hi).trans ?_
  have h1:=hp i hi
  have h2:=hq i hi
  have h3:=hb i hi
  have h4:IntKind.wrap .i64 ((IntKind.wrap .i64 ((IntKind.wrap .i64 (((cV n p).length:Int)+1))*(p i:Int)))+(q i:Int))=(kY n p q i:Int):=by
   rw[xP,dI (by omega)]
   have e:((n+1:Nat):Int)*(p i:Int)=((p i*(n+1):Nat):Int):=by rw[Nat.mul_comm];push_cast;rfl
   unfold kY at*
   rw[e]
   have h5:p i*(n+1)≤1000000000:=by omega
   generalize p i*(n+1)=z at*
   rw[wrap64 (x:=(z:Int)) (by omega) (by omega),wrap64 (by omega) (by omega)]
   push_cast;rfl
  simp only[nV,V.toInt_int]
  rw[h4,dI (by omega),Int.toNat_natCast]
  exact congrArg (fun x=>some (Sum.inl (((i+1:Nat):Int),x))) (xR (f:=fun j=>nV (kY n p q j)) rfl)
 ·simp only[NM,Ci,un]
  refine bF (bM (Nat.le_refl _)) ?_
  rw[bM (Nat.le_refl _)]
  exact congrArg (fun x=>some (Sum.inr ((n:Int),false,x))) (Cp (f:=fun j=>nV (kY n p q j)))
 ·simp only[un]
  refine bs (Xy (by omega) hb) ?_
  rfl
theorem Xz {n:Nat} {p q:Nat→Nat} (hn:n≤1000):CC Gu [.list bt (cV n p),.list bt (cV n q)]=some [.bool (decide (∀i,i<n→p i=q i))]:=by
 refine ag7 ?_
 unfold Xo
 rw[xP,xP]
 refine bF (by simp) ?_
 refine bs (rh (fun i=>p i=q i) n (fun i=>(i:Int)) (.inl false:Bool ⊕ (Int × Bool)) (.inr ((n:Int),false)) (fun i hi=> ?_) ?_) ?_
 ·simp only[NK,Cg]
  refine bT (er hi) ?_
  refine bs (xQ hi) ?_
  refine bs (xQ hi) ?_
  simp only[nV,V.toInt_int]
  by_cases h:p i=q i
  ·refine bF (by simp[h]) ?_
   rw[if_pos h,dI (by omega)]
  ·refine bT (by simp;omega) ?_
   rw[if_neg h]
 ·simp only[NK,Cg]
  refine bF (bM (Nat.le_refl _)) ?_
  rw[bM (Nat.le_refl _)]
 ·by_cases h: ∀i,i<n→p i=q i
  ·rw[if_pos h,decide_eq_true h];rfl
  ·rw[if_neg h,decide_eq_false h];rfl
theorem aho {n:Nat} {p q:Nat→Nat} {i j:Nat} (hi:q i≤n) (hj:q j≤n):kY n p q i=kY n p q j↔p i=p j∧q i=q j:=by
 unfold kY
 constructor
 ·intro h
  have h1:(p i*(n+1)+q i)/(n+1)=p i:=by rw[Nat.mul_comm,Nat.mul_add_div (by omega),Nat.div_eq_of_lt (by omega)];rfl
  have h2:(p j*(n+1)+q j)/(n+1)=p j:=by rw[Nat.mul_comm,Nat.mul_add_div (by omega),Nat.div_eq_of_lt (by omega)];rfl
  have h3:p i=p j:=by rw[←h1,←h2,h]
  rw[h3] at h
  exact ⟨h3,by omega⟩
 ·rintro ⟨h1,h2⟩
  rw[h1,h2]
section
variable {a:Da} (h:a.Ok)
def jx (a:Da) (c:Nat→Nat):Nat→Nat→Nat
 | 0=>c
 | x+1=>cz (kY a.n (jx a c x) fun q=>c (a.nx q x)) a.n
theorem XA {c:Nat→Nat} (hc: ∀q,q<a.n→c q<a.n): ∀x q,q<a.n→jx a c x q<a.n
 | 0,q,hq=>hc q hq
 | x+1,q,hq=>by
  have h1:=BK (g:=kY a.n (jx a c x) fun q=>c (a.nx q x)) hq
  have h2:=rD (kY a.n (jx a c x) fun q=>c (a.nx q x)) a.n
  show cz _ _ _<_
  omega
include h
theorem ahp {c:Nat→Nat} (hc: ∀q,q<a.n→c q<a.n): ∀x,x≤a.L→∀q q',q<a.n→q'<a.n→(jx a c x q=jx a c x q'↔c q=c q'∧∀y,y<x→c (a.nx q y)=c (a.nx q' y)):=by
 intro x
 induction x with
 | zero=>intro _ q q' _ _;exact ⟨fun e=>⟨e,fun y hy=>by omega⟩,fun e=>e.1⟩
 | succ x ih=>
  intro hx q q' hq ca
  show cz _ _ _=cz _ _ _↔_
  rw[BL hq ca,aho (by have:=hc _ (h.gk hq (show x<a.L by omega));omega) (by have:=hc _ (h.gk ca (show x<a.L by omega));omega),ih (by omega) q q' hq ca]
  constructor
  ·rintro ⟨⟨e1,e2⟩,e3⟩
   refine ⟨e1,fun y hy=> ?_⟩
   rcases Nat.lt_or_ge y x with c1|c1
   ·exact e2 y c1
   ·rw[show y=x by omega];exact e3
  ·rintro ⟨e1,e2⟩
   exact ⟨⟨e1,fun y hy=>e2 y (by omega)⟩,e2 x (by omega)⟩
theorem ahq {c:Nat→Nat} {x:Nat} (hx:x<a.L) {k1 k2:Int} {l1 l2:List V}:
  Loop (HP CC (cV a.n c) l1 (x:Int) ((cV a.n c).length:Int) k1 k2 l2 a.cQ) (0,([]:List V))=some ((a.n:Int),false,cV a.n fun q=>c (a.nx q x)):=by
 have hm:=h.eP
 rw[xP]
 refine (fu a.n (fun t=>((t:Int),(tab t fun q=>nV (c (a.nx q x))))) _ (fun q hq=> ?_) ?_)
 ·simp only[HP,Ck,un]
  refine bT (er hq) ?_
  refine bs (Da.rz hq) ?_
  simp only[sY]
  refine bs (uT hx) ?_
  refine bs (xQ (h.gk hq hx)) ?_
  refine bT (cap (by rw[ft];simp;omega) (by omega)) ?_
  rw[dI (by omega),rv]
  rfl
 ·simp only[HP,Ck,un]
  refine bF (bM (Nat.le_refl _)) ?_
  rw[bM (Nat.le_refl _)]
  rfl
theorem XB {c:Nat→Nat} (hc: ∀q,q<a.n→c q<a.n) {k2:Int} {l2:List V}:
  Loop (HQ CC (cV a.n c) (a.L:Int) k2 l2 a.cQ) (cV a.n c,0)=some (cV a.n (jx a c a.L),(a.L:Int),false):=by
 have hm:=h.eP
 have h6:=h.l6
 refine (fu a.L (fun x=>(cV a.n (jx a c x),(x:Int))) _ (fun x hx=> ?_) ?_)
 ·simp only[HQ,Cm,un]
  refine bT (er hx) ?_
  refine bs (ahq h hx) ?_
  refine bs (ahn hm (fun q hq=>by have:=XA hc x q hq;omega) fun q hq=>by have:=hc _ (h.gk hq hx);omega) ?_
  rw[dI (by omega)]
  rfl
 ·simp only[HQ,Cm,un]
  refine bF (bM (Nat.le_refl _)) ?_
  rw[bM (Nat.le_refl _)]
theorem ahr {c0:Nat→Nat} (hp0:a.Part c0) (ho0:oI c0 a.n) (Fb: ∀q,q<a.n→c0 q<a.n) {k2:Int} {l2:List V}: ∃p,Loop (Co CC (a.L:Int) k2 l2 a.cQ) (cV a.n c0)=some (cV a.n p)∧a.uX p∧∀q,q<a.n→p q<a.n:=by
 have hm:=h.eP
 have:=Tl (step:=Co CC (a.L:Int) k2 l2 a.cQ)
  (fun x=> ∃c,x=cV a.n c∧a.Part c∧oI c a.n∧∀q,q<a.n→c q<a.n)
  (fun x=>a.n-(aV (fun q=>(x.getD q (nV 0)).toInt) a.n).length)
  (fun r=> ∃p,r=cV a.n p∧a.uX p∧∀q,q<a.n→p q<a.n) (fun x hx=> ?_) (cV a.n c0) ⟨c0,rfl,hp0,ho0,Fb⟩
 ·obtain ⟨r,h1,p,rfl,h2,h3⟩:=this
  exact ⟨p,h1,h2,h3⟩
 ·obtain ⟨c,rfl,hp,ho,hc⟩:=hx
  have jw:a.Hr c (jx a c a.L):=fun q q' hq ca=>(ahp h hc a.L (Nat.le_refl _) q q' hq ca).trans Da.uW.symm
  have hb:=XA hc a.L
  have u3: ∀q q',q<a.n→q'<a.n→jx a c a.L q=jx a c a.L q'→c q=c q':=fun q q' hq ca e=>(Da.uW.1 ((jw q q' hq ca).1 e)).1
  have jn:oI (jx a c a.L) a.n:=by
   have h1:=h.l1
   obtain ⟨m,hm⟩: ∃m,a.L=m+1:=⟨a.L-1,by omega⟩
   rw[hm]
   exact Nx _ _
  by_cases he: ∀q,q<a.n→jx a c a.L q=c q
  ·right
   refine ⟨_,?_,c,rfl,⟨hp.WI h fun q q' hq ca e=>(jw q q' hq ca).1 (by rw[he q hq,he q' ca,e]),ho⟩,hc⟩
   simp only[Co,Cn,un]
   refine bs (XB h hc) ?_
   refine bs (Xz (by omega)) ?_
   refine bT (by simpa using he) ?_
   rfl
  ·left
   refine ⟨cV a.n (jx a c a.L),?_,⟨jx a c a.L,rfl,jw.part h hp,jn,hb⟩,?_⟩
   ·simp only[Co,Cn,un]
    refine bs (XB h hc) ?_
    refine bs (Xz (by omega)) ?_
    refine bF (by rw[V.ba,V.iS];exact decide_eq_false he) ?_
    rfl
   ·have ec: ∀d:Nat→Nat,(aV (fun q=>((cV a.n d).getD q (nV 0)).toInt) a.n).length=(aV d a.n).length:=fun d=>by
     have key: ∀m,m≤a.n→aV (fun q=>((cV a.n d).getD q (nV 0)).toInt) m=(aV d m).map fun n:Nat=>(n:Int):=by
      intro m
      induction m with
      | zero=>intro _;rfl
      | succ m ih=>
       intro hm
       have e:((cV a.n d).getD m (nV 0)).toInt=(d m:Int):=by unfold cV;rw[rq (by omega)];rfl
       rw[aV,aV,ih (by omega),e]
       unfold dr
       by_cases hx:d m∈aV d m
       ·rw[if_pos hx,if_pos (List.mem_map.2 ⟨d m,hx,rfl⟩)]
       ·rw[if_neg hx,if_neg]
        ·simp
        ·intro h2
         obtain ⟨y,h3,h4⟩:=List.mem_map.1 h2
         exact hx ((show y=d m by omega)▸h3)
     rw[key a.n (Nat.le_refl _),List.length_map]
    simp only[ec]
    have agj:=WH u3
    have hle:=rD (jx a c a.L) a.n
    have bP:(aV c a.n).length≠(aV (jx a c a.L) a.n).length:=by
     intro e
     have cK:=Ny u3 (by omega)
     refine he fun q hq=> ?_
     have h1:=af2 (f:=jx a c a.L) (c:=c) (fun s s' hs sH=>⟨u3 s s' hs sH,cK s s' hs sH⟩) q hq
     have own: ∀(d:Nat→Nat),oI d a.n→cz d a.n q=d q:=fun d hd=>by
      have h2:d q∈aV d a.n:=iY.2 ⟨q,hq,rfl⟩
      unfold cz
      rw[hd a.n (Nat.le_refl _)] at h2⊢
      have h3:=List.mem_range.1 h2
      have h4:=(List.nodup_range (n:=(aV d a.n).length)).idxOf_getElem (d q) (by rw[List.length_range];exact h3)
      rwa [List.getElem_range] at h4
     rw[own _ jn,own _ ho] at h1
     exact h1
    omega
theorem ahs: ∃p,CC KF (eI a)=some [.list bt (cV a.n p)]∧a.uX p∧∀q,q<a.n→p q<a.n:=by
 have hm:=h.eP
 have hf0: ∀q,q<a.n→(if a.fin q=true then 1 else 0)≤1000000000:=fun q _=>by split<;>omega
 have hb: ∀q,q<a.n→cz (fun q=>if a.fin q=true then 1 else 0) a.n q<a.n:=fun q hq=>by
  have h1:=BK (g:=fun q=>if a.fin q=true then 1 else 0) hq
  have h2:=rD (fun q=>if a.fin q=true then 1 else 0) a.n
  omega
 obtain ⟨p,h1,h2,h3⟩:=ahr h (c0:=cz (fun q=>if a.fin q=true then 1 else 0) a.n)
  ⟨fun q q' hq ca he=>(BL hq ca).2 (by have:=he [] WL.nil;rw[Da.nL,Da.nL] at this;rw[this]),
   fun q q' hq ca he=>by
   have h1:=(BL hq ca).1 he
   revert h1
   cases a.fin q<;>cases a.fin q'<;>simp⟩ (Nx _ _) hb (k2:=(a.st:Int)) (l2:=a.dg)
 refine ⟨p,ahm ?_,h2,h3⟩
 unfold Xx
 rw[Da.pO]
 refine bT (mU (by omega) (by omega)) ?_
 rw[Int.toNat_natCast,nM,ft]
 refine bs (fu a.n (fun i=>((i:Int),(tab a.n fun j=>if j<i then nV (if a.fin j=true then 1 else 0) else nV 0))) ((a.n:Int),false,cV a.n fun q=>if a.fin q=true then 1 else 0) (fun q hq=> ?_) ?_) ?_
 ·simp only[NN,Cj,un]
  refine bT (er hq) ?_
  refine bs (Da.xz hq) ?_
  rw[dI (by omega),V.iS]
  cases hf:a.fin q with
  | true=>
   refine bT rfl ?_
   refine (fQ hq).trans ?_
   rw[Int.toNat_natCast]
   exact congrArg (fun x=>some (Sum.inl (((q+1:Nat):Int),x))) (xR (f:=fun j=>nV (if a.fin j=true then 1 else 0)) (by rw[hf];rfl))
  | false=>
   refine bF rfl ?_
   refine congrArg (fun x=>some (Sum.inl (((q+1:Nat):Int),x))) (fa fun j _=> ?_)
   by_cases hj:j=q
   ·rw[if_neg (show¬j<q by omega),if_pos (show j<q+1 by omega),hj,hf];rfl
   ·by_cases b8:j<q
    ·rw[if_pos b8,if_pos (show j<q+1 by omega)]
    ·rw[if_neg b8,if_neg (show¬j<q+1 by omega)]
 ·simp only[NN,Cj,un]
  refine bF (bM (Nat.le_refl _)) ?_
  rw[bM (Nat.le_refl _)]
  exact congrArg (fun x=>some (Sum.inr ((a.n:Int),false,x))) (Cp (f:=fun j=>nV (if a.fin j=true then 1 else 0)))
 ·simp only[un]
  refine bs (Xy (by omega) hf0) ?_
  refine bs h1 ?_
  rfl
end
end Go.AM
set_option maxRecDepth 100000
namespace Go.AM
open Go.Proofs Go.Sort
section
variable {α:Type} {enc:α→V}
def oJ (enc:α→V) (d:Array α):List V:=d.toList.map enc
theorem cR (d:Array α):(oJ enc d).length=d.size:=by simp[oJ]
theorem cS (d:Array α) (i:Nat) (x:α):(oJ enc d).set i (enc x)=oJ enc (d.setIfInBounds i x):=by
 unfold oJ;rw[Array.toList_setIfInBounds,List.map_set]
variable [Inhabited α]
theorem cU {d:Array α} {i:Nat} (h:i<d.size):(oJ enc d)[i]? =some (enc d[i]!):=by
 unfold oJ;rw[List.getElem?_map,Array.getElem?_toList,Array.getElem?_eq_getElem h,getElem!_pos d i h];rfl
theorem dC {d:Array α} {i j:Nat} {x:α} (h:i<d.size):(oJ enc (d.setIfInBounds j x))[i]? =some (enc (d.setIfInBounds j x)[i]!):=cU (by rw[Array.size_setIfInBounds];exact h)
theorem cT (a b:Nat):(a:Int)+(b:Int)=((a+b:Nat):Int):=(Int.natCast_add a b).symm
theorem bK (a:Nat):(a:Int)+1=((a+1:Nat):Int):=rfl
theorem me (a:Nat):((a+1:Nat):Int)-1=(a:Int):=by omega
theorem pS (a:Nat):(a:Int)*2=((a*2:Nat):Int):=by omega
theorem fE {a b:Nat} (h:b≤a):(a:Int)-(b:Int)=((a-b:Nat):Int):=by omega
theorem eJ {a:Nat} (h:1≤a):(a:Int)-1=((a-1:Nat):Int):=by omega
theorem divC (a b:Nat):Int.tdiv (a:Int) (b:Int)=((a/b:Nat):Int):=by rw[Int.tdiv_eq_ediv_of_nonneg (by omega)];rfl
theorem gp {p:Prop} [Decidable p] (h:p):decide p=true:=decide_eq_true h
theorem jS {p:Prop} [Decidable p] (h: ¬p):decide p=false:=decide_eq_false h
variable {lt:α→α→Bool}
theorem NS (a j:Nat) (d:Array α):insInner lt a (j+1) d=if j+1>a&&lt d[j+1]! d[j]! then insInner lt a j (swp d (j+1) j) else d:=rfl
theorem Cq {a:Nat}: ∀(j:Nat) (d:Array α),(insInner lt a j d).size=d.size
 | 0,d=>rfl
 | j+1,d=>by
  rw[NS]
  split
  ·rw[Cq j,size_swp]
  ·rfl
theorem rH (hi first:Nat): ∀(n root:Nat) (d:Array α),hi-root≤n→(siftDown lt hi first root d).size=d.size:=by
 intro n
 induction n with
 | zero=>intro root d h;rw[siftDown,dif_pos (by omega)]
 | succ n ih=>
  intro root d h
  rw[siftDown]
  split
  ·rfl
  ·split
   ·split
    ·rfl
    ·split
     ·rw[ih _ _ (by omega),size_swp]
     ·rfl
   ·split
    ·rfl
    ·rw[ih _ _ (by omega),size_swp]
theorem Cr (hi first:Nat): ∀(k:Nat) (d:Array α),(heapBuild lt hi first k d).size=d.size
 | 0,d=>rfl
 | k+1,d=>by rw[heapBuild,Cr,rH _ _ _ _ _ (Nat.le_refl _)]
end
end Go.AM
set_option maxRecDepth 100000
set_option maxHeartbeats 1000000
namespace Go.AM
open Go.Proofs
theorem Ed.lt_irrefl (a:Ed): ¬a.lt a:=by unfold Ed.lt;omega
theorem Ed.lt_trans {a b c:Ed}:a.lt b→b.lt c→a.lt c:=by unfold Ed.lt;omega
theorem Ed.lt_asymm {a b:Ed}:a.lt b→¬b.lt a:=by unfold Ed.lt;omega
theorem Ed.XC {a b:Ed} (h1: ¬a.lt b) (h2: ¬b.lt a):a=b:=by
 cases a;cases b
 simp only[Ed.lt,Ed.mk.injEq] at*
 omega
abbrev kZ (E:List Ed):Prop:=E.Pairwise Ed.lt
def Ed.key (e:Ed):Nat:=(e.f.toNat*6+e.l.toNat)*64+e.t.toNat
theorem Ed.aht {a b:Ed} {L S:Int} (hL:L≤6) (hS:S≤64) (ha:a.In L S) (hb:b.In L S) (h:a.lt b):a.key<b.key:=by
 unfold Ed.In at ha hb
 unfold Ed.lt at h
 unfold Ed.key
 omega
theorem ahu {L S:Int} (hL:L≤6) (hS:S≤64): ∀(E:List Ed),kZ E→(∀e∈E,e.In L S)→∀i (hi:i<E.length),i≤E[i].key:=by
 intro E h hE i
 induction i with
 | zero=>intro hi;omega
 | succ i ih=>
  intro hi
  have h1:=ih (by omega)
  have h2:=(List.pairwise_iff_getElem.1 h) i (i+1) (by omega) hi (by omega)
  have:=Ed.aht hL hS (hE _ (List.getElem_mem _)) (hE _ (List.getElem_mem _)) h2
  omega
theorem ahv {L S:Int} (hL:L≤6) (hS:S≤64) {E:List Ed} (h:kZ E) (hE: ∀e∈E,e.In L S):E.length≤24576:=by
 by_cases h0:E.length=0
 ·omega
 ·have h1:=ahu hL hS E h hE (E.length-1) (by omega)
  have h2:=hE E[E.length-1] (List.getElem_mem _)
  unfold Ed.In at h2
  unfold Ed.key at h1
  omega
theorem NT: ∀{A B:List Ed},kZ A→kZ B→(∀x,x∈A↔x∈B)→A=B
 | [],[],_,_,_=>rfl
 | [],b::B,_,_,h=>by have:=(h b).2 (by simp);cases this
 | a::A,[],_,_,h=>by have:=(h a).1 (by simp);cases this
 | a::A,b::B,hA,hB,h=>by
  have a1:=List.pairwise_cons.1 hA
  have b1:=List.pairwise_cons.1 hB
  have cP:a=b:=by
   have ha:=(h a).1 (by simp)
   have hb:=(h b).2 (by simp)
   rcases List.mem_cons.1 ha with e|e
   ·exact e
   ·rcases List.mem_cons.1 hb with e'|e'
    ·exact e'.symm
    ·exact absurd (a1.1 b e') (Ed.lt_asymm (b1.1 a e))
  subst cP
  rw[NT a1.2 b1.2 fun x=> ?_]
  constructor
  ·intro hx
   rcases List.mem_cons.1 ((h x).1 (by simp[hx])) with e|e
   ·subst e;exact absurd (a1.1 x hx) (Ed.lt_irrefl x)
   ·exact e
  ·intro hx
   rcases List.mem_cons.1 ((h x).2 (by simp[hx])) with e|e
   ·subst e;exact absurd (b1.1 x hx) (Ed.lt_irrefl x)
   ·exact e
theorem ahw {E:List Ed} (h:kZ E):E.Nodup:=List.Pairwise.imp (fun cP e=>by subst e;exact Ed.lt_irrefl _ cP) h
theorem ahx {R l:List Ed} (hp:R.Perm l) (hn:l.Nodup) (hs:R.Pairwise (fun x y=> ¬y.lt x)):kZ R:=by
 have zY:R.Nodup:=hp.nodup_iff.2 hn
 refine List.Pairwise.imp₂ (fun a b h1 h2=> ?_) hs zY
 by_cases h:a.lt b
 ·exact h
 ·exact absurd (Ed.XC h h1) h2
def jT (out:List Ed) (e:Ed):Nat→Nat
 | 0=>0
 | k+1=>if e.lt (out.getD k default) then jT out e k else k+1
def s7 (out:List Ed) (e:Ed):List Ed:=
 if jT out e out.length=0∨¬out.getD (jT out e out.length-1) default=e then out.take (jT out e out.length)++[e]++out.drop (jT out e out.length) else out
def pT (l:List Ed):List Ed:=l.foldl s7 []
theorem NU (out:List Ed) (e:Ed): ∀k,jT out e k≤k
 | 0=>Nat.le_refl _
 | k+1=>by unfold jT;split;exact Nat.le_succ_of_le (NU out e k);exact Nat.le_refl _
theorem XD (out:List Ed) (e:Ed): ∀k i,jT out e k≤i→i<k→e.lt (out.getD i default)
 | 0,i,_,h=>by omega
 | k+1,i,h1,h2=>by
  unfold jT at h1
  split at h1
  ·rename_i h3
   by_cases hi:i=k
   ·subst hi;exact h3
   ·exact XD out e k i h1 (by omega)
  ·omega
theorem XE (out:List Ed) (e:Ed): ∀k,jT out e k≠0→¬e.lt (out.getD (jT out e k-1) default)
 | 0,h=>by simp[jT] at h
 | k+1,h=>by
  unfold jT at h⊢
  split
  ·rename_i h3
   rw[if_pos h3] at h
   exact XE out e k h
  ·rename_i h3
   simpa using h3
theorem ahy {out:List Ed} {e x:Ed} (hk:jT out e out.length≤out.length):x∈s7 out e↔x=e∨x∈out:=by
 unfold s7
 split
 ·rename_i h
  have:=List.take_append_drop (jT out e out.length) out
  constructor
  ·intro hx
   simp only[List.append_assoc,List.mem_append,List.mem_singleton] at hx
   rcases hx with hx|hx|hx
   ·exact .inr (List.mem_of_mem_take hx)
   ·exact .inl hx
   ·exact .inr (List.mem_of_mem_drop hx)
  ·rintro (rfl|hx)
   ·simp
   ·rw[←this] at hx
    simp only[List.mem_append] at hx
    simp only[List.append_assoc,List.mem_append,List.mem_singleton]
    rcases hx with hx|hx
    ·exact .inl hx
    ·exact .inr (.inr hx)
 ·rename_i h
  simp only[not_or,Classical.not_not] at h
  constructor
  ·exact .inr
  ·rintro (rfl|hx)
   ·have h1:=h.2
    have h2:jT out x out.length-1<out.length:=by omega
    rw[←h1]
    simp[h2]
   ·exact hx
theorem ahz {out:List Ed} {e:Ed} (h:kZ out):kZ (s7 out e):=by
 have hk:=NU out e out.length
 have up:=XD out e out.length
 have dn:=XE out e out.length
 unfold s7
 generalize hq:jT out e out.length=k at*
 split
 ·rename_i hc
  have g:=List.pairwise_iff_getElem.1 h
  have iO: ∀x∈out.take k,x.lt e:=by
   intro x hx
   obtain ⟨i,hi,rfl⟩:=List.getElem_of_mem hx
   have eo:i<k:=by rw[List.length_take] at hi;omega
   have qx:i<out.length:=by omega
   rw[List.getElem_take]
   have XF:k≠0:=by omega
   have h1:=dn XF
   have h2: ¬out.getD (k-1) default=e:=by
    rcases hc with hc|hc
    ·exact absurd hc XF
    ·exact hc
   have lG:k-1<out.length:=by omega
   have e1:out.getD (k-1) default=out[k-1]:=by simp[lG]
   rw[e1] at h1 h2
   have h3:out[k-1].lt e:=by
    by_cases h4:out[k-1].lt e
    ·exact h4
    ·exact absurd (Ed.XC h4 h1) h2
   by_cases hik:i=k-1
   ·subst hik;exact h3
   ·exact Ed.lt_trans (g i (k-1) qx lG (by omega)) h3
  have gV: ∀y∈out.drop k,e.lt y:=by
   intro y hy
   obtain ⟨i,hi,rfl⟩:=List.getElem_of_mem hy
   rw[List.length_drop] at hi
   rw[List.getElem_drop]
   have:=up (k+i) (by omega) (by omega)
   have e1:out.getD (k+i) default=out[k+i]:=by simp[show k+i<out.length by omega]
   rwa [e1] at this
  rw[kZ,List.append_assoc,List.pairwise_append]
  refine ⟨h.sublist (List.take_sublist _ _),?_,?_⟩
  ·rw[List.singleton_append,List.pairwise_cons]
   exact ⟨gV,h.sublist (List.drop_sublist _ _)⟩
  ·intro x hx y hy
   rw[List.singleton_append,List.mem_cons] at hy
   rcases hy with rfl|hy
   ·exact iO x hx
   ·exact Ed.lt_trans (iO x hx) (gV y hy)
 ·exact h
theorem NV: ∀(l out:List Ed),kZ out→kZ (l.foldl s7 out)∧∀x,x∈l.foldl s7 out↔x∈l∨x∈out
 | [],out,h=>⟨h,by simp⟩
 | e::l,out,h=>by
  obtain ⟨h1,h2⟩:=NV l (s7 out e) (ahz h)
  refine ⟨h1,fun x=> ?_⟩
  rw[List.foldl_cons,h2,ahy (NU _ _ _)]
  simp only[List.mem_cons]
  constructor
  ·rintro (h|h|h)
   ·exact .inl (.inr h)
   ·exact .inl (.inl h)
   ·exact .inr h
  ·rintro ((h|h)|h)
   ·exact .inr (.inl h)
   ·exact .inl h
   ·exact .inr (.inr h)
theorem HS (l:List Ed):kZ (pT l):=(NV l [] List.Pairwise.nil).1
theorem u4 {l:List Ed} {x:Ed}:x∈pT l↔x∈l:=by
 have:=(NV l [] List.Pairwise.nil).2 x
 simpa[pT] using this
theorem HT (a b:Ed):((a.f==b.f)&&((a.l==b.l)&&((a.t==b.t)&&true)))=decide (a=b):=by
 cases a;cases b
 rw[Bool.eq_iff_iff]
 simp
end Go.AM
set_option maxRecDepth 100000
namespace Go.AM
open Go.Proofs
noncomputable abbrev HU:Code:=ch Tryd.prog (aq.aO 91)
noncomputable def xS (C:ae) (Cs u5:Nat) (k' ky:Int) (ss:List V) {β:Type} (kn:(Int × Int × (List V))→Option β) (kr:(Int × Int × Bool × (List V))→Option β):Option β:=
 bif decide ((ky:Int)<(u5:Int)) then
  bif (decide (0≤ky))&&(decide (ky<(u5:Int))) then
  (ss[Cs+((ky:Int).toNat)]?).bind fun x3=>
  bif (decide (0≤(IntKind.wrap .i64 (ky-1))))&&(decide ((IntKind.wrap .i64 (ky-1))<(u5:Int))) then
   (ss[Cs+((IntKind.wrap .i64 (ky-1):Int).toNat)]?).bind fun x4=>
   bif !(((((x3.cell 0).toInt):Int)==((x4.cell 0).toInt))&&(((((x3.cell 1).toInt):Int)==((x4.cell 1).toInt))&&(((((x3.cell 2).toInt):Int)==((x4.cell 2).toInt))&&true))) then
   bif (decide (0≤ky))&&(decide (ky<(u5:Int))) then
    (ss[Cs+((ky:Int).toNat)]?).bind fun x5=>
    bif (decide (0≤k'))&&(decide (k'<(ss.length:Int))) then
    (ss[(k':Int).toNat]?).bind fun x6=>
    kn (IntKind.wrap .i64 (k'+1),IntKind.wrap .i64 (ky+1),ss.set ((k':Int).toNat) (.agg [.int .i64 ((x5.cell 0).toInt),.int .i64 ((x5.cell 1).toInt),.int .i64 ((x5.cell 2).toInt)]))
    else none
   else none
   else
   kn (k',IntKind.wrap .i64 (ky+1),ss)
  else none
  else none
 else
  kr (k',ky,decide ((ky:Int)<(u5:Int)),ss)
noncomputable def u6 (C:ae) (Cs u5:Nat):(Int × Int × (List V))→Option ((Int × Int × (List V)) ⊕ (Int × Int × Bool × (List V))):=un fun k'=>un fun ky ss=>xS C Cs u5 k' ky ss (fun y=>some (.inl y)) (fun r=>some (.inr r))
noncomputable def xT (C:ae) (ss:List V) (k':Int) {β:Type} (kn:Int→Option β) (kr:((List V) ⊕ (Int × Bool))→Option β):Option β:=
 bif decide ((k':Int)<(ss.length:Int)) then
  bif (decide (0≤k'))&&(decide (k'<(ss.length:Int))) then
  (ss[(k':Int).toNat]?).bind fun x1=>
  bif (decide (0≤(IntKind.wrap .i64 (k'-1))))&&(decide ((IntKind.wrap .i64 (k'-1))<(ss.length:Int))) then
   (ss[(IntKind.wrap .i64 (k'-1):Int).toNat]?).bind fun x2=>
   bif ((((x1.cell 0).toInt):Int)==((x2.cell 0).toInt))&&(((((x1.cell 1).toInt):Int)==((x2.cell 1).toInt))&&(((((x1.cell 2).toInt):Int)==((x2.cell 2).toInt))&&true)) then
   bif (decide (0≤k'))&&(decide (k'≤(ss.length:Int))) then
    (Loop (u6 C ((k':Int).toNat) (ss.length-((k':Int).toNat))) (k',1,ss)).bind (un fun (mZ:Int)=>un fun (k_8:Int)=>un fun (mT:Bool) (rI:List V)=>
     bif (decide (0≤mZ))&&(decide (mZ≤(rI.length:Int))) then
     bif (decide (0≤mZ))&&(decide (mZ≤((rI.take ((mZ:Int).toNat)++(List.replicate (rI.length-((mZ:Int).toNat)) (V.agg [.int .i64 0,.int .i64 0,.int .i64 0])++rI.drop (((mZ:Int).toNat)+(rI.length-((mZ:Int).toNat))))).length:Int))) then
      kr (.inl ((rI.take ((mZ:Int).toNat)++(List.replicate (rI.length-((mZ:Int).toNat)) (V.agg [.int .i64 0,.int .i64 0,.int .i64 0])++rI.drop (((mZ:Int).toNat)+(rI.length-((mZ:Int).toNat))))).take ((mZ:Int).toNat)))
     else none
     else none)
   else none
   else
   kn (IntKind.wrap .i64 (k'+1))
  else none
  else none
 else
  kr (.inr (k',decide ((k':Int)<(ss.length:Int))))
noncomputable def u7 (C:ae) (ss:List V):(Int)→Option ((Int) ⊕ ((List V) ⊕ (Int × Bool))):=fun k'=>xT C ss k' (fun y=>some (.inl y)) (fun r=>some (.inr r))
noncomputable def XG (C:ae):b6:=fun β n ds k=>
 bif Nat.beq n 145 then bd LC [true,false,false,true,true] [[0,2,3,0,0,0]] (@xS C) ds k else
 bif Nat.beq n 65 then bd LD [true,false] [[0],[0,0,2]] (@xT C) ds k else
 none
abbrev XH (C:ae) (b:bY):Prop:=bZ Tryd.prog aq C (XG C) 91 (cm Tryd.prog (aq.aO 91)) (aq.sin 91).aW.length b
theorem ahA (C:ae):XH C (.loop (an [1,1,0,1,0,0,1,0,0,1,0,1,0,1,0,0] HU)):=
 bh LC [true,false,false,true,true] [[0,2,3,0,0,0]] (@xS C) (by kernel_rfl) (aI (bs:=[]) (by kernel_rfl) ao) (fun ds=>by kernel_rfl) (fun i x=>by kernel_rfl) (fun i x β k=>by kernel_rfl) (fun β ds k=>by kernel_rfl)
theorem ahB (C:ae):XH C (.loop (an [1,1,0,1,0,0] HU)):=
 bh LD [true,false] [[0],[0,0,2]] (@xT C) (by kernel_rfl) (aI (bs:=[.loop (an [1,1,0,1,0,0,1,0,0,1,0,1,0,1,0,0] HU)]) (by kernel_rfl) (aU (ahA C) ao)) (fun ds=>by kernel_rfl) (fun i x=>by kernel_rfl) (fun i x β k=>by kernel_rfl) (fun β ds k=>by kernel_rfl)
noncomputable def HV (C:ae) (ss:List V):Option (List V):=
 bif decide (((ss.length:Int):Int)<2) then
  some [V.bool true,.list aj ss]
 else
  (Loop (u7 C ss) 1).bind (cI (fun (ahC:List V)=>
   some [V.bool false,.list aj ahC]) (un fun (alL:Int) (sW:Bool)=>
   some [V.bool true,.list aj ss]))
theorem NW {ss:List V} {r:Option (List V)} (h:HV CC ss=r):CC Gq [.list aj ss]=r:=
 bf (key:=91) (L:=XG CC) (bs:=[.loop (an [1,1,0,1,0,0] HU)]) (by kernel_rfl) (aU (ahB CC) ao) (Eq.trans (by kernel_rfl) h)
def u9 (prev:Ed):List Ed→List Ed
 | []=>[]
 | x::l=>if x=prev then u9 x l else x::u9 x l
def jU:List Ed→List Ed
 | []=>[]
 | x::l=>x::u9 x l
theorem NX {l:List Ed} {j:Nat} (h:j<l.length):l.take (j+1)=l.take j++[l.getD j default]:=by
 rw[List.take_succ_eq_append_getElem h];simp[h]
theorem XI {l ss:List Ed} {j:Nat} (hl:ss.length=l.length) (h:ss.drop j=l.drop j) (hj:j<l.length):ss.getD j default=l.getD j default:=by
 have h1:=congrArg (fun x:List Ed=>x.getD 0 default) h
 simpa[hj,hl] using h1
theorem Ct {l:List Ed} {i:Nat} (h:i<l.length):(l.map Ed.enc)[i]? =some (l.getD i default).enc:=by simp[h]
theorem ahD (ss:List Ed) (m:Nat) (z:V) (hm:m≤ss.length):((((ss.map Ed.enc).take m++(List.replicate ((ss.map Ed.enc).length-m) z++(ss.map Ed.enc).drop (m+((ss.map Ed.enc).length-m)))).take m)=(ss.take m).map Ed.enc):=by
 rw[List.take_append_of_le_length (by simp;omega),List.take_of_length_le (by simp;omega),List.map_take]
theorem XJ: ∀(m:List Ed) (prev x:Ed),u9 prev (m++[x])=u9 prev m++(if x=(prev::m).getD m.length default then [] else [x])
 | [],prev,x=>by simp only[List.nil_append,u9,List.length_nil,List.getD_cons_zero]
 | y::m,prev,x=>by
  have ih:=XJ m y x
  simp only[List.cons_append,u9,List.length_cons,List.getD_cons_succ]
  split
  ·exact ih
  ·rw[ih];rfl
theorem XK {l:List Ed} {p:Nat} (h1:1≤p) (h2:p<l.length):jU (l.take (p+1))=jU (l.take p)++(if l.getD p default=l.getD (p-1) default then [] else [l.getD p default]):=by
 match l,p,h1,h2 with
 | y::l,p+1,_,h2=>
  simp only[List.length_cons] at h2
  rw[List.take_succ_cons,List.take_succ_cons,jU,jU,NX (by omega),XJ]
  simp only[List.getD_cons_succ,List.length_take,Nat.add_sub_cancel]
  rw[show min p l.length=p by omega]
  have:(y::l.take p).getD p default=(y::l).getD p default:=by
   match p with
   | 0=>rfl
   | q+1=>simp only[List.getD_cons_succ];rw[List.getD_eq_getElem?_getD,List.getD_eq_getElem?_getD,List.getElem?_take_of_lt (by omega)]
  rw[this];rfl
section
variable {l:List Ed} (hn:l.length≤1000000)
include hn
theorem ahE {k:Nat}: ∀(d k2 i:Nat) (ss:List Ed),k+k2+d=l.length→1≤k2→i+1≤k+k2→ss.length=l.length→ss.take i=jU (l.take (k+k2))→ss.drop (k+k2-1)=l.drop (k+k2-1)→
  ∃t u xU,Loop (u6 CC k (l.length-k)) ((i:Int),(k2:Int),ss.map Ed.enc)=some (((jU l).length:Int),u,t,List.map Ed.enc xU)∧xU.take (jU l).length=jU l∧xU.length=l.length:=by
 intro d
 induction d with
 | zero=>
  intro k2 i ss hj qG hi hl ht hd
  have e0:l.take (k+k2)=l:=List.take_of_length_le (by omega)
  rw[e0] at ht
  have kJ:i=(jU l).length:=by rw[←ht,List.length_take];omega
  refine ⟨false,(k2:Int),ss,aZ ?_,by rw[←kJ];exact ht,hl⟩
  simp only[u6,xS,un,List.length_map,ar]
  rw[if_neg (by omega),decide_eq_false (by omega),kJ]
 | succ d ih=>
  intro k2 i ss hj qG hi hl ht hd
  have hp:k+k2<l.length:=by omega
  have lC:ss.drop (k+k2)=l.drop (k+k2):=by
   have h:=congrArg (List.drop 1) hd
   rw[List.drop_drop,List.drop_drop] at h
   rwa [show k+k2-1+1=k+k2 by omega] at h
  have g1:=XI hl lC hp
  have g0:=XI hl hd (show k+k2-1<l.length by omega)
  have x1:(ss.map Ed.enc)[k+k2]? =some (l.getD (k+k2) default).enc:=by rw[Ct (by omega),g1]
  have x0:(ss.map Ed.enc)[k+(k2-1)]? =some (l.getD (k+k2-1) default).enc:=by rw[show k+(k2-1)=k+k2-1 by omega,Ct (by omega),g0]
  have w1:IntKind.wrap .i64 ((k2:Int)-1)=((k2-1:Nat):Int):=by rw[wrap64 (by omega) (by omega)];omega
  have t1:((k2:Nat):Int)<((l.length-k:Nat):Int):=by omega
  have t2:(0:Int)≤((k2:Nat):Int):=by omega
  have t3:(0:Int)≤((k2-1:Nat):Int):=by omega
  have t4:((k2-1:Nat):Int)<((l.length-k:Nat):Int):=by omega
  have t5:((i:Nat):Int)<(ss.length:Int):=by omega
  have t6:(0:Int)≤((i:Nat):Int):=by omega
  have zU: ∃y,(ss.map Ed.enc)[i]? =some y:=⟨_,Ct (by omega)⟩
  obtain ⟨y,hy⟩:=zU
  have cs:=XK (l:=l) (p:=k+k2) (by omega) hp
  by_cases he:l.getD (k+k2) default=l.getD (k+k2-1) default
  ·have cK:u6 CC k (l.length-k) ((i:Int),(k2:Int),ss.map Ed.enc)=some (.inl ((i:Int),((k2+1:Nat):Int),ss.map Ed.enc)):=by
    simp only[u6,xS,un]
    refine bT (decide_eq_true t1) ?_
    refine bT (Bool.and_eq_true_iff.2 ⟨decide_eq_true t2,decide_eq_true t1⟩) ?_
    rw[Int.toNat_natCast]
    refine bs x1 ?_
    rw[w1]
    refine bT (Bool.and_eq_true_iff.2 ⟨decide_eq_true t3,decide_eq_true t4⟩) ?_
    rw[Int.toNat_natCast]
    refine bs x0 ?_
    simp only[Ed.bR,Ed.bS,Ed.bU,HT]
    rw[decide_eq_true he]
    refine bF rfl ?_
    rw[wrap64 (by omega) (by omega)]
    rfl
   rw[cF cK]
   refine ih (k2+1) i ss (by omega) (by omega) (by omega) hl ?_ (by rw[show k+(k2+1)-1=k+k2 by omega];exact lC)
   rw[show k+(k2+1)=k+k2+1 by omega,cs,if_pos he,List.append_nil,ht]
  ·have cK:u6 CC k (l.length-k) ((i:Int),(k2:Int),ss.map Ed.enc)=some (.inl (((i+1:Nat):Int),((k2+1:Nat):Int),(ss.set i (l.getD (k+k2) default)).map Ed.enc)):=by
    simp only[u6,xS,un]
    refine bT (decide_eq_true t1) ?_
    refine bT (Bool.and_eq_true_iff.2 ⟨decide_eq_true t2,decide_eq_true t1⟩) ?_
    rw[Int.toNat_natCast]
    refine bs x1 ?_
    rw[w1]
    refine bT (Bool.and_eq_true_iff.2 ⟨decide_eq_true t3,decide_eq_true t4⟩) ?_
    rw[Int.toNat_natCast]
    refine bs x0 ?_
    simp only[Ed.bR,Ed.bS,Ed.bU,HT]
    rw[decide_eq_false he]
    refine bT rfl ?_
    refine bT (Bool.and_eq_true_iff.2 ⟨decide_eq_true t2,decide_eq_true t1⟩) ?_
    refine bs x1 ?_
    refine bT (by rw[List.length_map];exact Bool.and_eq_true_iff.2 ⟨decide_eq_true t6,decide_eq_true t5⟩) ?_
    rw[Int.toNat_natCast]
    refine bs hy ?_
    simp only[Ed.bR,Ed.bS,Ed.bU,Ed.re]
    rw[wrap64 (by omega) (by omega),wrap64 (by omega) (by omega),List.map_set]
    rfl
   rw[cF cK]
   refine ih (k2+1) (i+1) (ss.set i (l.getD (k+k2) default)) (by omega) (by omega) (by omega) (by simpa using hl) ?_ ?_
   ·rw[NX (by rw[List.length_set];omega),List.take_set_of_le (Nat.le_refl i),ht,show k+(k2+1)=k+k2+1 by omega,cs,if_neg he]
    simp[show i<ss.length by omega]
   ·rw[show k+(k2+1)-1=k+k2 by omega,List.drop_set_of_lt (by omega),lC]
theorem ahF: ∀(d p:Nat),p+d=l.length→1≤p→jU (l.take p)=l.take p→
  (jU l=l∧∃t,Loop (u7 CC (l.map Ed.enc)) (p:Int)=some (.inr t))∨Loop (u7 CC (l.map Ed.enc)) (p:Int)=some (.inl ((jU l).map Ed.enc)):=by
 intro d
 induction d with
 | zero=>
  intro p hp h1 hc
  obtain rfl:p=l.length:=by omega
  rw[List.take_length] at hc
  refine .inl ⟨hc,((l.length:Int),false),aZ ?_⟩
  simp only[u7,xT,List.length_map,ar]
  rw[if_neg (by omega),decide_eq_false (by omega)]
 | succ d ih=>
  intro p hp h1 hc
  have fN:p<l.length:=by omega
  have cs:=XK (l:=l) h1 fN
  have x1:(l.map Ed.enc)[p]? =some (l.getD p default).enc:=Ct fN
  have x0:(l.map Ed.enc)[p-1]? =some (l.getD (p-1) default).enc:=Ct (by omega)
  have w1:IntKind.wrap .i64 ((p:Int)-1)=((p-1:Nat):Int):=by rw[wrap64 (by omega) (by omega)];omega
  have t1:((p:Nat):Int)<(l.length:Int):=by omega
  have t2:(0:Int)≤((p:Nat):Int):=by omega
  have t3:(0:Int)≤((p-1:Nat):Int):=by omega
  have t4:((p-1:Nat):Int)<(l.length:Int):=by omega
  have t5:((p:Nat):Int)≤(l.length:Int):=by omega
  by_cases he:l.getD p default=l.getD (p-1) default
  ·refine .inr (aZ ?_)
   obtain ⟨t,u,xU,e1,e2,e3⟩:=ahE hn (k:=p) (l.length-(p+1)) 1 p l (by omega) (by omega) (by omega) rfl (by rw[cs,if_pos he,List.append_nil,hc]) rfl
   have hm:(jU l).length≤xU.length:=by
    have:=congrArg List.length e2
    rw[List.length_take] at this
    omega
   have m1:(0:Int)≤(((jU l).length:Nat):Int):=by omega
   have m2:(((jU l).length:Nat):Int)≤((xU.map Ed.enc).length:Int):=by rw[List.length_map];omega
   simp only[u7,xT,List.length_map]
   refine bT (decide_eq_true t1) ?_
   refine bT (Bool.and_eq_true_iff.2 ⟨decide_eq_true t2,decide_eq_true t1⟩) ?_
   rw[Int.toNat_natCast]
   refine bs x1 ?_
   rw[w1]
   refine bT (Bool.and_eq_true_iff.2 ⟨decide_eq_true t3,decide_eq_true t4⟩) ?_
   rw[Int.toNat_natCast]
   refine bs x0 ?_
   simp only[Ed.bR,Ed.bS,Ed.bU,HT]
   rw[decide_eq_true he]
   refine bT rfl ?_
   refine bT (Bool.and_eq_true_iff.2 ⟨decide_eq_true t2,decide_eq_true t5⟩) ?_
   refine (congrArg (fun o=>Option.bind o _) e1).trans ?_
   simp only[Option.bind_some,un,cl,ar,Int.toNat_natCast]
   rw[if_pos m1,if_pos m2,if_pos m1,if_pos (by simp only[List.length_append,List.length_take,List.length_replicate,List.length_drop,List.length_map];omega),ahD _ _ _ hm,e2]
  ·have cK:u7 CC (l.map Ed.enc) (p:Int)=some (.inl ((p+1:Nat):Int)):=by
    simp only[u7,xT,List.length_map]
    refine bT (decide_eq_true t1) ?_
    refine bT (Bool.and_eq_true_iff.2 ⟨decide_eq_true t2,decide_eq_true t1⟩) ?_
    rw[Int.toNat_natCast]
    refine bs x1 ?_
    rw[w1]
    refine bT (Bool.and_eq_true_iff.2 ⟨decide_eq_true t3,decide_eq_true t4⟩) ?_
    rw[Int.toNat_natCast]
    refine bs x0 ?_
    simp only[Ed.bR,Ed.bS,Ed.bU,HT]
    rw[decide_eq_false he]
    refine bF rfl ?_
    rw[wrap64 (by omega) (by omega)]
    rfl
   rw[cF cK]
   exact ih (p+1) (by omega) (by omega) (by rw[cs,if_neg he,hc,←NX fN])
theorem ahG: ∃b,CC Gq [.list aj (l.map Ed.enc)]=some [.bool b,.list aj ((jU l).map Ed.enc)]:=by
 by_cases h2:l.length<2
 ·refine ⟨true,NW ?_⟩
  unfold HV
  rw[List.length_map,ar,if_pos (by omega)]
  match l,h2 with
  | [],_=>rfl
  | [k],_=>rfl
 ·rcases ahF hn (l.length-1) 1 (by omega) (by omega) (by
   match l,h2 with
   | k::l,_=>rfl) with ⟨h3,t,h4⟩|h4
  ·refine ⟨true,NW ?_⟩
   unfold HV
   rw[List.length_map,ar,if_neg (by omega)]
   refine (congrArg (fun o=>Option.bind o _) h4).trans ?_
   rw[h3];rfl
  ·refine ⟨false,NW ?_⟩
   unfold HV
   rw[List.length_map,ar,if_neg (by omega)]
   refine (congrArg (fun o=>Option.bind o _) h4).trans ?_
   rfl
end
noncomputable def XL (C:ae) (ri rj rk rl rm rn:Int):Option (List V):=
 (C qU [.int .i64 ri,.int .i64 rl]).bind fun r1=>
 (C qU [.int .i64 rj,.int .i64 rm]).bind fun r2=>
 (C qU [.int .i64 rk,.int .i64 rn]).bind fun r3=>
 (C AB [.list bt ([.int .i64 ((V.nth r1 0).toInt),.int .i64 ((V.nth r2 0).toInt),.int .i64 ((V.nth r3 0).toInt)]:List V)]).bind fun r4=>
 some [.int .i64 ((V.nth r4 0).toInt)]
theorem ahH {ri rj rk rl rm rn:Int} {r:Option (List V)} (h:XL CC ri rj rk rl rm rn=r):CC bq [.int .i64 ri,.int .i64 rj,.int .i64 rk,.int .i64 rl,.int .i64 rm,.int .i64 rn]=r:=
 bf (key:=88) (L:=dq) (bs:=[]) (by kernel_rfl) ao (Eq.trans (by kernel_rfl) h)
theorem gO (a b:Ed):CC bq [.int .i64 a.f,.int .i64 a.l,.int .i64 a.t,.int .i64 b.f,.int .i64 b.l,.int .i64 b.t]=some [.int .i64 (aR a b)]:=by
 refine ahH ?_
 unfold XL
 refine bs (xp _ _) ?_
 refine bs (xp _ _) ?_
 refine bs (xp _ _) ?_
 refine bs (U6 _ _ _) ?_
 rfl
noncomputable abbrev HW:Code:=ch Tryd.prog (aq.aO 170)
noncomputable def xV (C:ae) (a b' i j:Int) (ab:List V) {β:Type} (kn:(Int × (List V))→Option β) (kr:(Int × Bool × (List V))→Option β):Option β:=
 bif decide ((j:Int)>a) then
  bif (decide (0≤j))&&(decide (j<(ab.length:Int))) then
  (ab[(j:Int).toNat]?).bind fun x1=>
  bif (decide (0≤(IntKind.wrap .i64 (j-1))))&&(decide ((IntKind.wrap .i64 (j-1))<(ab.length:Int))) then
   (ab[(IntKind.wrap .i64 (j-1):Int).toNat]?).bind fun x2=>
   (C bq [.int .i64 ((x1.cell 0).toInt),.int .i64 ((x1.cell 1).toInt),.int .i64 ((x1.cell 2).toInt),.int .i64 ((x2.cell 0).toInt),.int .i64 ((x2.cell 1).toInt),.int .i64 ((x2.cell 2).toInt)]).bind fun r3=>
   bif decide ((((V.nth r3 0).toInt):Int)<0) then
   bif (decide (0≤(IntKind.wrap .i64 (j-1))))&&(decide ((IntKind.wrap .i64 (j-1))<(ab.length:Int))) then
    (ab[(IntKind.wrap .i64 (j-1):Int).toNat]?).bind fun x4=>
    bif (decide (0≤j))&&(decide (j<(ab.length:Int))) then
    (ab[(j:Int).toNat]?).bind fun x5=>
    bif (decide (0≤j))&&(decide (j<(ab.length:Int))) then
     (ab[(j:Int).toNat]?).bind fun x6=>
     bif (decide (0≤(IntKind.wrap .i64 (j-1))))&&(decide ((IntKind.wrap .i64 (j-1))<((ab.set ((j:Int).toNat) (.agg [.int .i64 ((x4.cell 0).toInt),.int .i64 ((x4.cell 1).toInt),.int .i64 ((x4.cell 2).toInt)])).length:Int))) then
     ((ab.set ((j:Int).toNat) (.agg [.int .i64 ((x4.cell 0).toInt),.int .i64 ((x4.cell 1).toInt),.int .i64 ((x4.cell 2).toInt)]))[(IntKind.wrap .i64 (j-1):Int).toNat]?).bind fun x7=>
     kn (IntKind.wrap .i64 (j-1),(ab.set ((j:Int).toNat) (.agg [.int .i64 ((x4.cell 0).toInt),.int .i64 ((x4.cell 1).toInt),.int .i64 ((x4.cell 2).toInt)])).set ((IntKind.wrap .i64 (j-1):Int).toNat) (.agg [.int .i64 ((x5.cell 0).toInt),.int .i64 ((x5.cell 1).toInt),.int .i64 ((x5.cell 2).toInt)]))
     else none
    else none
    else none
   else none
   else
   kr (j,decide ((((V.nth r3 0).toInt):Int)<0),ab)
  else none
  else none
 else
  kr (j,false,ab)
noncomputable def xW (C:ae) (a b' i:Int):(Int × (List V))→Option ((Int × (List V)) ⊕ (Int × Bool × (List V))):=un fun j ab=>xV C a b' i j ab (fun y=>some (.inl y)) (fun r=>some (.inr r))
noncomputable def Cu (C:ae) (a b' i:Int) (ab:List V) {β:Type} (kn:(Int × (List V))→Option β) (kr:(Int × Bool × (List V))→Option β):Option β:=
 bif decide ((i:Int)<b') then
  (Loop (xW C a b' i) (i,ab)).bind (un fun (j_8:Int)=>un fun (mT:Bool) (gC:List V)=>
   kn (IntKind.wrap .i64 (i+1),gC))
 else
  kr (i,decide ((i:Int)<b'),ab)
noncomputable def HX (C:ae) (a b':Int):(Int × (List V))→Option ((Int × (List V)) ⊕ (Int × Bool × (List V))):=un fun i ab=>Cu C a b' i ab (fun y=>some (.inl y)) (fun r=>some (.inr r))
noncomputable def XM (C:ae):b6:=fun β n ds k=>
 bif Nat.beq n 65 then bd MB [false,false,false,true,true] [[1,2,3,0,0,0]] (@xV C) ds k else
 bif Nat.beq n 17 then bd MC [false,false,true,true] [[1,2,0,0,0]] (@Cu C) ds k else
 none
abbrev XN (C:ae) (b:bY):Prop:=bZ Tryd.prog aq C (XM C) 170 (cm Tryd.prog (aq.aO 170)) (aq.sin 170).aW.length b
theorem ahI (C:ae):XN C (.loop (an [1,0,0,1,0,0,1,0,0] HW)):=
 bh MB [false,false,false,true,true] [[1,2,3,0,0,0]] (@xV C) (by kernel_rfl) (aI (bs:=[]) (by kernel_rfl) ao) (fun ds=>by kernel_rfl) (fun i x=>by kernel_rfl) (fun i x β k=>by kernel_rfl) (fun β ds k=>by kernel_rfl)
theorem ahJ (C:ae):XN C (.loop (an [1,0,0] HW)):=
 bh MC [false,false,true,true] [[1,2,0,0,0]] (@Cu C) (by kernel_rfl) (aI (bs:=[.loop (an [1,0,0,1,0,0,1,0,0] HW)]) (by kernel_rfl) (aU (ahI C) ao)) (fun ds=>by kernel_rfl) (fun i x=>by kernel_rfl) (fun i x β k=>by kernel_rfl) (fun β ds k=>by kernel_rfl)
noncomputable def XO (C:ae) (a b':Int) (ab:List V):Option (List V):=
 (Loop (HX C a b') (IntKind.wrap .i64 (a+1),ab)).bind (un fun (ahK:Int)=>un fun (xK:Bool) (va:List V)=>
  some [.list aj va])
theorem ahL {a b':Int} {ab:List V} {r:Option (List V)} (h:XO CC a b' ab=r):CC GA [.int .i64 a,.int .i64 b',.list aj ab]=r:=
 bf (key:=170) (L:=XM CC) (bs:=[.loop (an [1,0,0] HW)]) (by kernel_rfl) (aU (ahJ CC) ao) (Eq.trans (by kernel_rfl) h)
noncomputable abbrev xX:Code:=ch Tryd.prog (aq.aO 177)
noncomputable def vb (C:ae) (hi first root child:Int) (t40:Bool) (ab:List V) {β:Type} (kr:(Int)→Option β):Option β:=
 bif t40 then
  kr (IntKind.wrap .i64 (child+1))
 else
  kr child
noncomputable def s8 (C:ae) (hi first root:Int) (ab:List V) {β:Type} (kn:(Int × (List V))→Option β) (kr:((Int × Int × Bool × (List V)) ⊕ (Int × Int × Bool × (List V)))→Option β):Option β:=
 bif decide (((IntKind.wrap .i64 ((IntKind.wrap .i64 (root*2))+1)):Int)≥hi) then
  kr (.inl (root,IntKind.wrap .i64 ((IntKind.wrap .i64 (root*2))+1),decide (((IntKind.wrap .i64 ((IntKind.wrap .i64 (root*2))+1)):Int)≥hi),ab))
 else
  bif decide (((IntKind.wrap .i64 ((IntKind.wrap .i64 ((IntKind.wrap .i64 (root*2))+1))+1)):Int)<hi) then
  bif (decide (0≤(IntKind.wrap .i64 (first+(IntKind.wrap .i64 ((IntKind.wrap .i64 (root*2))+1))))))&&(decide ((IntKind.wrap .i64 (first+(IntKind.wrap .i64 ((IntKind.wrap .i64 (root*2))+1))))<(ab.length:Int))) then
   (ab[(IntKind.wrap .i64 (first+(IntKind.wrap .i64 ((IntKind.wrap .i64 (root*2))+1))):Int).toNat]?).bind fun x1=>
   bif (decide (0≤(IntKind.wrap .i64 ((IntKind.wrap .i64 (first+(IntKind.wrap .i64 ((IntKind.wrap .i64 (root*2))+1))))+1))))&&(decide ((IntKind.wrap .i64 ((IntKind.wrap .i64 (first+(IntKind.wrap .i64 ((IntKind.wrap .i64 (root*2))+1))))+1))<(ab.length:Int))) then
   (ab[(IntKind.wrap .i64 ((IntKind.wrap .i64 (first+(IntKind.wrap .i64 ((IntKind.wrap .i64 (root*2))+1))))+1):Int).toNat]?).bind fun x2=>
   (C bq [.int .i64 ((x1.cell 0).toInt),.int .i64 ((x1.cell 1).toInt),.int .i64 ((x1.cell 2).toInt),.int .i64 ((x2.cell 0).toInt),.int .i64 ((x2.cell 1).toInt),.int .i64 ((x2.cell 2).toInt)]).bind fun r3=>
   vb C hi first root (IntKind.wrap .i64 ((IntKind.wrap .i64 (root*2))+1)) (decide ((((V.nth r3 0).toInt):Int)<0)) ab (fun (fT:Int)=>
    bif (decide (0≤(IntKind.wrap .i64 (first+root))))&&(decide ((IntKind.wrap .i64 (first+root))<(ab.length:Int))) then
     (ab[(IntKind.wrap .i64 (first+root):Int).toNat]?).bind fun x5=>
     bif (decide (0≤(IntKind.wrap .i64 (first+fT))))&&(decide ((IntKind.wrap .i64 (first+fT))<(ab.length:Int))) then
     (ab[(IntKind.wrap .i64 (first+fT):Int).toNat]?).bind fun x6=>
     (C bq [.int .i64 ((x5.cell 0).toInt),.int .i64 ((x5.cell 1).toInt),.int .i64 ((x5.cell 2).toInt),.int .i64 ((x6.cell 0).toInt),.int .i64 ((x6.cell 1).toInt),.int .i64 ((x6.cell 2).toInt)]).bind fun r7=>
     bif !(decide ((((V.nth r7 0).toInt):Int)<0)) then
      kr (.inr (root,fT,!(decide ((((V.nth r7 0).toInt):Int)<0)),ab))
     else
      bif (decide (0≤(IntKind.wrap .i64 (first+fT))))&&(decide ((IntKind.wrap .i64 (first+fT))<(ab.length:Int))) then
      (ab[(IntKind.wrap .i64 (first+fT):Int).toNat]?).bind fun x8=>
      bif (decide (0≤(IntKind.wrap .i64 (first+root))))&&(decide ((IntKind.wrap .i64 (first+root))<(ab.length:Int))) then
       (ab[(IntKind.wrap .i64 (first+root):Int).toNat]?).bind fun x9=>
       bif (decide (0≤(IntKind.wrap .i64 (first+root))))&&(decide ((IntKind.wrap .i64 (first+root))<(ab.length:Int))) then
       (ab[(IntKind.wrap .i64 (first+root):Int).toNat]?).bind fun eO=>
       bif (decide (0≤(IntKind.wrap .i64 (first+fT))))&&(decide ((IntKind.wrap .i64 (first+fT))<((ab.set ((IntKind.wrap .i64 (first+root):Int).toNat) (.agg [.int .i64 ((x8.cell 0).toInt),.int .i64 ((x8.cell 1).toInt),.int .i64 ((x8.cell 2).toInt)])).length:Int))) then
        ((ab.set ((IntKind.wrap .i64 (first+root):Int).toNat) (.agg [.int .i64 ((x8.cell 0).toInt),.int .i64 ((x8.cell 1).toInt),.int .i64 ((x8.cell 2).toInt)]))[(IntKind.wrap .i64 (first+fT):Int).toNat]?).bind fun dH=>
        kn (fT,(ab.set ((IntKind.wrap .i64 (first+root):Int).toNat) (.agg [.int .i64 ((x8.cell 0).toInt),.int .i64 ((x8.cell 1).toInt),.int .i64 ((x8.cell 2).toInt)])).set ((IntKind.wrap .i64 (first+fT):Int).toNat) (.agg [.int .i64 ((x9.cell 0).toInt),.int .i64 ((x9.cell 1).toInt),.int .i64 ((x9.cell 2).toInt)]))
       else none
       else none
      else none
      else none
     else none
    else none)
   else none
  else none
  else
  vb C hi first root (IntKind.wrap .i64 ((IntKind.wrap .i64 (root*2))+1)) false ab (fun (fU:Int)=>
   bif (decide (0≤(IntKind.wrap .i64 (first+root))))&&(decide ((IntKind.wrap .i64 (first+root))<(ab.length:Int))) then
    (ab[(IntKind.wrap .i64 (first+root):Int).toNat]?).bind fun dW=>
    bif (decide (0≤(IntKind.wrap .i64 (first+fU))))&&(decide ((IntKind.wrap .i64 (first+fU))<(ab.length:Int))) then
    (ab[(IntKind.wrap .i64 (first+fU):Int).toNat]?).bind fun gD=>
    (C bq [.int .i64 ((dW.cell 0).toInt),.int .i64 ((dW.cell 1).toInt),.int .i64 ((dW.cell 2).toInt),.int .i64 ((gD.cell 0).toInt),.int .i64 ((gD.cell 1).toInt),.int .i64 ((gD.cell 2).toInt)]).bind fun jv=>
    bif !(decide ((((V.nth jv 0).toInt):Int)<0)) then
     kr (.inr (root,fU,!(decide ((((V.nth jv 0).toInt):Int)<0)),ab))
    else
     bif (decide (0≤(IntKind.wrap .i64 (first+fU))))&&(decide ((IntKind.wrap .i64 (first+fU))<(ab.length:Int))) then
     (ab[(IntKind.wrap .i64 (first+fU):Int).toNat]?).bind fun db=>
     bif (decide (0≤(IntKind.wrap .i64 (first+root))))&&(decide ((IntKind.wrap .i64 (first+root))<(ab.length:Int))) then
      (ab[(IntKind.wrap .i64 (first+root):Int).toNat]?).bind fun ku=>
      bif (decide (0≤(IntKind.wrap .i64 (first+root))))&&(decide ((IntKind.wrap .i64 (first+root))<(ab.length:Int))) then
      (ab[(IntKind.wrap .i64 (first+root):Int).toNat]?).bind fun xJ=>
      bif (decide (0≤(IntKind.wrap .i64 (first+fU))))&&(decide ((IntKind.wrap .i64 (first+fU))<((ab.set ((IntKind.wrap .i64 (first+root):Int).toNat) (.agg [.int .i64 ((db.cell 0).toInt),.int .i64 ((db.cell 1).toInt),.int .i64 ((db.cell 2).toInt)])).length:Int))) then
       ((ab.set ((IntKind.wrap .i64 (first+root):Int).toNat) (.agg [.int .i64 ((db.cell 0).toInt),.int .i64 ((db.cell 1).toInt),.int .i64 ((db.cell 2).toInt)]))[(IntKind.wrap .i64 (first+fU):Int).toNat]?).bind fun fS=>
       kn (fU,(ab.set ((IntKind.wrap .i64 (first+root):Int).toNat) (.agg [.int .i64 ((db.cell 0).toInt),.int .i64 ((db.cell 1).toInt),.int .i64 ((db.cell 2).toInt)])).set ((IntKind.wrap .i64 (first+fU):Int).toNat) (.agg [.int .i64 ((ku.cell 0).toInt),.int .i64 ((ku.cell 1).toInt),.int .i64 ((ku.cell 2).toInt)]))
      else none
      else none
     else none
     else none
    else none
   else none)
noncomputable def oK (C:ae) (hi first:Int):(Int × (List V))→Option ((Int × (List V)) ⊕ ((Int × Int × Bool × (List V)) ⊕ (Int × Int × Bool × (List V)))):=un fun root ab=>s8 C hi first root ab (fun y=>some (.inl y)) (fun r=>some (.inr r))
noncomputable def XP (C:ae):b6:=fun β n ds k=>
 bif Nat.beq n 655 then iq MJ [[1,2,3,0,6]] (@vb C) ds k else
 bif Nat.beq n 17 then bd MK [false,false,true,true] [[1,2,0,0,0,0],[1,2,0,0,0,0]] (@s8 C) ds k else
 none
abbrev XQ (C:ae) (b:bY):Prop:=bZ Tryd.prog aq C (XP C) 177 (cm Tryd.prog (aq.aO 177)) (aq.sin 177).aW.length b
theorem ahM (C:ae):XQ C (.cond 40 (an [1,0,0,0,1,1,0,1,0] xX) (an [1,0,0,0,1,1,0,1,1] xX)):=
 iT MJ [[1,2,3,0,6]] (@vb C) (by kernel_rfl) (aI (bs:=[]) (by kernel_rfl) ao) (aI (bs:=[]) (by kernel_rfl) ao) (fun ds=>by kernel_rfl) (fun i β k=>by kernel_rfl) (fun β ds k=>by kernel_rfl)
theorem ahN (C:ae):XQ C (.loop (an [1,0,0] xX)):=
 bh MK [false,false,true,true] [[1,2,0,0,0,0],[1,2,0,0,0,0]] (@s8 C) (by kernel_rfl) (aI (bs:=[.cond 40 (an [1,0,0,0,1,1,0,1,0] xX) (an [1,0,0,0,1,1,0,1,1] xX)]) (by kernel_rfl) (aU (ahM C) ao)) (fun ds=>by kernel_rfl) (fun i x=>by kernel_rfl) (fun i x β k=>by kernel_rfl) (fun β ds k=>by kernel_rfl)
noncomputable def XR (C:ae) (lo hi first:Int) (ab:List V):Option (List V):=
 (Loop (oK C hi first) (lo,ab)).bind (cI (un fun (ahO:Int)=>un fun (ahP:Int)=>un fun (WZ:Bool) (NY:List V)=>
  some [.list aj NY]) (un fun (ahQ:Int)=>un fun (ahR:Int)=>un fun (Xf:Bool) (ja:List V)=>
  some [.list aj ja]))
theorem ahS {lo hi first:Int} {ab:List V} {r:Option (List V)} (h:XR CC lo hi first ab=r):CC GF [.int .i64 lo,.int .i64 hi,.int .i64 first,.list aj ab]=r:=
 bf (key:=177) (L:=XP CC) (bs:=[.loop (an [1,0,0] xX)]) (by kernel_rfl) (aU (ahN CC) ao) (Eq.trans (by kernel_rfl) h)
noncomputable abbrev HY:Code:=ch Tryd.prog (aq.aO 171)
noncomputable def Cv (C:ae) (first lo hi i:Int) (ab:List V) {β:Type} (kn:(Int × (List V))→Option β) (kr:(Int × Bool × (List V))→Option β):Option β:=
 bif decide ((i:Int)≥0) then
  (C GF [.int .i64 i,.int .i64 hi,.int .i64 first,.list aj ab]).bind fun r1=>
  kn (IntKind.wrap .i64 (i-1),(V.nth r1 0).toList)
 else
  kr (i,decide ((i:Int)≥0),ab)
noncomputable def HZ (C:ae) (first lo hi:Int):(Int × (List V))→Option ((Int × (List V)) ⊕ (Int × Bool × (List V))):=un fun i ab=>Cv C first lo hi i ab (fun y=>some (.inl y)) (fun r=>some (.inr r))
noncomputable def Cw (C:ae) (first lo i:Int) (ab:List V) {β:Type} (kn:(Int × (List V))→Option β) (kr:(Int × Bool × (List V))→Option β):Option β:=
 bif decide ((i:Int)≥0) then
  bif (decide (0≤(IntKind.wrap .i64 (first+i))))&&(decide ((IntKind.wrap .i64 (first+i))<(ab.length:Int))) then
  (ab[(IntKind.wrap .i64 (first+i):Int).toNat]?).bind fun x5=>
  bif (decide (0≤first))&&(decide (first<(ab.length:Int))) then
   (ab[(first:Int).toNat]?).bind fun x6=>
   bif (decide (0≤first))&&(decide (first<(ab.length:Int))) then
   (ab[(first:Int).toNat]?).bind fun x7=>
   bif (decide (0≤(IntKind.wrap .i64 (first+i))))&&(decide ((IntKind.wrap .i64 (first+i))<((ab.set ((first:Int).toNat) (.agg [.int .i64 ((x5.cell 0).toInt),.int .i64 ((x5.cell 1).toInt),.int .i64 ((x5.cell 2).toInt)])).length:Int))) then
    ((ab.set ((first:Int).toNat) (.agg [.int .i64 ((x5.cell 0).toInt),.int .i64 ((x5.cell 1).toInt),.int .i64 ((x5.cell 2).toInt)]))[(IntKind.wrap .i64 (first+i):Int).toNat]?).bind fun x8=>
    (C GF [.int .i64 lo,.int .i64 i,.int .i64 first,.list aj ((ab.set ((first:Int).toNat) (.agg [.int .i64 ((x5.cell 0).toInt),.int .i64 ((x5.cell 1).toInt),.int .i64 ((x5.cell 2).toInt)])).set ((IntKind.wrap .i64 (first+i):Int).toNat) (.agg [.int .i64 ((x6.cell 0).toInt),.int .i64 ((x6.cell 1).toInt),.int .i64 ((x6.cell 2).toInt)]))]).bind fun r9=>
    kn (IntKind.wrap .i64 (i-1),(V.nth r9 0).toList)
   else none
   else none
  else none
  else none
 else
  kr (i,decide ((i:Int)≥0),ab)
noncomputable def H0 (C:ae) (first lo:Int):(Int × (List V))→Option ((Int × (List V)) ⊕ (Int × Bool × (List V))):=un fun i ab=>Cw C first lo i ab (fun y=>some (.inl y)) (fun r=>some (.inr r))
noncomputable def XS (C:ae):b6:=fun β n ds k=>
 bif Nat.beq n 65 then bd MD [false,false,false,true,true] [[1,2,3,0,0,0]] (@Cv C) ds k else
 bif Nat.beq n 129 then bd ME [false,false,true,true] [[1,2,0,0,0]] (@Cw C) ds k else
 none
abbrev XT (C:ae) (b:bY):Prop:=bZ Tryd.prog aq C (XS C) 171 (cm Tryd.prog (aq.aO 171)) (aq.sin 171).aW.length b
theorem ahT (C:ae):XT C (.loop (an [1,1,1,0,1,0,0] HY)):=
 bh MD [false,false,false,true,true] [[1,2,3,0,0,0]] (@Cv C) (by kernel_rfl) (aI (bs:=[]) (by kernel_rfl) ao) (fun ds=>by kernel_rfl) (fun i x=>by kernel_rfl) (fun i x β k=>by kernel_rfl) (fun β ds k=>by kernel_rfl)
theorem ahU (C:ae):XT C (.loop (an [1,1,1,1,1,0,0] HY)):=
 bh ME [false,false,true,true] [[1,2,0,0,0]] (@Cw C) (by kernel_rfl) (aI (bs:=[]) (by kernel_rfl) ao) (fun ds=>by kernel_rfl) (fun i x=>by kernel_rfl) (fun i x β k=>by kernel_rfl) (fun β ds k=>by kernel_rfl)
noncomputable def XU (C:ae) (a b':Int) (ab:List V):Option (List V):=
 (Loop (HZ C a 0 (IntKind.wrap .i64 (b'-a))) (IntKind.wrap .i64 (Int.tdiv (IntKind.wrap .i64 ((IntKind.wrap .i64 (b'-a))-1)) 2),ab)).bind (un fun (i_2:Int)=>un fun (jN:Bool) (NZ:List V)=>
  (Loop (H0 C a 0) (IntKind.wrap .i64 ((IntKind.wrap .i64 (b'-a))-1),NZ)).bind (un fun (ahV:Int)=>un fun (NO:Bool) (fx:List V)=>
   some [.list aj fx]))
theorem ahW {a b':Int} {ab:List V} {r:Option (List V)} (h:XU CC a b' ab=r):CC GB [.int .i64 a,.int .i64 b',.list aj ab]=r:=
 bf (key:=171) (L:=XS CC) (bs:=[.loop (an [1,1,1,0,1,0,0] HY),.loop (an [1,1,1,1,1,0,0] HY)]) (by kernel_rfl) (aU (ahT CC) (aU (ahU CC) ao)) (Eq.trans (by kernel_rfl) h)
noncomputable abbrev XV:Code:=ch Tryd.prog (aq.aO 179)
noncomputable def xY (C:ae) (i j:Int) (ab:List V) {β:Type} (kn:(Int × Int × (List V))→Option β) (kr:(Int × Int × Bool × (List V))→Option β):Option β:=
 bif decide ((i:Int)<j) then
  bif (decide (0≤j))&&(decide (j<(ab.length:Int))) then
  (ab[(j:Int).toNat]?).bind fun x1=>
  bif (decide (0≤i))&&(decide (i<(ab.length:Int))) then
   (ab[(i:Int).toNat]?).bind fun x2=>
   bif (decide (0≤i))&&(decide (i<(ab.length:Int))) then
   (ab[(i:Int).toNat]?).bind fun x3=>
   bif (decide (0≤j))&&(decide (j<((ab.set ((i:Int).toNat) (.agg [.int .i64 ((x1.cell 0).toInt),.int .i64 ((x1.cell 1).toInt),.int .i64 ((x1.cell 2).toInt)])).length:Int))) then
    ((ab.set ((i:Int).toNat) (.agg [.int .i64 ((x1.cell 0).toInt),.int .i64 ((x1.cell 1).toInt),.int .i64 ((x1.cell 2).toInt)]))[(j:Int).toNat]?).bind fun x4=>
    kn (IntKind.wrap .i64 (i+1),IntKind.wrap .i64 (j-1),(ab.set ((i:Int).toNat) (.agg [.int .i64 ((x1.cell 0).toInt),.int .i64 ((x1.cell 1).toInt),.int .i64 ((x1.cell 2).toInt)])).set ((j:Int).toNat) (.agg [.int .i64 ((x2.cell 0).toInt),.int .i64 ((x2.cell 1).toInt),.int .i64 ((x2.cell 2).toInt)]))
   else none
   else none
  else none
  else none
 else
  kr (i,j,decide ((i:Int)<j),ab)
noncomputable def Cx (C:ae):(Int × Int × (List V))→Option ((Int × Int × (List V)) ⊕ (Int × Int × Bool × (List V))):=un fun i=>un fun j ab=>xY C i j ab (fun y=>some (.inl y)) (fun r=>some (.inr r))
noncomputable def XW (C:ae):b6:=fun β n ds k=>
 bif Nat.beq n 33 then bd ML [true,true,true] [[0,0,0,0]] (@xY C) ds k else
 none
abbrev ahX (C:ae) (b:bY):Prop:=bZ Tryd.prog aq C (XW C) 179 (cm Tryd.prog (aq.aO 179)) (aq.sin 179).aW.length b
theorem ahY (C:ae):ahX C (.loop (an [1,1,0,0] XV)):=
 bh ML [true,true,true] [[0,0,0,0]] (@xY C) (by kernel_rfl) (aI (bs:=[]) (by kernel_rfl) ao) (fun ds=>by kernel_rfl) (fun i x=>by kernel_rfl) (fun i x β k=>by kernel_rfl) (fun β ds k=>by kernel_rfl)
noncomputable def XX (C:ae) (a b':Int) (ab:List V):Option (List V):=
 (Loop (Cx C) (a,IntKind.wrap .i64 (b'-1),ab)).bind (un fun (V8:Int)=>un fun (j_6:Int)=>un fun (mO:Bool) (N0:List V)=>
  some [.list aj N0])
theorem ahZ {a b':Int} {ab:List V} {r:Option (List V)} (h:XX CC a b' ab=r):CC KM [.int .i64 a,.int .i64 b',.list aj ab]=r:=
 bf (key:=179) (L:=XW CC) (bs:=[.loop (an [1,1,0,0] XV)]) (by kernel_rfl) (aU (ahY CC) ao) (Eq.trans (by kernel_rfl) h)
end Go.AM
set_option maxRecDepth 100000
set_option maxHeartbeats 4000000
namespace Go.AM.SL
open Go.AM Go.Proofs Go.Sort
def ag (a b:Ed):Bool:=decide (aR a b<0)
theorem jV (a b:Ed):(ag a b=true)=(aR a b<0):=by unfold ag;rw[decide_eq_true_eq]
theorem jb (a b:Ed):((!ag a b)=true)= ¬(aR a b<0):=by unfold ag;simp
abbrev eA (d:Array Ed):List V:=oJ Ed.enc d
theorem N3 (a j:Nat) (d:Array Ed):insInner ag a (j+1) d=if j+1>a then (if aR d[j+1]! d[j]! <0 then insInner ag a j (swp d (j+1) j) else d) else d:=by
 rw[NS]
 by_cases h1:j+1>a
 ·rw[if_pos h1];simp only[h1,decide_true,Bool.true_and,jV]
 ·rw[if_neg h1,if_neg (by simp[h1])]
theorem vc (hi first root:Nat) (d:Array Ed):siftDown ag hi first root d=
  if 2*root+1≥hi then d else
   if 2*root+2<hi then
    (if aR d[first+(2*root+1)]! d[first+(2*root+2)]! <0 then
     (if aR d[first+root]! d[first+(2*root+2)]! <0 then siftDown ag hi first (2*root+2) (swp d (first+root) (first+(2*root+2))) else d)
    else (if aR d[first+root]! d[first+(2*root+1)]! <0 then siftDown ag hi first (2*root+1) (swp d (first+root) (first+(2*root+1))) else d))
   else (if aR d[first+root]! d[first+(2*root+1)]! <0 then siftDown ag hi first (2*root+1) (swp d (first+root) (first+(2*root+1))) else d):=by
 rw[siftDown]
 by_cases h1:2*root+1≥hi
 ·rw[dif_pos h1,if_pos h1]
 rw[dif_neg h1,if_neg h1]
 by_cases h2:2*root+2<hi
 ·rw[if_pos h2]
  by_cases h3:aR d[first+(2*root+1)]! d[first+(2*root+2)]! <0
  ·rw[if_pos h3,if_pos (by simp only[Bool.and_eq_true,decide_eq_true_eq,jV];exact ⟨h2,h3⟩)]
   simp only[jb]
   by_cases h4:aR d[first+root]! d[first+(2*root+2)]! <0
   ·rw[if_neg (not_not_intro h4),dif_pos h2,if_pos h4]
   ·rw[if_pos h4,if_neg h4]
  ·rw[if_neg h3,if_neg (by simp only[Bool.and_eq_true,decide_eq_true_eq,jV];exact fun h=>h3 h.2)]
   simp only[jb]
   by_cases h4:aR d[first+root]! d[first+(2*root+1)]! <0
   ·rw[if_neg (not_not_intro h4),if_pos h4]
   ·rw[if_pos h4,if_neg h4]
 ·rw[if_neg h2,if_neg (by simp only[Bool.and_eq_true,decide_eq_true_eq,jV];exact fun h=>h2 h.1)]
  simp only[jb]
  by_cases h4:aR d[first+root]! d[first+(2*root+1)]! <0
  ·rw[if_neg (not_not_intro h4),if_pos h4]
  ·rw[if_pos h4,if_neg h4]
theorem Cy {a b i:Nat}: ∀(j:Nat) (d:Array Ed),j<d.size→d.size<1152921504606846976→
  ∃j' t,Loop (xW CC a b i) ((j:Int),eA d)=some (j',t,eA (insInner ag a j d))
 | 0,d,hj,hs=>⟨(0:Nat),false,aZ (by
   simp (disch:=omega) only[xW,xV,un,ar,if_neg]
   rfl)⟩
 | j+1,d,hj,hs=>by
  obtain ⟨j',t,ih⟩:=Cy (a:=a) (b:=b) (i:=i) j (swp d (j+1) j) (by rw[size_swp];omega) (by rw[size_swp];omega)
  rw[N3]
  by_cases h1:j+1>a
  ·rw[if_pos h1]
   have e:xW CC a b i (((j+1:Nat):Int),eA d)=if aR d[j+1]! d[j]! <0 then some (.inl ((j:Int),eA (swp d (j+1) j))) else some (.inr (((j+1:Nat):Int),decide (aR d[j+1]! d[j]! <0),eA d)):=by
    simp (disch:=omega) only[xW,xV,un,ar,cl,dp,if_pos,if_neg,wrap64,bK,cT,Int.toNat_natCast,Option.bind_some,cR,cU,Ed.bR,Ed.bS,Ed.bU,Ed.re,cS,dC,Array.size_setIfInBounds,gO,V.ba,V.toInt_int,cond_true,cond_false,me]
    rfl
   by_cases h2:aR d[j+1]! d[j]! <0
   ·rw[if_pos h2] at e⊢
    exact ⟨j',t,(cF e).trans ih⟩
   ·rw[if_neg h2] at e⊢
    exact ⟨_,_,aZ e⟩
  ·rw[if_neg h1]
   exact ⟨((j+1:Nat):Int),false,aZ (by
    simp (disch:=omega) only[xW,xV,un,ar,if_neg])⟩
theorem N4 {a b:Nat}: ∀(n i:Nat) (d:Array Ed),b-i=n→b≤d.size→d.size<1152921504606846976→
  ∃j' t,Loop (HX CC a b) ((i:Int),eA d)=some (j',t,eA (insOuter ag a b i d)):=by
 intro n
 induction n with
 | zero=>
  intro i d hn hb hs
  rw[insOuter,if_neg (by omega)]
  exact ⟨(i:Int),false,aZ (by
   simp (disch:=omega) only[HX,Cu,un,jS,cond_false])⟩
 | succ n ih=>
  intro i d hn hb hs
  obtain ⟨j1,t1,h1⟩:=Cy (a:=a) (b:=b) (i:=i) i d (by omega) hs
  obtain ⟨j',t,h2⟩:=ih (i+1) (insInner ag a i d) (by omega) (by rw[Cq];omega) (by rw[Cq];omega)
  rw[insOuter,if_pos (by omega)]
  refine ⟨j',t,(cF ?_).trans h2⟩
  simp (disch:=omega) only[HX,Cu,un,ar,if_pos,h1,Option.bind_some,bK,wrap64]
theorem Cz {a b:Nat} {d:Array Ed} (hb:b≤d.size) (hs:d.size<1152921504606846976) (ha:a<1152921504606846976):
  CC GA [.int .i64 (a:Int),.int .i64 (b:Int),.list aj (eA d)]=some [.list aj (eA (insertionSort ag d a b))]:=by
 refine ahL ?_
 unfold XO
 obtain ⟨j',t,h⟩:=N4 (a:=a) (b:=b) _ (a+1) d rfl hb hs
 simp (disch:=omega) only[bK,wrap64]
 rw[h]
 rfl
theorem N5 (hi first:Nat): ∀(n root:Nat) (d:Array Ed),hi-root≤n→root<1152921504606846976→first+hi≤d.size→d.size<1152921504606846976→
  (∃x y z,Loop (oK CC hi first) ((root:Int),eA d)=some (.inl (x,y,z,eA (siftDown ag hi first root d))))∨
  (∃x y z,Loop (oK CC hi first) ((root:Int),eA d)=some (.inr (x,y,z,eA (siftDown ag hi first root d)))):=by
 intro n
 induction n with
 | zero=>
  intro root d hn hr hb hs
  rw[vc,if_pos (by omega)]
  exact .inl ⟨(root:Int),((root*2+1:Nat):Int),true,aZ (by
   simp (disch:=omega) only[oK,s8,un,pS,bK,wrap64];rw[gp (by omega)];rfl)⟩
 | succ n ih=>
  intro root d hn hr hb hs
  by_cases h1:2*root+1≥hi
  ·rw[vc,if_pos h1]
   exact .inl ⟨(root:Int),((root*2+1:Nat):Int),true,aZ (by
    simp (disch:=omega) only[oK,s8,un,pS,bK,wrap64];rw[gp (by omega)];rfl)⟩
  ·have go: ∀c:Nat,c<hi→root<c→(oK CC hi first ((root:Int),eA d)=
      if aR d[first+root]! d[first+c]! <0 then some (.inl ((c:Int),eA (swp d (first+root) (first+c)))) else some (.inr (.inr ((root:Int),(c:Int),true,eA d))))→
     siftDown ag hi first root d=(if aR d[first+root]! d[first+c]! <0 then siftDown ag hi first c (swp d (first+root) (first+c)) else d)→
     ((∃x y z,Loop (oK CC hi first) ((root:Int),eA d)=some (.inl (x,y,z,eA (siftDown ag hi first root d))))∨
     (∃x y z,Loop (oK CC hi first) ((root:Int),eA d)=some (.inr (x,y,z,eA (siftDown ag hi first root d))))):=by
    intro c hc hrc e1 e2
    rw[e2]
    by_cases h3:aR d[first+root]! d[first+c]! <0
    ·rw[if_pos h3] at e1
     rw[if_pos h3,cF e1]
     exact ih c _ (by omega) (by omega) (by rw[size_swp];omega) (by rw[size_swp];omega)
    ·rw[if_neg h3] at e1
     rw[if_neg h3,aZ e1]
     exact .inr ⟨_,_,_,rfl⟩
   have e0:=vc hi first root d
   rw[if_neg h1] at e0
   by_cases h2:2*root+2<hi
   ·rw[if_pos h2] at e0
    by_cases h3:aR d[first+(2*root+1)]! d[first+(2*root+2)]! <0
    ·rw[if_pos h3] at e0
     refine go (2*root+2) (by omega) (by omega) ?_ e0
     rw[Nat.mul_comm 2 root] at h3
     simp (disch:=omega) only[oK,s8,un,pS,bK,cT,wrap64]
     rw[ar,if_neg (by omega),ar,if_pos (by omega)]
     simp (disch:=omega) only[vb,ar,cl,dp,if_pos,if_neg,wrap64,bK,cT,Int.toNat_natCast,Option.bind_some,cR,cU,Ed.bR,Ed.bS,Ed.bU,Ed.re,cS,dC,Array.size_setIfInBounds,gO,V.ba,V.toInt_int,cond_true,cond_false,Nat.mul_comm 2 root,gp]
     by_cases h4:aR d[first+root]! d[first+(root*2+2)]! <0
     ·simp only[h4,if_true];rfl
     ·simp only[h4,if_false];rfl
    ·rw[if_neg h3] at e0
     refine go (2*root+1) (by omega) (by omega) ?_ e0
     rw[Nat.mul_comm 2 root] at h3
     simp (disch:=omega) only[oK,s8,un,pS,bK,cT,wrap64]
     rw[ar,if_neg (by omega),ar,if_pos (by omega)]
     simp (disch:=omega) only[vb,ar,cl,dp,if_pos,if_neg,wrap64,bK,cT,Int.toNat_natCast,Option.bind_some,cR,cU,Ed.bR,Ed.bS,Ed.bU,Ed.re,cS,dC,Array.size_setIfInBounds,gO,V.ba,V.toInt_int,cond_true,cond_false,Nat.mul_comm 2 root,jS]
     by_cases h4:aR d[first+root]! d[first+(root*2+1)]! <0
     ·simp only[h4,if_true];rfl
     ·simp only[h4,if_false];rfl
   ·rw[if_neg h2] at e0
    refine go (2*root+1) (by omega) (by omega) ?_ e0
    simp (disch:=omega) only[oK,s8,un,pS,bK,cT,wrap64]
    rw[ar,if_neg (by omega),ar,if_neg (by omega)]
    simp (disch:=omega) only[vb,ar,cl,dp,if_pos,if_neg,wrap64,bK,cT,Int.toNat_natCast,Option.bind_some,cR,cU,Ed.bR,Ed.bS,Ed.bU,Ed.re,cS,dC,Array.size_setIfInBounds,gO,V.ba,V.toInt_int,cond_true,cond_false,Nat.mul_comm 2 root]
    by_cases h4:aR d[first+root]! d[first+(root*2+1)]! <0
    ·simp only[h4,if_true];rfl
    ·simp only[h4,if_false];rfl
theorem CA {lo hi first:Nat} {d:Array Ed} (hl:lo<1152921504606846976) (hb:first+hi≤d.size) (hs:d.size<1152921504606846976):
  CC GF [.int .i64 (lo:Int),.int .i64 (hi:Int),.int .i64 (first:Int),.list aj (eA d)]=some [.list aj (eA (siftDown ag hi first lo d))]:=by
 refine ahS ?_
 unfold XR
 rcases N5 hi first _ lo d (Nat.le_refl _) hl hb hs with ⟨x,y,z,h⟩|⟨x,y,z,h⟩
 ·rw[h];rfl
 ·rw[h];rfl
theorem CB {hi first:Nat}: ∀(k:Nat) (d:Array Ed),k<1152921504606846976→first+hi≤d.size→d.size<1152921504606846976→
  ∃x y,Loop (HZ CC first 0 hi) ((k:Int)-1,eA d)=some (x,y,eA (heapBuild ag hi first k d))
 | 0,d,hk,hb,hs=>⟨-1,false,aZ (by
   simp (disch:=omega) only[HZ,Cv,un,ar,if_neg]
   rfl)⟩
 | k+1,d,hk,hb,hs=>by
  obtain ⟨x,y,ih⟩:=CB (hi:=hi) (first:=first) k (siftDown ag hi first k d) (by omega) (by rw[rH _ _ _ _ _ (Nat.le_refl _)];omega) (by rw[rH _ _ _ _ _ (Nat.le_refl _)];omega)
  refine ⟨x,y,(cF ?_).trans ih⟩
  simp (disch:=omega) only[HZ,Cv,un,ar,if_pos,me,CA,Option.bind_some,V.ba,V.jM,wrap64]
theorem CD {first:Nat}: ∀(k:Nat) (d:Array Ed),k<1152921504606846976→first+k≤d.size→d.size<1152921504606846976→
  ∃x y,Loop (H0 CC first 0) ((k:Int)-1,eA d)=some (x,y,eA (heapPop ag first k d))
 | 0,d,hk,hb,hs=>⟨-1,false,aZ (by
   simp (disch:=omega) only[H0,Cw,un,ar,if_neg]
   rfl)⟩
 | k+1,d,hk,hb,hs=>by
  obtain ⟨x,y,ih⟩:=CD (first:=first) k (siftDown ag k first 0 (swp d first (first+k))) (by omega) (by rw[rH _ _ _ _ _ (Nat.le_refl _),size_swp];omega) (by rw[rH _ _ _ _ _ (Nat.le_refl _),size_swp];omega)
  refine ⟨x,y,(cF ?_).trans ih⟩
  have iN:=CA (lo:=0) (hi:=k) (first:=first) (d:=swp d first (first+k)) (by omega) (by rw[size_swp];omega) (by rw[size_swp];omega)
  unfold swp at iN⊢
  rw[show ((0:Nat):Int)=0 from rfl] at iN
  simp (disch:=omega) only[H0,Cw,un,me,ar,cl,dp,if_pos,if_neg,wrap64,bK,cT,Int.toNat_natCast,Option.bind_some,cR,cU,Ed.bR,Ed.bS,Ed.bU,Ed.re,cS,dC,Array.size_setIfInBounds,gO,V.ba,V.toInt_int,cond_true,cond_false]
  rw[iN]
  simp (disch:=omega) only[Option.bind_some,V.ba,V.jM,wrap64]
theorem N6 {a b:Nat} {d:Array Ed} (cP:a<b) (hb:b≤d.size) (hs:d.size<1152921504606846976):
  CC GB [.int .i64 (a:Int),.int .i64 (b:Int),.list aj (eA d)]=some [.list aj (eA (heapSort ag d a b))]:=by
 refine ahW ?_
 unfold XU
 obtain ⟨x,y,h1⟩:=CB (hi:=b-a) (first:=a) ((b-a-1)/2+1) d (by omega) (by omega) hs
 obtain ⟨x2,y2,h2⟩:=CD (first:=a) (b-a) (heapBuild ag (b-a) a ((b-a-1)/2+1) d) (by omega) (by rw[Cr];omega) (by rw[Cr];omega)
 have e1:((((b-a-1)/2+1:Nat):Int)-1)=Int.tdiv (((b-a:Nat):Int)-1) 2:=by
  rw[Int.tdiv_eq_ediv_of_nonneg (by omega)]
  omega
 rw[e1] at h1
 simp (disch:=omega) only[fE,wrap64]
 rw[h1]
 simp only[Option.bind_some,un]
 rw[h2]
 rfl
theorem N7: ∀(n i j:Nat) (d:Array Ed),j-i≤n→j<d.size→d.size<1152921504606846976→
  ∃x y z,Loop (Cx CC) ((i:Int),(j:Int),eA d)=some (x,y,z,eA (reverseLoop i j d)):=by
 intro n
 induction n with
 | zero=>
  intro i j d hn hj hs
  rw[reverseLoop,if_neg (by omega)]
  exact ⟨(i:Int),(j:Int),false,aZ (by
   simp (disch:=omega) only[Cx,xY,un,jS,cond_false])⟩
 | succ n ih=>
  intro i j d hn hj hs
  rw[reverseLoop]
  by_cases h:i<j
  ·rw[if_pos h]
   obtain ⟨x,y,z,h2⟩:=ih (i+1) (j-1) (swp d i j) (by omega) (by rw[size_swp];omega) (by rw[size_swp];omega)
   refine ⟨x,y,z,(cF ?_).trans h2⟩
   simp (disch:=omega) only[Cx,xY,un,ar,cl,dp,if_pos,if_neg,wrap64,bK,cT,Int.toNat_natCast,Option.bind_some,cR,cU,Ed.bR,Ed.bS,Ed.bU,Ed.re,cS,dC,Array.size_setIfInBounds,gO,V.ba,V.toInt_int,cond_true,cond_false,eJ]
   rfl
  ·rw[if_neg h]
   exact ⟨(i:Int),(j:Int),false,aZ (by
    simp (disch:=omega) only[Cx,xY,un,jS,cond_false])⟩
theorem N8 {a b:Nat} {d:Array Ed} (cP:a<b) (hb:b≤d.size) (hs:d.size<1152921504606846976):
  CC KM [.int .i64 (a:Int),.int .i64 (b:Int),.list aj (eA d)]=some [.list aj (eA (reverseRange d a b))]:=by
 refine ahZ ?_
 unfold XX
 obtain ⟨x,y,z,h⟩:=N7 _ a (b-1) d (Nat.le_refl _) (by omega) hs
 simp (disch:=omega) only[eJ,wrap64]
 rw[h]
 rfl
end Go.AM.SL
set_option maxRecDepth 100000
namespace Go.AM
open Go.Proofs
noncomputable abbrev pU:Code:=ch Tryd.prog (aq.aO 181)
noncomputable def CE (C:ae) (a j:Int) (ab:List V) (i:Int) {β:Type} (kn:Int→Option β) (kr:(Int × Bool)→Option β):Option β:=
 bif decide ((i:Int)≤j) then
  bif (decide (0≤i))&&(decide (i<(ab.length:Int))) then
  (ab[(i:Int).toNat]?).bind fun x5=>
  bif (decide (0≤a))&&(decide (a<(ab.length:Int))) then
   (ab[(a:Int).toNat]?).bind fun x6=>
   (C bq [.int .i64 ((x5.cell 0).toInt),.int .i64 ((x5.cell 1).toInt),.int .i64 ((x5.cell 2).toInt),.int .i64 ((x6.cell 0).toInt),.int .i64 ((x6.cell 1).toInt),.int .i64 ((x6.cell 2).toInt)]).bind fun r7=>
   bif decide ((((V.nth r7 0).toInt):Int)<0) then
   kn (IntKind.wrap .i64 (i+1))
   else
   kr (i,decide ((((V.nth r7 0).toInt):Int)<0))
  else none
  else none
 else
  kr (i,false)
noncomputable def CF (C:ae) (a j:Int) (ab:List V):(Int)→Option ((Int) ⊕ (Int × Bool)):=fun i=>CE C a j ab i (fun y=>some (.inl y)) (fun r=>some (.inr r))
noncomputable def xZ (C:ae) (a i:Int) (ab:List V) (j:Int) {β:Type} (kn:Int→Option β) (kr:(Int × Bool)→Option β):Option β:=
 bif decide ((i:Int)≤j) then
  bif (decide (0≤j))&&(decide (j<(ab.length:Int))) then
  (ab[(j:Int).toNat]?).bind fun eO=>
  bif (decide (0≤a))&&(decide (a<(ab.length:Int))) then
   (ab[(a:Int).toNat]?).bind fun dH=>
   (C bq [.int .i64 ((eO.cell 0).toInt),.int .i64 ((eO.cell 1).toInt),.int .i64 ((eO.cell 2).toInt),.int .i64 ((dH.cell 0).toInt),.int .i64 ((dH.cell 1).toInt),.int .i64 ((dH.cell 2).toInt)]).bind fun fw=>
   bif !(decide ((((V.nth fw 0).toInt):Int)<0)) then
   kn (IntKind.wrap .i64 (j-1))
   else
   kr (j,!(decide ((((V.nth fw 0).toInt):Int)<0)))
  else none
  else none
 else
  kr (j,false)
noncomputable def ya (C:ae) (a i:Int) (ab:List V):(Int)→Option ((Int) ⊕ (Int × Bool)):=fun j=>xZ C a i ab j (fun y=>some (.inl y)) (fun r=>some (.inr r))
noncomputable def CG (C:ae) (a j:Int) (ab:List V) (i:Int) {β:Type} (kn:Int→Option β) (kr:(Int × Bool)→Option β):Option β:=
 bif decide ((i:Int)≤j) then
  bif (decide (0≤i))&&(decide (i<(ab.length:Int))) then
  (ab[(i:Int).toNat]?).bind fun fl=>
  bif (decide (0≤a))&&(decide (a<(ab.length:Int))) then
   (ab[(a:Int).toNat]?).bind fun la=>
   (C bq [.int .i64 ((fl.cell 0).toInt),.int .i64 ((fl.cell 1).toInt),.int .i64 ((fl.cell 2).toInt),.int .i64 ((la.cell 0).toInt),.int .i64 ((la.cell 1).toInt),.int .i64 ((la.cell 2).toInt)]).bind fun CH=>
   bif decide ((((V.nth CH 0).toInt):Int)<0) then
   kn (IntKind.wrap .i64 (i+1))
   else
   kr (i,decide ((((V.nth CH 0).toInt):Int)<0))
  else none
  else none
 else
  kr (i,false)
noncomputable def CI (C:ae) (a j:Int) (ab:List V):(Int)→Option ((Int) ⊕ (Int × Bool)):=fun i=>CG C a j ab i (fun y=>some (.inl y)) (fun r=>some (.inr r))
noncomputable def yb (C:ae) (a i:Int) (ab:List V) (j:Int) {β:Type} (kn:Int→Option β) (kr:(Int × Bool)→Option β):Option β:=
 bif decide ((i:Int)≤j) then
  bif (decide (0≤j))&&(decide (j<(ab.length:Int))) then
  (ab[(j:Int).toNat]?).bind fun lb=>
  bif (decide (0≤a))&&(decide (a<(ab.length:Int))) then
   (ab[(a:Int).toNat]?).bind fun ld=>
   (C bq [.int .i64 ((lb.cell 0).toInt),.int .i64 ((lb.cell 1).toInt),.int .i64 ((lb.cell 2).toInt),.int .i64 ((ld.cell 0).toInt),.int .i64 ((ld.cell 1).toInt),.int .i64 ((ld.cell 2).toInt)]).bind fun oL=>
   bif !(decide ((((V.nth oL 0).toInt):Int)<0)) then
   kn (IntKind.wrap .i64 (j-1))
   else
   kr (j,!(decide ((((V.nth oL 0).toInt):Int)<0)))
  else none
  else none
 else
  kr (j,false)
noncomputable def yc (C:ae) (a i:Int) (ab:List V):(Int)→Option ((Int) ⊕ (Int × Bool)):=fun j=>yb C a i ab j (fun y=>some (.inl y)) (fun r=>some (.inr r))
noncomputable def CJ (C:ae) (a i j:Int) (ab:List V) {β:Type} (kn:(Int × Int × (List V))→Option β) (kr:(Int × Int × Bool × (List V))→Option β):Option β:=
 (Loop (CI C a j ab) i).bind (un fun (eU:Int) (Wv:Bool)=>
  (Loop (yc C a eU ab) j).bind (un fun (gE:Int) (ah0:Bool)=>
   bif decide ((eU:Int)>gE) then
    kr (eU,gE,decide ((eU:Int)>gE),ab)
   else
    bif (decide (0≤gE))&&(decide (gE<(ab.length:Int))) then
    (ab[(gE:Int).toNat]?).bind fun jc=>
    bif (decide (0≤eU))&&(decide (eU<(ab.length:Int))) then
     (ab[(eU:Int).toNat]?).bind fun vd=>
     bif (decide (0≤eU))&&(decide (eU<(ab.length:Int))) then
     (ab[(eU:Int).toNat]?).bind fun x35=>
     bif (decide (0≤gE))&&(decide (gE<((ab.set ((eU:Int).toNat) (.agg [.int .i64 ((jc.cell 0).toInt),.int .i64 ((jc.cell 1).toInt),.int .i64 ((jc.cell 2).toInt)])).length:Int))) then
      ((ab.set ((eU:Int).toNat) (.agg [.int .i64 ((jc.cell 0).toInt),.int .i64 ((jc.cell 1).toInt),.int .i64 ((jc.cell 2).toInt)]))[(gE:Int).toNat]?).bind fun x36=>
      kn (IntKind.wrap .i64 (eU+1),IntKind.wrap .i64 (gE-1),(ab.set ((eU:Int).toNat) (.agg [.int .i64 ((jc.cell 0).toInt),.int .i64 ((jc.cell 1).toInt),.int .i64 ((jc.cell 2).toInt)])).set ((gE:Int).toNat) (.agg [.int .i64 ((vd.cell 0).toInt),.int .i64 ((vd.cell 1).toInt),.int .i64 ((vd.cell 2).toInt)]))
     else none
     else none
    else none
    else none))
noncomputable def yd (C:ae) (a:Int):(Int × Int × (List V))→Option ((Int × Int × (List V)) ⊕ (Int × Int × Bool × (List V))):=un fun i=>un fun j ab=>CJ C a i j ab (fun y=>some (.inl y)) (fun r=>some (.inr r))
noncomputable def XY (C:ae):b6:=fun β n ds k=>
 bif Nat.beq n 49 then bd MR [false,true,false,false] [[1,0,3,0,4]] (@CE C) ds k else
 bif Nat.beq n 81 then bd MS [false,false,true,false] [[1,2,0,0,4]] (@xZ C) ds k else
 bif Nat.beq n 209 then bd MT [false,true,false,false] [[1,0,3,0,4]] (@CG C) ds k else
 bif Nat.beq n 241 then bd MU [false,false,true,false] [[1,2,0,0,4]] (@yb C) ds k else
 bif Nat.beq n 210 then bd MV [false,true,true,true] [[1,0,0,0,0]] (@CJ C) ds k else
 none
abbrev CK (C:ae) (b:bY):Prop:=bZ Tryd.prog aq C (XY C) 181 (cm Tryd.prog (aq.aO 181)) (aq.sin 181).aW.length b
theorem ah1 (C:ae):CK C (.loop (an [1,1,1,0,0,0] pU)):=
 bh MR [false,true,false,false] [[1,0,3,0,4]] (@CE C) (by kernel_rfl) (aI (bs:=[]) (by kernel_rfl) ao) (fun ds=>by kernel_rfl) (fun i x=>by kernel_rfl) (fun i x β k=>by kernel_rfl) (fun β ds k=>by kernel_rfl)
theorem ah2 (C:ae):CK C (.loop (an [1,1,1,1,0,0,0] pU)):=
 bh MS [false,false,true,false] [[1,2,0,0,4]] (@xZ C) (by kernel_rfl) (aI (bs:=[]) (by kernel_rfl) ao) (fun ds=>by kernel_rfl) (fun i x=>by kernel_rfl) (fun i x β k=>by kernel_rfl) (fun β ds k=>by kernel_rfl)
theorem ah3 (C:ae):CK C (.loop (an [1,1,1,1,1,1,1,1,1,0,0,0,0,0,0,0] pU)):=
 bh MT [false,true,false,false] [[1,0,3,0,4]] (@CG C) (by kernel_rfl) (aI (bs:=[]) (by kernel_rfl) ao) (fun ds=>by kernel_rfl) (fun i x=>by kernel_rfl) (fun i x β k=>by kernel_rfl) (fun β ds k=>by kernel_rfl)
theorem ah4 (C:ae):CK C (.loop (an [1,1,1,1,1,1,1,1,1,0,0,0,0,1,0,0,0] pU)):=
 bh MU [false,false,true,false] [[1,2,0,0,4]] (@yb C) (by kernel_rfl) (aI (bs:=[]) (by kernel_rfl) ao) (fun ds=>by kernel_rfl) (fun i x=>by kernel_rfl) (fun i x β k=>by kernel_rfl) (fun β ds k=>by kernel_rfl)
theorem ah5 (C:ae):CK C (.loop (an [1,1,1,1,1,1,1,1,1,0,0,0] pU)):=
 bh MV [false,true,true,true] [[1,0,0,0,0]] (@CJ C) (by kernel_rfl) (aI (bs:=[.loop (an [1,1,1,1,1,1,1,1,1,0,0,0,0,0,0,0] pU),.loop (an [1,1,1,1,1,1,1,1,1,0,0,0,0,1,0,0,0] pU)]) (by kernel_rfl) (aU (ah3 C) (aU (ah4 C) ao))) (fun ds=>by kernel_rfl) (fun i x=>by kernel_rfl) (fun i x β k=>by kernel_rfl) (fun β ds k=>by kernel_rfl)
noncomputable def XZ (C:ae) (a b' pivot:Int) (ab:List V):Option (List V):=
 bif (decide (0≤pivot))&&(decide (pivot<(ab.length:Int))) then
  (ab[(pivot:Int).toNat]?).bind fun x1=>
  bif (decide (0≤a))&&(decide (a<(ab.length:Int))) then
  (ab[(a:Int).toNat]?).bind fun x2=>
  bif (decide (0≤a))&&(decide (a<(ab.length:Int))) then
   (ab[(a:Int).toNat]?).bind fun x3=>
   bif (decide (0≤pivot))&&(decide (pivot<((ab.set ((a:Int).toNat) (.agg [.int .i64 ((x1.cell 0).toInt),.int .i64 ((x1.cell 1).toInt),.int .i64 ((x1.cell 2).toInt)])).length:Int))) then
   ((ab.set ((a:Int).toNat) (.agg [.int .i64 ((x1.cell 0).toInt),.int .i64 ((x1.cell 1).toInt),.int .i64 ((x1.cell 2).toInt)]))[(pivot:Int).toNat]?).bind fun x4=>
   (Loop (CF C a (IntKind.wrap .i64 (b'-1)) ((ab.set ((a:Int).toNat) (.agg [.int .i64 ((x1.cell 0).toInt),.int .i64 ((x1.cell 1).toInt),.int .i64 ((x1.cell 2).toInt)])).set ((pivot:Int).toNat) (.agg [.int .i64 ((x2.cell 0).toInt),.int .i64 ((x2.cell 1).toInt),.int .i64 ((x2.cell 2).toInt)]))) (IntKind.wrap .i64 (a+1))).bind (un fun (cw:Int) (mT:Bool)=>
    (Loop (ya C a cw ((ab.set ((a:Int).toNat) (.agg [.int .i64 ((x1.cell 0).toInt),.int .i64 ((x1.cell 1).toInt),.int .i64 ((x1.cell 2).toInt)])).set ((pivot:Int).toNat) (.agg [.int .i64 ((x2.cell 0).toInt),.int .i64 ((x2.cell 1).toInt),.int .i64 ((x2.cell 2).toInt)]))) (IntKind.wrap .i64 (b'-1))).bind (un fun (bW:Int) (uS:Bool)=>
     bif decide ((cw:Int)>bW) then
      bif (decide (0≤a))&&(decide (a<(((ab.set ((a:Int).toNat) (.agg [.int .i64 ((x1.cell 0).toInt),.int .i64 ((x1.cell 1).toInt),.int .i64 ((x1.cell 2).toInt)])).set ((pivot:Int).toNat) (.agg [.int .i64 ((x2.cell 0).toInt),.int .i64 ((x2.cell 1).toInt),.int .i64 ((x2.cell 2).toInt)])).length:Int))) then
      (((ab.set ((a:Int).toNat) (.agg [.int .i64 ((x1.cell 0).toInt),.int .i64 ((x1.cell 1).toInt),.int .i64 ((x1.cell 2).toInt)])).set ((pivot:Int).toNat) (.agg [.int .i64 ((x2.cell 0).toInt),.int .i64 ((x2.cell 1).toInt),.int .i64 ((x2.cell 2).toInt)]))[(a:Int).toNat]?).bind fun cO=>
      bif (decide (0≤bW))&&(decide (bW<(((ab.set ((a:Int).toNat) (.agg [.int .i64 ((x1.cell 0).toInt),.int .i64 ((x1.cell 1).toInt),.int .i64 ((x1.cell 2).toInt)])).set ((pivot:Int).toNat) (.agg [.int .i64 ((x2.cell 0).toInt),.int .i64 ((x2.cell 1).toInt),.int .i64 ((x2.cell 2).toInt)])).length:Int))) then
       (((ab.set ((a:Int).toNat) (.agg [.int .i64 ((x1.cell 0).toInt),.int .i64 ((x1.cell 1).toInt),.int .i64 ((x1.cell 2).toInt)])).set ((pivot:Int).toNat) (.agg [.int .i64 ((x2.cell 0).toInt),.int .i64 ((x2.cell 1).toInt),.int .i64 ((x2.cell 2).toInt)]))[(bW:Int).toNat]?).bind fun db=>
       bif (decide (0≤bW))&&(decide (bW<(((ab.set ((a:Int).toNat) (.agg [.int .i64 ((x1.cell 0).toInt),.int .i64 ((x1.cell 1).toInt),.int .i64 ((x1.cell 2).toInt)])).set ((pivot:Int).toNat) (.agg [.int .i64 ((x2.cell 0).toInt),.int .i64 ((x2.cell 1).toInt),.int .i64 ((x2.cell 2).toInt)])).length:Int))) then
       (((ab.set ((a:Int).toNat) (.agg [.int .i64 ((x1.cell 0).toInt),.int .i64 ((x1.cell 1).toInt),.int .i64 ((x1.cell 2).toInt)])).set ((pivot:Int).toNat) (.agg [.int .i64 ((x2.cell 0).toInt),.int .i64 ((x2.cell 1).toInt),.int .i64 ((x2.cell 2).toInt)]))[(bW:Int).toNat]?).bind fun ku=>
       bif (decide (0≤a))&&(decide (a<((((ab.set ((a:Int).toNat) (.agg [.int .i64 ((x1.cell 0).toInt),.int .i64 ((x1.cell 1).toInt),.int .i64 ((x1.cell 2).toInt)])).set ((pivot:Int).toNat) (.agg [.int .i64 ((x2.cell 0).toInt),.int .i64 ((x2.cell 1).toInt),.int .i64 ((x2.cell 2).toInt)])).set ((bW:Int).toNat) (.agg [.int .i64 ((cO.cell 0).toInt),.int .i64 ((cO.cell 1).toInt),.int .i64 ((cO.cell 2).toInt)])).length:Int))) then
        ((((ab.set ((a:Int).toNat) (.agg [.int .i64 ((x1.cell 0).toInt),.int .i64 ((x1.cell 1).toInt),.int .i64 ((x1.cell 2).toInt)])).set ((pivot:Int).toNat) (.agg [.int .i64 ((x2.cell 0).toInt),.int .i64 ((x2.cell 1).toInt),.int .i64 ((x2.cell 2).toInt)])).set ((bW:Int).toNat) (.agg [.int .i64 ((cO.cell 0).toInt),.int .i64 ((cO.cell 1).toInt),.int .i64 ((cO.cell 2).toInt)]))[(a:Int).toNat]?).bind fun xJ=>
        some [.int .i64 bW,.bool true,.list aj ((((ab.set ((a:Int).toNat) (.agg [.int .i64 ((x1.cell 0).toInt),.int .i64 ((x1.cell 1).toInt),.int .i64 ((x1.cell 2).toInt)])).set ((pivot:Int).toNat) (.agg [.int .i64 ((x2.cell 0).toInt),.int .i64 ((x2.cell 1).toInt),.int .i64 ((x2.cell 2).toInt)])).set ((bW:Int).toNat) (.agg [.int .i64 ((cO.cell 0).toInt),.int .i64 ((cO.cell 1).toInt),.int .i64 ((cO.cell 2).toInt)])).set ((a:Int).toNat) (.agg [.int .i64 ((db.cell 0).toInt),.int .i64 ((db.cell 1).toInt),.int .i64 ((db.cell 2).toInt)]))]
       else none
       else none
      else none
      else none
     else
      bif (decide (0≤bW))&&(decide (bW<(((ab.set ((a:Int).toNat) (.agg [.int .i64 ((x1.cell 0).toInt),.int .i64 ((x1.cell 1).toInt),.int .i64 ((x1.cell 2).toInt)])).set ((pivot:Int).toNat) (.agg [.int .i64 ((x2.cell 0).toInt),.int .i64 ((x2.cell 1).toInt),.int .i64 ((x2.cell 2).toInt)])).length:Int))) then
      (((ab.set ((a:Int).toNat) (.agg [.int .i64 ((x1.cell 0).toInt),.int .i64 ((x1.cell 1).toInt),.int .i64 ((x1.cell 2).toInt)])).set ((pivot:Int).toNat) (.agg [.int .i64 ((x2.cell 0).toInt),.int .i64 ((x2.cell 1).toInt),.int .i64 ((x2.cell 2).toInt)]))[(bW:Int).toNat]?).bind fun fS=>
      bif (decide (0≤cw))&&(decide (cw<(((ab.set ((a:Int).toNat) (.agg [.int .i64 ((x1.cell 0).toInt),.int .i64 ((x1.cell 1).toInt),.int .i64 ((x1.cell 2).toInt)])).set ((pivot:Int).toNat) (.agg [.int .i64 ((x2.cell 0).toInt),.int .i64 ((x2.cell 1).toInt),.int .i64 ((x2.cell 2).toInt)])).length:Int))) then
       (((ab.set ((a:Int).toNat) (.agg [.int .i64 ((x1.cell 0).toInt),.int .i64 ((x1.cell 1).toInt),.int .i64 ((x1.cell 2).toInt)])).set ((pivot:Int).toNat) (.agg [.int .i64 ((x2.cell 0).toInt),.int .i64 ((x2.cell 1).toInt),.int .i64 ((x2.cell 2).toInt)]))[(cw:Int).toNat]?).bind fun jQ=>
       bif (decide (0≤cw))&&(decide (cw<(((ab.set ((a:Int).toNat) (.agg [.int .i64 ((x1.cell 0).toInt),.int .i64 ((x1.cell 1).toInt),.int .i64 ((x1.cell 2).toInt)])).set ((pivot:Int).toNat) (.agg [.int .i64 ((x2.cell 0).toInt),.int .i64 ((x2.cell 1).toInt),.int .i64 ((x2.cell 2).toInt)])).length:Int))) then
       (((ab.set ((a:Int).toNat) (.agg [.int .i64 ((x1.cell 0).toInt),.int .i64 ((x1.cell 1).toInt),.int .i64 ((x1.cell 2).toInt)])).set ((pivot:Int).toNat) (.agg [.int .i64 ((x2.cell 0).toInt),.int .i64 ((x2.cell 1).toInt),.int .i64 ((x2.cell 2).toInt)]))[(cw:Int).toNat]?).bind fun nP=>
       bif (decide (0≤bW))&&(decide (bW<((((ab.set ((a:Int).toNat) (.agg [.int .i64 ((x1.cell 0).toInt),.int .i64 ((x1.cell 1).toInt),.int .i64 ((x1.cell 2).toInt)])).set ((pivot:Int).toNat) (.agg [.int .i64 ((x2.cell 0).toInt),.int .i64 ((x2.cell 1).toInt),.int .i64 ((x2.cell 2).toInt)])).set ((cw:Int).toNat) (.agg [.int .i64 ((fS.cell 0).toInt),.int .i64 ((fS.cell 1).toInt),.int .i64 ((fS.cell 2).toInt)])).length:Int))) then
        ((((ab.set ((a:Int).toNat) (.agg [.int .i64 ((x1.cell 0).toInt),.int .i64 ((x1.cell 1).toInt),.int .i64 ((x1.cell 2).toInt)])).set ((pivot:Int).toNat) (.agg [.int .i64 ((x2.cell 0).toInt),.int .i64 ((x2.cell 1).toInt),.int .i64 ((x2.cell 2).toInt)])).set ((cw:Int).toNat) (.agg [.int .i64 ((fS.cell 0).toInt),.int .i64 ((fS.cell 1).toInt),.int .i64 ((fS.cell 2).toInt)]))[(bW:Int).toNat]?).bind fun B0=>
        (Loop (yd C a) (IntKind.wrap .i64 (cw+1),IntKind.wrap .i64 (bW-1),(((ab.set ((a:Int).toNat) (.agg [.int .i64 ((x1.cell 0).toInt),.int .i64 ((x1.cell 1).toInt),.int .i64 ((x1.cell 2).toInt)])).set ((pivot:Int).toNat) (.agg [.int .i64 ((x2.cell 0).toInt),.int .i64 ((x2.cell 1).toInt),.int .i64 ((x2.cell 2).toInt)])).set ((cw:Int).toNat) (.agg [.int .i64 ((fS.cell 0).toInt),.int .i64 ((fS.cell 1).toInt),.int .i64 ((fS.cell 2).toInt)])).set ((bW:Int).toNat) (.agg [.int .i64 ((jQ.cell 0).toInt),.int .i64 ((jQ.cell 1).toInt),.int .i64 ((jQ.cell 2).toInt)]))).bind (un fun (ah6:Int)=>un fun (gZ:Int)=>un fun (ah7:Bool) (eg:List V)=>
         bif (decide (0≤a))&&(decide (a<(eg.length:Int))) then
         (eg[(a:Int).toNat]?).bind fun fy=>
         bif (decide (0≤gZ))&&(decide (gZ<(eg.length:Int))) then
          (eg[(gZ:Int).toNat]?).bind fun lf=>
          bif (decide (0≤gZ))&&(decide (gZ<(eg.length:Int))) then
          (eg[(gZ:Int).toNat]?).bind fun x43=>
          bif (decide (0≤a))&&(decide (a<((eg.set ((gZ:Int).toNat) (.agg [.int .i64 ((fy.cell 0).toInt),.int .i64 ((fy.cell 1).toInt),.int .i64 ((fy.cell 2).toInt)])).length:Int))) then
           ((eg.set ((gZ:Int).toNat) (.agg [.int .i64 ((fy.cell 0).toInt),.int .i64 ((fy.cell 1).toInt),.int .i64 ((fy.cell 2).toInt)]))[(a:Int).toNat]?).bind fun x44=>
           some [.int .i64 gZ,.bool false,.list aj ((eg.set ((gZ:Int).toNat) (.agg [.int .i64 ((fy.cell 0).toInt),.int .i64 ((fy.cell 1).toInt),.int .i64 ((fy.cell 2).toInt)])).set ((a:Int).toNat) (.agg [.int .i64 ((lf.cell 0).toInt),.int .i64 ((lf.cell 1).toInt),.int .i64 ((lf.cell 2).toInt)]))]
          else none
          else none
         else none
         else none)
       else none
       else none
      else none
      else none))
   else none
  else none
  else none
 else none
theorem ah8 {a b' pivot:Int} {ab:List V} {r:Option (List V)} (h:XZ CC a b' pivot ab=r):CC oC [.int .i64 a,.int .i64 b',.int .i64 pivot,.list aj ab]=r:=
 bf (key:=181) (L:=XY CC) (bs:=[.loop (an [1,1,1,0,0,0] pU),.loop (an [1,1,1,1,0,0,0] pU),.loop (an [1,1,1,1,1,1,1,1,1,0,0,0] pU)]) (by kernel_rfl) (aU (ah1 CC) (aU (ah2 CC) (aU (ah5 CC) ao))) (Eq.trans (by kernel_rfl) h)
noncomputable abbrev ye:Code:=ch Tryd.prog (aq.aO 182)
noncomputable def CL (C:ae) (a j:Int) (ab:List V) (i:Int) {β:Type} (kn:Int→Option β) (kr:(Int × Bool)→Option β):Option β:=
 bif decide ((i:Int)≤j) then
  bif (decide (0≤a))&&(decide (a<(ab.length:Int))) then
  (ab[(a:Int).toNat]?).bind fun x5=>
  bif (decide (0≤i))&&(decide (i<(ab.length:Int))) then
   (ab[(i:Int).toNat]?).bind fun x6=>
   (C bq [.int .i64 ((x5.cell 0).toInt),.int .i64 ((x5.cell 1).toInt),.int .i64 ((x5.cell 2).toInt),.int .i64 ((x6.cell 0).toInt),.int .i64 ((x6.cell 1).toInt),.int .i64 ((x6.cell 2).toInt)]).bind fun r7=>
   bif !(decide ((((V.nth r7 0).toInt):Int)<0)) then
   kn (IntKind.wrap .i64 (i+1))
   else
   kr (i,!(decide ((((V.nth r7 0).toInt):Int)<0)))
  else none
  else none
 else
  kr (i,false)
noncomputable def CM (C:ae) (a j:Int) (ab:List V):(Int)→Option ((Int) ⊕ (Int × Bool)):=fun i=>CL C a j ab i (fun y=>some (.inl y)) (fun r=>some (.inr r))
noncomputable def yf (C:ae) (a i:Int) (ab:List V) (j:Int) {β:Type} (kn:Int→Option β) (kr:(Int × Bool)→Option β):Option β:=
 bif decide ((i:Int)≤j) then
  bif (decide (0≤a))&&(decide (a<(ab.length:Int))) then
  (ab[(a:Int).toNat]?).bind fun eO=>
  bif (decide (0≤j))&&(decide (j<(ab.length:Int))) then
   (ab[(j:Int).toNat]?).bind fun dH=>
   (C bq [.int .i64 ((eO.cell 0).toInt),.int .i64 ((eO.cell 1).toInt),.int .i64 ((eO.cell 2).toInt),.int .i64 ((dH.cell 0).toInt),.int .i64 ((dH.cell 1).toInt),.int .i64 ((dH.cell 2).toInt)]).bind fun fw=>
   bif decide ((((V.nth fw 0).toInt):Int)<0) then
   kn (IntKind.wrap .i64 (j-1))
   else
   kr (j,decide ((((V.nth fw 0).toInt):Int)<0))
  else none
  else none
 else
  kr (j,false)
noncomputable def yg (C:ae) (a i:Int) (ab:List V):(Int)→Option ((Int) ⊕ (Int × Bool)):=fun j=>yf C a i ab j (fun y=>some (.inl y)) (fun r=>some (.inr r))
noncomputable def CN (C:ae) (a i j:Int) (ab:List V) {β:Type} (kn:(Int × Int × (List V))→Option β) (kr:(Int × Int × Bool × (List V))→Option β):Option β:=
 (Loop (CM C a j ab) i).bind (un fun (cw:Int) (mT:Bool)=>
  (Loop (yg C a cw ab) j).bind (un fun (bW:Int) (uS:Bool)=>
   bif decide ((cw:Int)>bW) then
    kr (cw,bW,decide ((cw:Int)>bW),ab)
   else
    bif (decide (0≤bW))&&(decide (bW<(ab.length:Int))) then
    (ab[(bW:Int).toNat]?).bind fun cO=>
    bif (decide (0≤cw))&&(decide (cw<(ab.length:Int))) then
     (ab[(cw:Int).toNat]?).bind fun db=>
     bif (decide (0≤cw))&&(decide (cw<(ab.length:Int))) then
     (ab[(cw:Int).toNat]?).bind fun ku=>
     bif (decide (0≤bW))&&(decide (bW<((ab.set ((cw:Int).toNat) (.agg [.int .i64 ((cO.cell 0).toInt),.int .i64 ((cO.cell 1).toInt),.int .i64 ((cO.cell 2).toInt)])).length:Int))) then
      ((ab.set ((cw:Int).toNat) (.agg [.int .i64 ((cO.cell 0).toInt),.int .i64 ((cO.cell 1).toInt),.int .i64 ((cO.cell 2).toInt)]))[(bW:Int).toNat]?).bind fun xJ=>
      kn (IntKind.wrap .i64 (cw+1),IntKind.wrap .i64 (bW-1),(ab.set ((cw:Int).toNat) (.agg [.int .i64 ((cO.cell 0).toInt),.int .i64 ((cO.cell 1).toInt),.int .i64 ((cO.cell 2).toInt)])).set ((bW:Int).toNat) (.agg [.int .i64 ((db.cell 0).toInt),.int .i64 ((db.cell 1).toInt),.int .i64 ((db.cell 2).toInt)]))
     else none
     else none
    else none
    else none))
noncomputable def yh (C:ae) (a:Int):(Int × Int × (List V))→Option ((Int × Int × (List V)) ⊕ (Int × Int × Bool × (List V))):=un fun i=>un fun j ab=>CN C a i j ab (fun y=>some (.inl y)) (fun r=>some (.inr r))
noncomputable def X0 (C:ae):b6:=fun β n ds k=>
 bif Nat.beq n 49 then bd MW [false,true,false,false] [[1,0,3,0,4]] (@CL C) ds k else
 bif Nat.beq n 81 then bd MX [false,false,true,false] [[1,2,0,0,4]] (@yf C) ds k else
 bif Nat.beq n 50 then bd MY [false,true,true,true] [[1,0,0,0,0]] (@CN C) ds k else
 none
abbrev N9 (C:ae) (b:bY):Prop:=bZ Tryd.prog aq C (X0 C) 182 (cm Tryd.prog (aq.aO 182)) (aq.sin 182).aW.length b
theorem ah9 (C:ae):N9 C (.loop (an [1,1,1,0,0,0,0,0,0,0] ye)):=
 bh MW [false,true,false,false] [[1,0,3,0,4]] (@CL C) (by kernel_rfl) (aI (bs:=[]) (by kernel_rfl) ao) (fun ds=>by kernel_rfl) (fun i x=>by kernel_rfl) (fun i x β k=>by kernel_rfl) (fun β ds k=>by kernel_rfl)
theorem aia (C:ae):N9 C (.loop (an [1,1,1,0,0,0,0,1,0,0,0] ye)):=
 bh MX [false,false,true,false] [[1,2,0,0,4]] (@yf C) (by kernel_rfl) (aI (bs:=[]) (by kernel_rfl) ao) (fun ds=>by kernel_rfl) (fun i x=>by kernel_rfl) (fun i x β k=>by kernel_rfl) (fun β ds k=>by kernel_rfl)
theorem aib (C:ae):N9 C (.loop (an [1,1,1,0,0,0] ye)):=
 bh MY [false,true,true,true] [[1,0,0,0,0]] (@CN C) (by kernel_rfl) (aI (bs:=[.loop (an [1,1,1,0,0,0,0,0,0,0] ye),.loop (an [1,1,1,0,0,0,0,1,0,0,0] ye)]) (by kernel_rfl) (aU (ah9 C) (aU (aia C) ao))) (fun ds=>by kernel_rfl) (fun i x=>by kernel_rfl) (fun i x β k=>by kernel_rfl) (fun β ds k=>by kernel_rfl)
noncomputable def X1 (C:ae) (a b' pivot:Int) (ab:List V):Option (List V):=
 bif (decide (0≤pivot))&&(decide (pivot<(ab.length:Int))) then
  (ab[(pivot:Int).toNat]?).bind fun x1=>
  bif (decide (0≤a))&&(decide (a<(ab.length:Int))) then
  (ab[(a:Int).toNat]?).bind fun x2=>
  bif (decide (0≤a))&&(decide (a<(ab.length:Int))) then
   (ab[(a:Int).toNat]?).bind fun x3=>
   bif (decide (0≤pivot))&&(decide (pivot<((ab.set ((a:Int).toNat) (.agg [.int .i64 ((x1.cell 0).toInt),.int .i64 ((x1.cell 1).toInt),.int .i64 ((x1.cell 2).toInt)])).length:Int))) then
   ((ab.set ((a:Int).toNat) (.agg [.int .i64 ((x1.cell 0).toInt),.int .i64 ((x1.cell 1).toInt),.int .i64 ((x1.cell 2).toInt)]))[(pivot:Int).toNat]?).bind fun x4=>
   (Loop (yh C a) (IntKind.wrap .i64 (a+1),IntKind.wrap .i64 (b'-1),(ab.set ((a:Int).toNat) (.agg [.int .i64 ((x1.cell 0).toInt),.int .i64 ((x1.cell 1).toInt),.int .i64 ((x1.cell 2).toInt)])).set ((pivot:Int).toNat) (.agg [.int .i64 ((x2.cell 0).toInt),.int .i64 ((x2.cell 1).toInt),.int .i64 ((x2.cell 2).toInt)]))).bind (un fun (Oa:Int)=>un fun (aic:Int)=>un fun (aid:Bool) (Ob:List V)=>
    some [.int .i64 Oa,.list aj Ob])
   else none
  else none
  else none
 else none
theorem aie {a b' pivot:Int} {ab:List V} {r:Option (List V)} (h:X1 CC a b' pivot ab=r):CC xe [.int .i64 a,.int .i64 b',.int .i64 pivot,.list aj ab]=r:=
 bf (key:=182) (L:=X0 CC) (bs:=[.loop (an [1,1,1,0,0,0] ye)]) (by kernel_rfl) (aU (aib CC) ao) (Eq.trans (by kernel_rfl) h)
noncomputable abbrev nQ:Code:=ch Tryd.prog (aq.aO 180)
noncomputable def CO (C:ae) (a b' j:Int) (ab:List V) (i:Int) {β:Type} (kn:Int→Option β) (kr:(Int × Bool)→Option β):Option β:=
 bif decide ((i:Int)<b') then
  bif (decide (0≤i))&&(decide (i<(ab.length:Int))) then
  (ab[(i:Int).toNat]?).bind fun x1=>
  bif (decide (0≤(IntKind.wrap .i64 (i-1))))&&(decide ((IntKind.wrap .i64 (i-1))<(ab.length:Int))) then
   (ab[(IntKind.wrap .i64 (i-1):Int).toNat]?).bind fun x2=>
   (C bq [.int .i64 ((x1.cell 0).toInt),.int .i64 ((x1.cell 1).toInt),.int .i64 ((x1.cell 2).toInt),.int .i64 ((x2.cell 0).toInt),.int .i64 ((x2.cell 1).toInt),.int .i64 ((x2.cell 2).toInt)]).bind fun r3=>
   bif !(decide ((((V.nth r3 0).toInt):Int)<0)) then
   kn (IntKind.wrap .i64 (i+1))
   else
   kr (i,!(decide ((((V.nth r3 0).toInt):Int)<0)))
  else none
  else none
 else
  kr (i,false)
noncomputable def CP (C:ae) (a b' j:Int) (ab:List V):(Int)→Option ((Int) ⊕ (Int × Bool)):=fun i=>CO C a b' j ab i (fun y=>some (.inl y)) (fun r=>some (.inr r))
noncomputable def CQ (C:ae) (a b' i j j':Int) (ab:List V) {β:Type} (kn:(Int × (List V))→Option β) (kr:(Int × (List V))→Option β):Option β:=
 bif decide ((j':Int)≥1) then
  bif (decide (0≤j'))&&(decide (j'<(ab.length:Int))) then
  (ab[(j':Int).toNat]?).bind fun eO=>
  bif (decide (0≤(IntKind.wrap .i64 (j'-1))))&&(decide ((IntKind.wrap .i64 (j'-1))<(ab.length:Int))) then
   (ab[(IntKind.wrap .i64 (j'-1):Int).toNat]?).bind fun dH=>
   (C bq [.int .i64 ((eO.cell 0).toInt),.int .i64 ((eO.cell 1).toInt),.int .i64 ((eO.cell 2).toInt),.int .i64 ((dH.cell 0).toInt),.int .i64 ((dH.cell 1).toInt),.int .i64 ((dH.cell 2).toInt)]).bind fun fw=>
   bif !(decide ((((V.nth fw 0).toInt):Int)<0)) then
   kr (j',ab)
   else
   bif (decide (0≤(IntKind.wrap .i64 (j'-1))))&&(decide ((IntKind.wrap .i64 (j'-1))<(ab.length:Int))) then
    (ab[(IntKind.wrap .i64 (j'-1):Int).toNat]?).bind fun dW=>
    bif (decide (0≤j'))&&(decide (j'<(ab.length:Int))) then
    (ab[(j':Int).toNat]?).bind fun gD=>
    bif (decide (0≤j'))&&(decide (j'<(ab.length:Int))) then
     (ab[(j':Int).toNat]?).bind fun cO=>
     bif (decide (0≤(IntKind.wrap .i64 (j'-1))))&&(decide ((IntKind.wrap .i64 (j'-1))<((ab.set ((j':Int).toNat) (.agg [.int .i64 ((dW.cell 0).toInt),.int .i64 ((dW.cell 1).toInt),.int .i64 ((dW.cell 2).toInt)])).length:Int))) then
     ((ab.set ((j':Int).toNat) (.agg [.int .i64 ((dW.cell 0).toInt),.int .i64 ((dW.cell 1).toInt),.int .i64 ((dW.cell 2).toInt)]))[(IntKind.wrap .i64 (j'-1):Int).toNat]?).bind fun db=>
     kn (IntKind.wrap .i64 (j'-1),(ab.set ((j':Int).toNat) (.agg [.int .i64 ((dW.cell 0).toInt),.int .i64 ((dW.cell 1).toInt),.int .i64 ((dW.cell 2).toInt)])).set ((IntKind.wrap .i64 (j'-1):Int).toNat) (.agg [.int .i64 ((gD.cell 0).toInt),.int .i64 ((gD.cell 1).toInt),.int .i64 ((gD.cell 2).toInt)]))
     else none
    else none
    else none
   else none
  else none
  else none
 else
  kr (j',ab)
noncomputable def CR (C:ae) (a b' i j:Int):(Int × (List V))→Option ((Int × (List V)) ⊕ (Int × (List V))):=un fun j' ab=>CQ C a b' i j j' ab (fun y=>some (.inl y)) (fun r=>some (.inr r))
noncomputable def H2 (C:ae) (a b' i j:Int) (t65:Bool) (ab:List V) {β:Type} (kr:(List V)→Option β):Option β:=
 bif t65 then
  (Loop (CR C a b' i j) (IntKind.wrap .i64 (i-1),ab)).bind (un fun (aif:Int) (Oc:List V)=>
   kr Oc)
 else
  kr ab
noncomputable def CS (C:ae) (a b' i j j':Int) (ab:List V) {β:Type} (kn:(Int × (List V))→Option β) (kr:(Int × (List V))→Option β):Option β:=
 bif decide ((j':Int)<b') then
  bif (decide (0≤j'))&&(decide (j'<(ab.length:Int))) then
  (ab[(j':Int).toNat]?).bind fun jQ=>
  bif (decide (0≤(IntKind.wrap .i64 (j'-1))))&&(decide ((IntKind.wrap .i64 (j'-1))<(ab.length:Int))) then
   (ab[(IntKind.wrap .i64 (j'-1):Int).toNat]?).bind fun nP=>
   (C bq [.int .i64 ((jQ.cell 0).toInt),.int .i64 ((jQ.cell 1).toInt),.int .i64 ((jQ.cell 2).toInt),.int .i64 ((nP.cell 0).toInt),.int .i64 ((nP.cell 1).toInt),.int .i64 ((nP.cell 2).toInt)]).bind fun ew=>
   bif !(decide ((((V.nth ew 0).toInt):Int)<0)) then
   kr (j',ab)
   else
   bif (decide (0≤(IntKind.wrap .i64 (j'-1))))&&(decide ((IntKind.wrap .i64 (j'-1))<(ab.length:Int))) then
    (ab[(IntKind.wrap .i64 (j'-1):Int).toNat]?).bind fun fl=>
    bif (decide (0≤j'))&&(decide (j'<(ab.length:Int))) then
    (ab[(j':Int).toNat]?).bind fun la=>
    bif (decide (0≤j'))&&(decide (j'<(ab.length:Int))) then
     (ab[(j':Int).toNat]?).bind fun x25=>
     bif (decide (0≤(IntKind.wrap .i64 (j'-1))))&&(decide ((IntKind.wrap .i64 (j'-1))<((ab.set ((j':Int).toNat) (.agg [.int .i64 ((fl.cell 0).toInt),.int .i64 ((fl.cell 1).toInt),.int .i64 ((fl.cell 2).toInt)])).length:Int))) then
     ((ab.set ((j':Int).toNat) (.agg [.int .i64 ((fl.cell 0).toInt),.int .i64 ((fl.cell 1).toInt),.int .i64 ((fl.cell 2).toInt)]))[(IntKind.wrap .i64 (j'-1):Int).toNat]?).bind fun x26=>
     kn (IntKind.wrap .i64 (j'+1),(ab.set ((j':Int).toNat) (.agg [.int .i64 ((fl.cell 0).toInt),.int .i64 ((fl.cell 1).toInt),.int .i64 ((fl.cell 2).toInt)])).set ((IntKind.wrap .i64 (j'-1):Int).toNat) (.agg [.int .i64 ((la.cell 0).toInt),.int .i64 ((la.cell 1).toInt),.int .i64 ((la.cell 2).toInt)]))
     else none
    else none
    else none
   else none
  else none
  else none
 else
  kr (j',ab)
noncomputable def CT (C:ae) (a b' i j:Int):(Int × (List V))→Option ((Int × (List V)) ⊕ (Int × (List V))):=un fun j' ab=>CS C a b' i j j' ab (fun y=>some (.inl y)) (fun r=>some (.inr r))
noncomputable def CU (C:ae) (a b' i j:Int) (ab:List V) {β:Type} (kn:(Int × Int × (List V))→Option β) (kr:((Bool × (List V)) ⊕ (Int × Int × Bool × (List V)))→Option β):Option β:=
 bif decide ((j:Int)<5) then
  (Loop (CP C a b' j ab) i).bind (un fun (cE:Int) (lP:Bool)=>
   bif (cE:Int)==b' then
   kr (.inl (true,ab))
   else
   bif decide (((IntKind.wrap .i64 (b'-a)):Int)<50) then
    kr (.inl (false,ab))
   else
    bif (decide (0≤(IntKind.wrap .i64 (cE-1))))&&(decide ((IntKind.wrap .i64 (cE-1))<(ab.length:Int))) then
    (ab[(IntKind.wrap .i64 (cE-1):Int).toNat]?).bind fun x6=>
    bif (decide (0≤cE))&&(decide (cE<(ab.length:Int))) then
     (ab[(cE:Int).toNat]?).bind fun x7=>
     bif (decide (0≤cE))&&(decide (cE<(ab.length:Int))) then
     (ab[(cE:Int).toNat]?).bind fun x8=>
     bif (decide (0≤(IntKind.wrap .i64 (cE-1))))&&(decide ((IntKind.wrap .i64 (cE-1))<((ab.set ((cE:Int).toNat) (.agg [.int .i64 ((x6.cell 0).toInt),.int .i64 ((x6.cell 1).toInt),.int .i64 ((x6.cell 2).toInt)])).length:Int))) then
      ((ab.set ((cE:Int).toNat) (.agg [.int .i64 ((x6.cell 0).toInt),.int .i64 ((x6.cell 1).toInt),.int .i64 ((x6.cell 2).toInt)]))[(IntKind.wrap .i64 (cE-1):Int).toNat]?).bind fun x9=>
      H2 C a b' cE j (decide (((IntKind.wrap .i64 (cE-a)):Int)≥2)) ((ab.set ((cE:Int).toNat) (.agg [.int .i64 ((x6.cell 0).toInt),.int .i64 ((x6.cell 1).toInt),.int .i64 ((x6.cell 2).toInt)])).set ((IntKind.wrap .i64 (cE-1):Int).toNat) (.agg [.int .i64 ((x7.cell 0).toInt),.int .i64 ((x7.cell 1).toInt),.int .i64 ((x7.cell 2).toInt)])) (fun (CV:List V)=>
       bif decide (((IntKind.wrap .i64 (b'-cE)):Int)≥2) then
       (Loop (CT C a b' cE j) (IntKind.wrap .i64 (cE+1),CV)).bind (un fun (aih:Int) (Od:List V)=>
        kn (cE,IntKind.wrap .i64 (j+1),Od))
       else
       kn (cE,IntKind.wrap .i64 (j+1),CV))
     else none
     else none
    else none
    else none)
 else
  kr (.inr (i,j,decide ((j:Int)<5),ab))
noncomputable def s9 (C:ae) (a b':Int):(Int × Int × (List V))→Option ((Int × Int × (List V)) ⊕ ((Bool × (List V)) ⊕ (Int × Int × Bool × (List V)))):=un fun i=>un fun j ab=>CU C a b' i j ab (fun y=>some (.inl y)) (fun r=>some (.inr r))
noncomputable def X2 (C:ae):b6:=fun β n ds k=>
 bif Nat.beq n 81 then bd MM [false,false,true,false,false] [[1,2,0,4,0,5]] (@CO C) ds k else
 bif Nat.beq n 225 then bd MN [false,false,false,false,true,true] [[1,2,3,4,0,0]] (@CQ C) ds k else
 bif Nat.beq n 1055 then iq MO [[1,2,3,4,0]] (@H2 C) ds k else
 bif Nat.beq n 321 then bd MP [false,false,false,false,true,true] [[1,2,3,4,0,0]] (@CS C) ds k else
 bif Nat.beq n 49 then bd MQ [false,false,true,true,true] [[0,0],[1,2,0,0,0,0]] (@CU C) ds k else
 none
abbrev CW (C:ae) (b:bY):Prop:=bZ Tryd.prog aq C (X2 C) 180 (cm Tryd.prog (aq.aO 180)) (aq.sin 180).aW.length b
theorem aii (C:ae):CW C (.loop (an [1,1,0,1,0,0,1,0,0,0,0,0] nQ)):=
 bh MM [false,false,true,false,false] [[1,2,0,4,0,5]] (@CO C) (by kernel_rfl) (aI (bs:=[]) (by kernel_rfl) ao) (fun ds=>by kernel_rfl) (fun i x=>by kernel_rfl) (fun i x β k=>by kernel_rfl) (fun β ds k=>by kernel_rfl)
theorem aij (C:ae):CW C (.loop (an [1,1,0,1,0,0,1,0,0,1,1,1,1,0,1,0,1,0,0] nQ)):=
 bh MN [false,false,false,false,true,true] [[1,2,3,4,0,0]] (@CQ C) (by kernel_rfl) (aI (bs:=[]) (by kernel_rfl) ao) (fun ds=>by kernel_rfl) (fun i x=>by kernel_rfl) (fun i x β k=>by kernel_rfl) (fun β ds k=>by kernel_rfl)
theorem aik (C:ae):CW C (.cond 65 (an [1,1,0,1,0,0,1,0,0,1,1,1,1,0,1,0] nQ) (an [1,1,0,1,0,0,1,0,0,1,1,1,1,0,1,1] nQ)):=
 iT MO [[1,2,3,4,0]] (@H2 C) (by kernel_rfl) (aI (bs:=[.loop (an [1,1,0,1,0,0,1,0,0,1,1,1,1,0,1,0,1,0,0] nQ)]) (by kernel_rfl) (aU (aij C) ao)) (aI (bs:=[]) (by kernel_rfl) ao) (fun ds=>by kernel_rfl) (fun i β k=>by kernel_rfl) (fun β ds k=>by kernel_rfl)
theorem ail (C:ae):CW C (.loop (an [1,1,0,1,0,0,1,0,0,1,1,1,1,1,1,0,1,0,0] nQ)):=
 bh MP [false,false,false,false,true,true] [[1,2,3,4,0,0]] (@CS C) (by kernel_rfl) (aI (bs:=[]) (by kernel_rfl) ao) (fun ds=>by kernel_rfl) (fun i x=>by kernel_rfl) (fun i x β k=>by kernel_rfl) (fun β ds k=>by kernel_rfl)
theorem aim (C:ae):CW C (.loop (an [1,1,0,1,0,0] nQ)):=
 bh MQ [false,false,true,true,true] [[0,0],[1,2,0,0,0,0]] (@CU C) (by kernel_rfl) (aI (bs:=[.loop (an [1,1,0,1,0,0,1,0,0,0,0,0] nQ),.cond 65 (an [1,1,0,1,0,0,1,0,0,1,1,1,1,0,1,0] nQ) (an [1,1,0,1,0,0,1,0,0,1,1,1,1,0,1,1] nQ),.loop (an [1,1,0,1,0,0,1,0,0,1,1,1,1,1,1,0,1,0,0] nQ)]) (by kernel_rfl) (aU (aii C) (aU (aik C) (aU (ail C) ao)))) (fun ds=>by kernel_rfl) (fun i x=>by kernel_rfl) (fun i x β k=>by kernel_rfl) (fun β ds k=>by kernel_rfl)
noncomputable def X3 (C:ae) (a b':Int) (ab:List V):Option (List V):=
 (Loop (s9 C a b') (IntKind.wrap .i64 (a+1),0,ab)).bind (cI (un fun (Oe:Bool) (Of:List V)=>
  some [.bool Oe,.list aj Of]) (un fun (ain:Int)=>un fun (aio:Int)=>un fun (aip:Bool) (Og:List V)=>
  some [.bool false,.list aj Og]))
theorem aiq {a b':Int} {ab:List V} {r:Option (List V)} (h:X3 CC a b' ab=r):CC KN [.int .i64 a,.int .i64 b',.list aj ab]=r:=
 bf (key:=180) (L:=X2 CC) (bs:=[.loop (an [1,1,0,1,0,0] nQ)]) (by kernel_rfl) (aU (aim CC) ao) (Eq.trans (by kernel_rfl) h)
end Go.AM
