/-
  Functions of the program, lifted to plain data.
-/
import Derived.Sort.AssemblyPlain
import Derived.Test.YtmcdbnalaobmpaaDoorP4
set_option linter.unusedVariables false
set_option linter.unusedSimpArgs false
set_option maxRecDepth 100000
namespace Go.AM
section
variable {β:Type} [DecidableEq β]
def aV (g:Nat→β):Nat→List β
 | 0=>[]
 | n+1=>dD (aV g n) (g n)
theorem PV (g:Nat→β): ∀n,(aV g n).Nodup
 | 0=>List.nodup_nil
 | n+1=>X3 (PV g n)
theorem j6 {g:Nat→β} {v:β}: ∀{n},v∈aV g n↔∃q,q<n∧g q=v
 | 0=>⟨fun h=>(by cases h),fun ⟨q,h,_⟩=>(by omega)⟩
 | n+1=>by
  have ih:=j6 (g:=g) (v:=v) (n:=n)
  rw[aV]
  unfold dD
  constructor
  ·intro h
   split at h
   ·obtain ⟨q,h1,h2⟩:=ih.1 h;exact ⟨q,by omega,h2⟩
   ·rcases ew.1 h with h|h
    ·obtain ⟨q,h1,h2⟩:=ih.1 h;exact ⟨q,by omega,h2⟩
    ·exact ⟨n,by omega,(iO.1 h).symm⟩
  ·rintro ⟨q,h1,h2⟩
   rcases eV q n with c|c
   ·exact (Jn (aV g n) (g n)).subset (ih.2 ⟨q,c,h2⟩)
   ·obtain rfl:q=n:=by omega
    rw[←h2];exact zL
theorem aio {g:Nat→β} {m n:Nat} (h:m≤n):aV g m <+: aV g n:=by
 induction n with
 | zero=>rw[ya.1 h];exact pG _
 | succ n ih=>
  rcases eV m (n+1) with c|c
  ·exact (ih (by omega)).trans (Jn _ _)
  ·rw[show m=n+1 by omega];exact pG _
theorem tw (g:Nat→β): ∀n,(aV g n).length≤n
 | 0=>aE _
 | n+1=>by
  have:=tw g n
  rw[aV,u7]
  split<;>omega
def cJ (g:Nat→β) (n q:Nat):Nat:=(aV g n).idxOf (g q)
theorem DY {g:Nat→β} {n q:Nat} (h:q<n):cJ g n q<(aV g n).length:=vF (j6.2 ⟨q,h,rfl⟩)
theorem DZ {g:Nat→β} {n p q:Nat} (hp:p<n) (hq:q<n):cJ g n p=cJ g n q↔g p=g q:=by
 constructor
 ·intro h
  have h1:=List.getElem_idxOf (DY (g:=g) hp)
  have h2:=List.getElem_idxOf (DY (g:=g) hq)
  rw[←h1,←h2]
  exact getElem_congr_idx h
 ·intro h;unfold cJ;rw[h]
theorem D0 {g:Nat→β} {m n q:Nat} (h:q<m) (hm:m≤n):cJ g n q=cJ g m q:=zO (aio hm) (j6.2 ⟨q,h,rfl⟩)
theorem PW {g:Nat→β} {q:Nat} (h:g q∈aV g q):aV g (q+1)=aV g q:=by rw[aV];unfold dD;rw[ag h]
theorem PX {g:Nat→β} {q:Nat} (h:g q∉aV g q):aV g (q+1)=aV g q++[g q]:=by rw[aV];unfold dD;rw[ah h]
theorem Y0 {g:Nat→β} {n q:Nat} (hq:q<n) (h:g q∈aV g q):cJ g n q=(aV g q).idxOf (g q):=by
 rw[D0 (show q<q+1 by omega) (by omega)]
 unfold cJ
 rw[PW h]
theorem Y1 {g:Nat→β} {n q:Nat} (hq:q<n) (h:g q∉aV g q):cJ g n q=(aV g q).length:=by
 rw[D0 (show q<q+1 by omega) (by omega)]
 unfold cJ
 rw[PX h,vE,ah h]
 simp
def qh (p:Nat→Nat) (n:Nat):Prop:= ∀m,m≤n→aV p m=List.range (aV p m).length
theorem Y2 (g:Nat→β) (n:Nat): ∀m,m≤n→aV (cJ g n) m=List.range (aV g m).length:=by
 intro m
 induction m with
 | zero=>intro _;rfl
 | succ m ih=>
  intro hm
  have ih:=ih (by omega)
  have e1:cJ g n m=cJ g (m+1) m:=D0 (by omega) hm
  have e2:cJ g (m+1) m=if g m∈aV g m then (aV g m).idxOf (g m) else (aV g m).length:=by
   unfold cJ
   rw[aV]
   unfold dD
   split
   ·rfl
   ·rename_i h
    rw[vE,ah h]
    simp
  rw[aV,ih,aV,u7]
  unfold dD
  by_cases h:g m∈aV g m
  ·have:=vF h
   rw[ag h] at e2
   rw[ag h,ag (by rw[e1,e2];exact iR.2 this)]
  ·rw[ah h] at e2
   rw[ah h,ah (by rw[e1,e2];simp),e1,e2,List.range_succ]
theorem PY (g:Nat→β) (n:Nat):qh (cJ g n) n:=fun m hm=>by
 rw[Y2 g n m hm,List.length_range]
theorem PZ {γ:Type} [DecidableEq γ] {f:Nat→β} {c:Nat→γ} {n:Nat} (hr: ∀q q',q<n→q'<n→f q=f q'→c q=c q') (hl:(aV f n).length≤(aV c n).length):
  ∀q q',q<n→q'<n→c q=c q'→f q=f q':=by
 intro q q' hq ct hc
 refine Decidable.byContradiction fun hf=> ?_
 have rep: ∀v∈aV f n,∃q,q<n∧f q=v:=fun v hv=>j6.1 hv
 have: ∃R:β→Nat,∀v∈aV f n,R v<n∧f (R v)=v:=by
  classical
  refine ⟨fun v=>if h:v∈aV f n then Classical.choose (rep v h) else 0,fun v hv=> ?_⟩
  simp only[hv,nH]
  exact Classical.choose_spec (rep v hv)
 obtain ⟨R,hR⟩:=this
 have jv:aV c n ⊆ ((aV f n).filter fun v=>decide (v≠f q')).map fun v=>c (R v):=by
  intro u hu
  obtain ⟨s,hs,rfl⟩:=j6.1 hu
  by_cases h:f s=f q'
  ·refine fE.2 ⟨f q,List.mem_filter.2 ⟨j6.2 ⟨q,hq,rfl⟩,bX hf⟩,?_⟩
   have h1:=hR (f q) (j6.2 ⟨q,hq,rfl⟩)
   rw[hr _ _ h1.1 hq h1.2,hc,hr _ _ hs ct h]
  ·refine fE.2 ⟨f s,List.mem_filter.2 ⟨j6.2 ⟨s,hs,rfl⟩,bX h⟩,?_⟩
   have h1:=hR (f s) (j6.2 ⟨s,hs,rfl⟩)
   exact hr _ _ h1.1 hs h1.2
 have h1:=List.Nodup.length_le_of_subset (PV c n) jv
 rw[cy] at h1
 have h2:((aV f n).filter fun v=>decide (v≠f q')).length<(aV f n).length:=by
  have hm:f q'∈aV f n:=j6.2 ⟨q',ct,rfl⟩
  have aX:=List.length_filter_lt_length_iff_exists (p:=fun v=>decide (v≠f q')) (l:=aV f n)
  exact aX.2 ⟨f q',hm,by simp⟩
 omega
theorem Y3 {γ:Type} [DecidableEq γ] {f:Nat→β} {c:Nat→γ} {n:Nat} (hr: ∀q q',q<n→q'<n→f q=f q'→c q=c q'):(aV c n).length≤(aV f n).length:=by
 rcases eV (aV f n).length (aV c n).length with h|h
 ·have:=PZ hr (by omega)
  have rep: ∀v∈aV f n,∃q,q<n∧f q=v:=fun v hv=>j6.1 hv
  have: ∃R:β→Nat,∀v∈aV f n,R v<n∧f (R v)=v:=by
   classical
   refine ⟨fun v=>if h:v∈aV f n then Classical.choose (rep v h) else 0,fun v hv=> ?_⟩
   simp only[hv,nH]
   exact Classical.choose_spec (rep v hv)
  obtain ⟨R,hR⟩:=this
  have jv:aV c n ⊆ (aV f n).map fun v=>c (R v):=by
   intro u hu
   obtain ⟨s,hs,rfl⟩:=j6.1 hu
   have h1:=hR (f s) (j6.2 ⟨s,hs,rfl⟩)
   exact fE.2 ⟨f s,j6.2 ⟨s,hs,rfl⟩,hr _ _ h1.1 hs h1.2⟩
  have h1:=List.Nodup.length_le_of_subset (PV c n) jv
  rw[cy] at h1
  omega
 ·exact h
theorem aip {γ:Type} [DecidableEq γ] {f:Nat→β} {c:Nat→γ} {n:Nat} (h: ∀q q',q<n→q'<n→(f q=f q'↔c q=c q')): ∀q,q<n→cJ f n q=cJ c n q:=by
 have key: ∀m,m≤n→(aV f m).length=(aV c m).length∧∀q,q<m→cJ f m q=cJ c m q:=by
  intro m
  induction m with
  | zero=>intro _;exact ⟨rfl,fun q hq=>by omega⟩
  | succ m ih=>
   intro hm
   obtain ⟨i1,i2⟩:=ih (by omega)
   have qK:f m∈aV f m↔c m∈aV c m:=by
    rw[j6,j6]
    exact ⟨fun ⟨q,h1,h2⟩=>⟨q,h1,(h q m (by omega) (by omega)).1 h2⟩,fun ⟨q,h1,h2⟩=>⟨q,h1,(h q m (by omega) (by omega)).2 h2⟩⟩
   refine ⟨?_,fun q hq=> ?_⟩
   ·rw[aV,aV,u7,u7,i1]
    by_cases hx:f m∈aV f m
    ·rw[ag hx,ag (qK.1 hx)]
    ·rw[ah hx,ah fun h=>hx (qK.2 h)]
   ·rcases eV q m with c1|c1
    ·exact (D0 (g:=f) c1 (by omega)).trans ((i2 q c1).trans (D0 (g:=c) c1 (by omega)).symm)
    ·obtain rfl:q=m:=by omega
     unfold cJ
     rw[aV,aV]
     by_cases hx:f q∈aV f q
     ·obtain ⟨r,h1,h2⟩:=j6.1 hx
      have h3:=(h r q (by omega) (by omega)).1 h2
      have:=i2 r h1
      unfold cJ at this
      unfold dD
      rw[ag hx,ag (qK.1 hx),←h2,←h3,this]
     ·unfold dD
      rw[ah hx,ah fun h=>hx (qK.2 h),vE,vE,ah hx,ah fun h=>hx (qK.2 h)]
      simp[i1]
 exact (key n (aE _)).2
end
namespace Da
structure Part (a:Da) (c:Nat→Nat):Prop where
 coarse: ∀q q',q<a.n→q'<a.n→a.pn q a q'→c q=c q'
 fin: ∀q q',q<a.n→q'<a.n→c q=c q'→a.fin q=a.fin q'
def sig (a:Da) (c:Nat→Nat) (q:Nat):List Nat:=c q::(List.range a.L).map fun x=>c (a.nx q x)
theorem xg {a:Da} {c:Nat→Nat} {q q':Nat}:a.sig c q=a.sig c q'↔c q=c q'∧∀x,x<a.L→c (a.nx q x)=c (a.nx q' x):=by
 unfold sig
 rw[xY]
 refine and_congr Iff.rfl ⟨fun h x hx=> ?_,fun h=>oP fun x hx=>h x (iR.1 hx)⟩
 have:=congrArg (fun l=>l.getD x 0) h
 simpa[hx] using this
def JL (a:Da) (c f:Nat→Nat):Prop:= ∀q q',q<a.n→q'<a.n→(f q=f q'↔a.sig c q=a.sig c q')
theorem JL.part {a:Da} {c f:Nat→Nat} (h:a.JL c f) (ha:a.Ok) (hc:a.Part c):a.Part f where
 coarse q q' hq ct he:=(h q q' hq ct).2 (xg.2 ⟨hc.coarse q q' hq ct he,fun x hx=>hc.coarse _ _ (ha.fy hq hx) (ha.fy ct hx) (he.nx hx)⟩)
 fin q q' hq ct he:=hc.fin q q' hq ct (xg.1 ((h q q' hq ct).1 he)).1
def xh (a:Da) (p:Nat→Nat):Prop:=(∀q q',q<a.n→q'<a.n→(p q=p q'↔a.pn q a q'))∧qh p a.n
theorem Part.Y4 {a:Da} {c:Nat→Nat} (hc:a.Part c) (ha:a.Ok) (hs: ∀q q',q<a.n→q'<a.n→c q=c q'→a.sig c q=a.sig c q'): ∀q q',q<a.n→q'<a.n→(c q=c q'↔a.pn q a q'):=by
 intro q q' hq ct
 refine ⟨fun h w=> ?_,hc.coarse q q' hq ct⟩
 induction w generalizing q q' with
 | nil=>intro _;rw[po,po];exact hc.fin q q' hq ct h
 | cons x w ih=>
  intro hw
  rw[Jk,Jk]
  exact ih _ _ (ha.fy hq hw.head) (ha.fy ct hw.head) ((xg.1 (hs q q' hq ct h)).2 x hw.head) hw.tail
def fC (p:Nat→Nat):Nat→List Nat
 | 0=>[]
 | n+1=>if p n∈aV p n then fC p n else fC p n++[n]
theorem JM {p:Nat→Nat}: ∀n,(fC p n).map p=aV p n
 | 0=>rfl
 | n+1=>by
  rw[fC,aV]
  unfold dD
  split
  ·exact JM n
  ·rw[qt,JM n];rfl
theorem D1 {p:Nat→Nat} {n:Nat}:(fC p n).length=(aV p n).length:=by rw[←JM,cy]
theorem xi {p:Nat→Nat}: ∀{n q},q∈fC p n→q<n
 | 0,q,h=>by cases h
 | n+1,q,h=>by
  rw[fC] at h
  split at h
  ·have:=xi h;omega
  ·rcases ew.1 h with h|h
   ·have:=xi h;omega
   ·rw[iO.1 h];omega
theorem zU {p:Nat→Nat} {n:Nat} (ho:qh p n) {c:Nat} (hc:c<(fC p n).length):p (fC p n)[c]=c:=by
 have h1:=ho n (aE _)
 have h2:((fC p n).map p)[c]? =some c:=by rw[JM,h1,A8 (by rw[D1] at hc;exact hc)]
 rw[fF,bM hc] at h2
 exact dq h2
theorem D2 {p:Nat→Nat} {n q:Nat} (ho:qh p n) (hq:q<n):p q<(fC p n).length:=by
 have h1:p q∈aV p n:=j6.2 ⟨q,hq,rfl⟩
 rw[ho n (aE _),iR] at h1
 rw[D1];exact h1
def quo (a:Da) (p:Nat→Nat):Da where
 L:=a.L
 st:=p a.st
 F:=(fC p a.n).map a.fin
 N:=(fC p a.n).map fun q=>tab a.L fun x=>p (a.nx q x)
theorem tx {a:Da} {p:Nat→Nat}:(a.quo p).n=(fC p a.n).length:=by simp[quo,n]
theorem Y5 {a:Da} {p:Nat→Nat} {c:Nat} (hc:c<(fC p a.n).length):(a.quo p).fin c=a.fin (fC p a.n)[c]:=by
 show ((fC p a.n).map a.fin).getD c false=_
 rw[gu (by simpa using hc),List.getElem_map]
theorem Y6 {a:Da} {p:Nat→Nat} {c x:Nat} (hc:c<(fC p a.n).length) (hx:x<a.L):(a.quo p).nx c x=p (a.nx (fC p a.n)[c] x):=by
 show (((fC p a.n).map fun q=>tab a.L fun x=>p (a.nx q x)).getD c []).getD x 0=_
 rw[gu (l:=(fC p a.n).map fun q=>tab a.L fun x=>p (a.nx q x)) (by simpa using hc),List.getElem_map,u9 hx]
section
variable {a:Da} {p:Nat→Nat} (ha:a.Ok) (hp:a.xh p)
include ha hp
theorem P0:(a.quo p).Ok where
 l1:=ha.l1
 l6:=ha.l6
 nN:=by rw[tx];simp[quo]
 row r hr:=by
  rw[tx]
  obtain ⟨q,hq,rfl⟩:=fE.1 (show r∈(fC p a.n).map _ from hr)
  refine ⟨by simp[quo],fun s hs=> ?_⟩
  obtain ⟨x,hx,rfl⟩:=tp.1 hs
  exact D2 hp.2 (ha.fy (xi hq) hx)
 s:=by rw[tx];exact D2 hp.2 ha.s
 e8:=by
  rw[tx,D1]
  have:=tw p a.n
  have:=ha.e8
  omega
theorem JN: ∀(w:List Nat) {q:Nat},q<a.n→WL a.L w→(a.quo p).acc (p q) w=a.acc q w
 | [],q,hq,_=>by
  have hc:=D2 hp.2 hq
  rw[po,po,Y5 hc]
  have h1:=(hp.1 _ _ (xi (gb hc)) hq).1 (zU hp.2 hc)
  have:=h1 [] WL.nil
  rwa [po,po] at this
 | x::w,q,hq,hw=>by
  have hc:=D2 hp.2 hq
  have hr:=xi (gb hc)
  have h1:=(hp.1 _ _ hr hq).1 (zU hp.2 hc)
  have h2:=(hp.1 _ _ (ha.fy hr hw.head) (ha.fy hq hw.head)).2 (h1.nx hw.head)
  rw[Jk,Jk,Y6 hc hw.head,h2]
  exact JN w (ha.fy hq hw.head) hw.tail
theorem aiq: ∀c d,c<(a.quo p).n→d<(a.quo p).n→(a.quo p).pn c (a.quo p) d→c=d:=by
 intro c d hc hd he
 rw[tx] at hc hd
 have r1:=xi (gb hc)
 have r2:=xi (gb hd)
 rw[←zU hp.2 hc,←zU hp.2 hd]
 refine (hp.1 _ _ r1 r2).2 fun w hw=> ?_
 rw[←JN ha hp w r1 hw,←JN ha hp w r2 hw,zU hp.2 hc,zU hp.2 hd]
 exact he w hw
theorem Y7:(a.quo p).trim.Canon a.L (a.acc a.st):=by
 have h:=(P0 ha hp).ahn (aiq ha hp)
 exact ⟨h.ok,h.hL,h.st,h.num,h.red,fun w hw=>(h.iy w hw).trans (JN ha hp w ha.s hw)⟩
end
end Da
end Go.AM
set_option maxRecDepth 100000
namespace Go.AM
open Go.Proofs
noncomputable abbrev vb:Code:=cA Tryd.prog (au.aU 109)
noncomputable def D3 (C:ae) (t24:List V) (t25 bf bx:Int) (bK bH:List V) (count t26:Int) (dA:List V) {β:Type} (kn:(Int × Int × (List V))→Option β) (kr:(Int × Int × Bool × (List V))→Option β):Option β:=
 bif decide ((t26:Int)<t25) then
  (idx t24 t26).bind fun x2=>
  (bK[0]?).bind fun x3=>
  bif !(x2.toBool==x3.toBool) then
  bif (decide (0≤t26))&&(decide (t26<(dA.length:Int))) then
   (dA[(t26:Int).toNat]?).bind fun x4=>
   kn (2,IntKind.wrap .i64 (t26+1),dA.set ((t26:Int).toNat) (.int .i64 1))
  else none
  else
  kn (count,IntKind.wrap .i64 (t26+1),dA)
 else
  kr (count,t26,decide ((t26:Int)<t25),dA)
noncomputable def JO (C:ae) (t24:List V) (t25 bf bx:Int) (bK bH:List V):(Int × Int × (List V))→Option ((Int × Int × (List V)) ⊕ (Int × Int × Bool × (List V))):=un fun count=>un fun t26 dA=>D3 C t24 t25 bf bx bK bH count t26 dA (fun y=>some (.inl y)) (fun r=>some (.inr r))
noncomputable def D4 (C:ae) (count q:Int) (t46:List V) (t47 t48:Int) (t58:List V) (t59 bf bx:Int) (bK bH dA numbers ou:List V) (t60 JP JQ JR JS JT JU JV:Int) {β:Type} (kn:(Int × Int × Int × Int × Int × Int × Int × Int)→Option β) (kr:(Int × Bool × Int × Int × Int × Int × Int × Int × Int)→Option β):Option β:=
 bif decide ((t60:Int)<t59) then
  (idx t58 t60).bind fun eo=>
  bif (decide (0≤eo.toInt))&&(decide (eo.toInt<(dA.length:Int))) then
  (dA[(eo.toInt:Int).toNat]?).bind fun rm=>
  bif (decide (0≤(IntKind.wrap .i64 (1+t60))))&&(decide ((IntKind.wrap .i64 (1+t60))<7)) then
   bif Nat.blt (0+(((IntKind.wrap .i64 (1+t60):Int).toNat)*1)) 7 then
   kn (IntKind.wrap .i64 (t60+1),bif Nat.beq (0+(((IntKind.wrap .i64 (1+t60):Int).toNat)*1)) 0 then rm.toInt else JP,bif Nat.beq (0+(((IntKind.wrap .i64 (1+t60):Int).toNat)*1)) 1 then rm.toInt else JQ,bif Nat.beq (0+(((IntKind.wrap .i64 (1+t60):Int).toNat)*1)) 2 then rm.toInt else JR,bif Nat.beq (0+(((IntKind.wrap .i64 (1+t60):Int).toNat)*1)) 3 then rm.toInt else JS,bif Nat.beq (0+(((IntKind.wrap .i64 (1+t60):Int).toNat)*1)) 4 then rm.toInt else JT,bif Nat.beq (0+(((IntKind.wrap .i64 (1+t60):Int).toNat)*1)) 5 then rm.toInt else JU,bif Nat.beq (0+(((IntKind.wrap .i64 (1+t60):Int).toNat)*1)) 6 then rm.toInt else JV)
   else none
  else none
  else none
 else
  kr (t60,decide ((t60:Int)<t59),JP,JQ,JR,JS,JT,JU,JV)
noncomputable def JW (C:ae) (count q:Int) (t46:List V) (t47 t48:Int) (t58:List V) (t59 bf bx:Int) (bK bH dA numbers ou:List V):(Int × Int × Int × Int × Int × Int × Int × Int)→Option ((Int × Int × Int × Int × Int × Int × Int × Int) ⊕ (Int × Bool × Int × Int × Int × Int × Int × Int × Int)):=un fun t60=>un fun JP=>un fun JQ=>un fun JR=>un fun JS=>un fun JT=>un fun JU JV=>D4 C count q t46 t47 t48 t58 t59 bf bx bK bH dA numbers ou t60 JP JQ JR JS JT JU JV (fun y=>some (.inl y)) (fun r=>some (.inr r))
noncomputable def D5 (C:ae) (count:Int) (t46:List V) (t47 bf bx:Int) (bK bH dA:List V) (t48:Int) (numbers ou:List V) {β:Type} (kn:(Int × (List V) × (List V))→Option β) (kr:(Int × Bool × (List V) × (List V))→Option β):Option β:=
 bif decide ((t48:Int)<t47) then
  (idx t46 t48).bind fun x9=>
  bif (decide (0≤t48))&&(decide (t48<(dA.length:Int))) then
  (dA[(t48:Int).toNat]?).bind fun fu=>
  (Loop (JW C count t48 t46 t47 t48 x9.toList (x9.toList.length:Int) bf bx bK bH dA numbers ou) (0,fu.toInt,0,0,0,0,0,0)).bind (un fun (u6:Int)=>un fun (xf:Bool)=>un fun (D6:Int)=>un fun (D7:Int)=>un fun (D8:Int)=>un fun (D9:Int)=>un fun (Ea:Int)=>un fun (Eb:Int) (Ec:Int)=>
   bif (dL .i64 D6&&(dL .i64 D7&&(dL .i64 D8&&(dL .i64 D9&&(dL .i64 Ea&&(dL .i64 Eb&&(dL .i64 Ec&&true)))))))&&true then
    bif !(iF (.agg [.int .i64 D6,.int .i64 D7,.int .i64 D8,.int .i64 D9,.int .i64 Ea,.int .i64 Eb,.int .i64 Ec]) numbers) then
    bif (dL .i64 D6&&(dL .i64 D7&&(dL .i64 D8&&(dL .i64 D9&&(dL .i64 Ea&&(dL .i64 Eb&&(dL .i64 Ec&&true)))))))&&true then
     bif (decide (0≤t48))&&(decide (t48<(ou.length:Int))) then
     (ou[(t48:Int).toNat]?).bind fun Y8=>
     kn (IntKind.wrap .i64 (t48+1),gB (.agg [.int .i64 D6,.int .i64 D7,.int .i64 D8,.int .i64 D9,.int .i64 Ea,.int .i64 Eb,.int .i64 Ec]) (.int .i64 (numbers.length:Int)) numbers,ou.set ((t48:Int).toNat) (.int .i64 (numbers.length:Int)))
     else none
    else none
    else
    bif (decide (0≤t48))&&(decide (t48<(ou.length:Int))) then
     (ou[(t48:Int).toNat]?).bind fun fZ=>
     kn (IntKind.wrap .i64 (t48+1),numbers,ou.set ((t48:Int).toNat) (.int .i64 ((ku (.agg [.int .i64 D6,.int .i64 D7,.int .i64 D8,.int .i64 D9,.int .i64 Ea,.int .i64 Eb,.int .i64 Ec]) numbers (.int .i64 0)).toInt)))
    else none
   else none)
  else none
 else
  kr (t48,decide ((t48:Int)<t47),numbers,ou)
noncomputable def JX (C:ae) (count:Int) (t46:List V) (t47 bf bx:Int) (bK bH dA:List V):(Int × (List V) × (List V))→Option ((Int × (List V) × (List V)) ⊕ (Int × Bool × (List V) × (List V))):=un fun t48=>un fun numbers ou=>D5 C count t46 t47 bf bx bK bH dA t48 numbers ou (fun y=>some (.inl y)) (fun r=>some (.inr r))
noncomputable def Ee (C:ae) (bf bx:Int) (bK bH:List V) (count:Int) (dA:List V) {β:Type} (kn:(Int × (List V))→Option β) (kr:(List V)→Option β):Option β:=
 bif (decide (0≤(dA.length:Int)))&&((decide ((dA.length:Int)≤(dA.length:Int)))&&(Nat.ble ((((dA.length:Int):Int).toNat)*8) cz)) then
  (Loop (JX C count bH (bH.length:Int) bf bx bK bH dA) (0,([]:List V),List.replicate (((dA.length:Int):Int).toNat) (V.int .i64 0))).bind (un fun (an7:Int)=>un fun (Y9:Bool)=>un fun (Za:List V) (Zb:List V)=>
   bif ((Za.length:Int):Int)==count then
   kr Zb
   else
   kn ((Za.length:Int),Zb))
 else none
noncomputable def Ef (C:ae) (bf bx:Int) (bK bH:List V):(Int × (List V))→Option ((Int × (List V)) ⊕ (List V)):=un fun count dA=>Ee C bf bx bK bH count dA (fun y=>some (.inl y)) (fun r=>some (.inr r))
noncomputable def Zc (C:ae):cl:=fun β n ds k=>
 bif Nat.beq n 81 then bt Oj [true,false,false,true,false,false,false,false,true] [[0,2,3,0,0,5,6,7,8,0]] (@D3 C) ds k else
 bif Nat.beq n 273 then bt Ol [false,false,false,false,false,false,false,true,false,false,false,false,false,false,false,true,true,true,true,true,true,true] [[1,2,3,4,5,6,7,0,0,9,10,11,12,13,14,15,0,0,0,0,0,0,0]] (@D4 C) ds k else
 bif Nat.beq n 209 then bt Om [false,false,false,true,false,false,false,false,false,true,true] [[1,2,3,0,0,5,6,7,8,9,0,0]] (@D5 C) ds k else
 bif Nat.beq n 161 then bt On [true,false,false,false,false,true] [[0]] (@Ee C) ds k else
 none
abbrev JY (C:ae) (b:ch):Prop:=cj Tryd.prog au C (Zc C) 109 (cH Tryd.prog (au.aU 109)) (au.sin 109).aZ.length b
theorem air (C:ae):JY C (.loop (aq [1,1,1,0,1,0,0] vb)):=
 bA Oj [true,false,false,true,false,false,false,false,true] [[0,2,3,0,0,5,6,7,8,0]] (@D3 C) (by kernel_rfl) (aK (bs:=[]) (by kernel_rfl) ar) (fun ds=>by kernel_rfl) (fun i x=>by kernel_rfl) (fun i x β k=>by kernel_rfl) (fun β ds k=>by kernel_rfl)
theorem ais (C:ae):JY C (.loop (aq [1,1,1,1,0,0,0,1,1,0,1,0,0,1,1,0,0,1,1,0,1,0,0] vb)):=
 bA Ol [false,false,false,false,false,false,false,true,false,false,false,false,false,false,false,true,true,true,true,true,true,true] [[1,2,3,4,5,6,7,0,0,9,10,11,12,13,14,15,0,0,0,0,0,0,0]] (@D4 C) (by kernel_rfl) (aK (bs:=[]) (by kernel_rfl) ar) (fun ds=>by kernel_rfl) (fun i x=>by kernel_rfl) (fun i x β k=>by kernel_rfl) (fun β ds k=>by kernel_rfl)
theorem ait (C:ae):JY C (.loop (aq [1,1,1,1,0,0,0,1,1,0,1,0,0] vb)):=
 bA Om [false,false,false,true,false,false,false,false,false,true,true] [[1,2,3,0,0,5,6,7,8,9,0,0]] (@D5 C) (by kernel_rfl) (aK (bs:=[.loop (aq [1,1,1,1,0,0,0,1,1,0,1,0,0,1,1,0,0,1,1,0,1,0,0] vb)]) (by kernel_rfl) (aY (ais C) ar)) (fun ds=>by kernel_rfl) (fun i x=>by kernel_rfl) (fun i x β k=>by kernel_rfl) (fun β ds k=>by kernel_rfl)
theorem aiu (C:ae):JY C (.loop (aq [1,1,1,1,0,0] vb)):=
 bA On [true,false,false,false,false,true] [[0]] (@Ee C) (by kernel_rfl) (aK (bs:=[.loop (aq [1,1,1,1,0,0,0,1,1,0,1,0,0] vb)]) (by kernel_rfl) (aY (ait C) ar)) (fun ds=>by kernel_rfl) (fun i x=>by kernel_rfl) (fun i x β k=>by kernel_rfl) (fun β ds k=>by kernel_rfl)
noncomputable def Zd (C:ae) (ba bh:Int) (aM bc:List V):Option (List V):=
 (C pg [.int .i64 ba,.int .i64 bh,.list ay aM,.list aA bc]).bind fun r1=>
 bif (((V.nth r1 0).toInt):Int) != 0 then
  some [.list bJ ([]:List V)]
 else
  bif (decide (0≤(aM.length:Int)))&&((decide ((aM.length:Int)≤(aM.length:Int)))&&(Nat.ble ((((aM.length:Int):Int).toNat)*8) cz)) then
  (Loop (JO C aM (aM.length:Int) ba bh aM bc) (1,0,List.replicate (((aM.length:Int):Int).toNat) (V.int .i64 0))).bind (un fun (aiv:Int)=>un fun (te:Int)=>un fun (pj:Bool) (aiw:List V)=>
   (Loop (Ef C ba bh aM bc) (aiv,aiw)).bind (fun (aix:List V)=>
    some [.list bJ aix]))
  else none
theorem aiy {ba bh:Int} {aM bc:List V} {r:Option (List V)} (h:Zd CC ba bh aM bc=r):CC II [.int .i64 ba,.int .i64 bh,.list ay aM,.list aA bc]=r:=
 bp (key:=109) (L:=Zc CC) (bs:=[.loop (aq [1,1,1,0,1,0,0] vb),.loop (aq [1,1,1,1,0,0] vb)]) (by kernel_rfl) (aY (air CC) (aY (aiu CC) ar)) (bn (by kernel_rfl) h)
def ee (a:Da) (c:Nat→Nat) (q t j:Nat):Nat:=if j=0 then c q else if j≤t then c (a.nx q (j-1)) else 0
def dY (a:Da) (c:Nat→Nat) (q:Nat):List Nat:=tab 7 (ee a c q a.L)
def Eg (s:List Nat):V:= .agg (s.map nV)
theorem Ze: ∀s t:List Nat,qx (s.map nV) (t.map nV)=decide (s=t)
 | [],[]=>rfl
 | [],b::t=>rfl
 | a::s,[]=>rfl
 | a::s,b::t=>by
  simp only[ki,qx]
  rw[Ze s t,oR]
  simp only[nV,uv]
  simp only[aL,beq_iff_eq,dx,xY]
  exact and_congr (by omega) Iff.rfl
theorem P1 (s t:List Nat):kq (Eg s) (Eg t)=decide (s=t):=Ze s t
theorem P2 {a:Da} (h:a.Ok) {c:Nat→Nat} {q q':Nat}:dY a c q=dY a c q'↔a.sig c q=a.sig c q':=by
 rw[Da.xg]
 have h6:=h.l6
 constructor
 ·intro e
  have g:=fun j (hj:j<7)=>congrArg (fun l:List Nat=>l.getD j 0) e
  unfold dY at g
  refine ⟨?_,fun x hx=> ?_⟩
  ·have:=g 0 (by omega)
   rw[u9 (by omega),u9 (by omega)] at this
   exact this
  ·have:=g (x+1) (by omega)
   rw[u9 (by omega),u9 (by omega)] at this
   unfold ee at this
   rwa [ah (by omega),ag (by omega),ah (by omega),ag (by omega)] at this
 ·rintro ⟨h1,h2⟩
  refine fN fun j _=> ?_
  unfold ee
  by_cases hj:j=0
  ·rw[ag hj,ag hj,h1]
  ·rw[ah hj,ah hj]
   by_cases cp:j≤a.L
   ·rw[ag cp,ag cp,h2 (j-1) (by omega)]
   ·rw[ah cp,ah cp]
theorem xj {a:Da} {c:Nat→Nat} {q t:Nat} (j:Nat):(bif Nat.beq (0+(t+1)*1) j then ((c (a.nx q t):Nat):Int) else ((ee a c q t j:Nat):Int))=((ee a c q (t+1) j:Nat):Int):=by
 by_cases hj:t+1=j
 ·rw[show Nat.beq (0+(t+1)*1) j=true from by rw[aW];omega,cond_true,←hj]
  unfold ee
  rw[ah (by omega),ag (by omega)]
  rfl
 ·rw[show Nat.beq (0+(t+1)*1) j=false from by rw[←Bool.not_eq_true,aW];omega,cond_false]
  unfold ee
  by_cases h0:j=0
  ·rw[ag h0,ag h0]
  ·rw[ah h0,ah h0]
   by_cases h1:j≤t
   ·rw[ag h1,ag (by omega)]
   ·rw[ah h1,ah (by omega)]
def cV (n:Nat) (c:Nat→Nat):List V:=tab n fun q=>nV (c q)
section
variable {a:Da} (h:a.Ok) {c:Nat→Nat}
include h
theorem aiz {q:Nat} (hq:q<a.n) {k1 k2 k3 k4 k5 k6:Int} {l1 l2 l3 l4 l5:List V}:
  Loop (JW CC k1 k2 l1 k3 k4 (tab a.L fun x=>iV (a.nx q x)) ((tab a.L fun x=>iV (a.nx q x)).length:Int) k5 k6 l2 l3 (cV a.n c) l4 l5) (0,(c q:Int),0,0,0,0,0,0)=
   some ((a.L:Int),false,(ee a c q a.L 0:Int),(ee a c q a.L 1:Int),(ee a c q a.L 2:Int),(ee a c q a.L 3:Int),(ee a c q a.L 4:Int),(ee a c q a.L 5:Int),(ee a c q a.L 6:Int)):=by
 have h6:=h.l6
 rw[gg]
 refine (iz a.L (fun t=>((t:Int),(ee a c q t 0:Int),(ee a c q t 1:Int),(ee a c q t 2:Int),(ee a c q t 3:Int),(ee a c q t 4:Int),(ee a c q t 5:Int),(ee a c q t 6:Int))) _ (fun t ht=> ?_) ?_)
 ·simp only[JW,D4,un]
  refine bT (eW ht) ?_
  refine bs (rA ht) ?_
  refine (fY (i:=a.nx q t) (h.fy hq ht)).trans ?_
  have w:IntKind.wrap .i64 (1+(t:Int))=((t+1:Nat):Int):=by rw[wrap64 (by omega) (by omega)];omega
  rw[w,dI (by omega),Int.toNat_natCast]
  refine bT (jJ.2 ⟨bX (by omega),bX (by omega)⟩) ?_
  refine bT (show Nat.ble (0+(t+1)*1+1) 7=true by rw[fO];omega) ?_
  show some (Sum.inl _)=some (Sum.inl _)
  refine congrArg (fun x=>some (Sum.inl x)) ?_
  exact ko rfl (ko (xj 0) (ko (xj 1) (ko (xj 2) (ko (xj 3) (ko (xj 4) (ko (xj 5) (xj 6)))))))
 ·simp only[JW,D4,un]
  refine bF (b6 (aE _)) ?_
  rw[b6 (aE _)]
theorem aiA (hc: ∀q,q<a.n→c q≤1000) {q:Nat} (hq:q<a.n) (j:Nat):ee a c q a.L j≤1000:=by
 unfold ee
 split
 ·exact hc q hq
 ·split
  ·exact hc _ (h.fy hq (by omega))
  ·omega
theorem aiB (hc: ∀q,q<a.n→c q≤1000) {k1 k2 k3:Int} {l2:List V}:
  Loop (JX CC k1 a.cO (a.cO.length:Int) k2 k3 l2 a.cO (cV a.n c)) (0,([]:List V),List.replicate ((((cV a.n c).length:Int):Int).toNat) (V.int .i64 0))=
   some ((a.n:Int),false,gJ Eg 0 (aV (dY a c) a.n),cV a.n (cJ (dY a c) a.n)):=by
 have hm:=h.e8
 have hl:(cV a.n c).length=a.n:=by simp[cV]
 rw[hl,Int.toNat_natCast,rv,Da.PO]
 refine (iz a.n (fun i=>((i:Int),gJ Eg 0 (aV (dY a c) i),(tab a.n fun q=>if q<i then nV (cJ (dY a c) a.n q) else nV 0))) _ (fun q hq=> ?_) ?_)
 ·have hle:=tw (dY a c) q
  simp only[JX,D5,un]
  refine bT (eW hq) ?_
  refine bs (Da.rz hq) ?_
  refine (fY (i:=q) hq).trans ?_
  simp only[tq]
  refine bs (aiz h hq) ?_
  have k0:=aiA h hc hq
  have kk: ∀j,dL .i64 ((ee a c q a.L j:Nat):Int)=true:=fun j=>JB (by have:=k0 j;omega)
  have Zf:((dL .i64 ((ee a c q a.L 0:Nat):Int)&&(dL .i64 ((ee a c q a.L 1:Nat):Int)&&(dL .i64 ((ee a c q a.L 2:Nat):Int)&&(dL .i64 ((ee a c q a.L 3:Nat):Int)&&(dL .i64 ((ee a c q a.L 4:Nat):Int)&&(dL .i64 ((ee a c q a.L 5:Nat):Int)&&(dL .i64 ((ee a c q a.L 6:Nat):Int)&&true)))))))&&true)=true:=by
   simp only[kk,A4]
  refine bT Zf ?_
  have ek:V.agg [V.int .i64 (ee a c q a.L 0:Int),V.int .i64 (ee a c q a.L 1:Int),V.int .i64 (ee a c q a.L 2:Int),V.int .i64 (ee a c q a.L 3:Int),V.int .i64 (ee a c q a.L 4:Int),V.int .i64 (ee a c q a.L 5:Int),V.int .i64 (ee a c q a.L 6:Int)]=Eg (dY a c q):=rfl
  simp only[un,ek]
  have e1:=DL P1 (dY a c q) (aV (dY a c) q) 0
  have fin: ∀v,v=nV (cJ (dY a c) a.n q)→(tab a.n fun j=>if j<q then nV (cJ (dY a c) a.n j) else nV 0).set q v=tab a.n fun j=>if j<q+1 then nV (cJ (dY a c) a.n j) else nV 0:=by
   rintro v rfl
   rw[ru]
   refine fN fun j _=> ?_
   by_cases hj:j=q
   ·rw[ag hj,ag (by omega),hj]
   ·rw[ah hj]
    by_cases cp:j<q
    ·rw[ag cp,ag (by omega)]
    ·rw[ah cp,ah (by omega)]
  rw[dI (by omega)]
  by_cases hx:dY a c q∈aV (dY a c) q
  ·refine bF (by rw[e1];simpa using hx) ?_
   refine (fY hq).trans ?_
   have e2:=DM P1 (dY a c q) (.int .i64 0) (aV (dY a c) q) 0 hx
   rw[fe,←Y0 hq hx] at e2
   rw[e2,V.toInt_int,Int.toNat_natCast,show (V.int .i64 (cJ (dY a c) a.n q:Int))=nV (cJ (dY a c) a.n q) from rfl,fin _ rfl,PW hx]
  ·refine bT (by rw[e1];simpa using hx) ?_
   refine bT Zf ?_
   refine (fY hq).trans ?_
   have e2:=DN P1 (dY a c q) (aV (dY a c) q) 0 hx
   rw[fe] at e2
   rw[zR,e2,Int.toNat_natCast,←Y1 hq hx,show (V.int .i64 (cJ (dY a c) a.n q:Int))=nV (cJ (dY a c) a.n q) from rfl,fin _ rfl,PX hx]
 ·simp only[JX,D5,un]
  refine bF (b6 (aE _)) ?_
  rw[b6 (aE _)]
  have:(tab a.n fun q=>if q<a.n then nV (cJ (dY a c) a.n q) else nV 0)=cV a.n (cJ (dY a c) a.n):=fN fun q hq=>ag hq
  rw[this]
def mH (a:Da):Nat→Nat
 | 0=>1
 | i+1=>if a.fin i=a.fin 0 then mH a i else 2
def gi (a:Da) (q:Nat):Nat:=if a.fin q=a.fin 0 then 0 else 1
theorem aiC:(aV (gi a) a.n).length=mH a a.n:=by
 have key: ∀m,(aV (gi a) (m+1)=[0]∧mH a (m+1)=1)∨(aV (gi a) (m+1)=[0,1]∧mH a (m+1)=2):=by
  intro m
  induction m with
  | zero=>left;simp[aV,dD,gi,mH]
  | succ m ih=>
   rw[aV,mH]
   unfold gi dD
   by_cases hf:a.fin (m+1)=a.fin 0
   ·rw[ag hf,ag hf]
    rcases ih with ⟨i1,i2⟩|⟨i1,i2⟩
    ·left;refine ⟨?_,i2⟩;unfold gi at i1;rw[i1];rfl
    ·right;refine ⟨?_,i2⟩;unfold gi at i1;rw[i1];rfl
   ·rw[ah hf,ah hf]
    rcases ih with ⟨i1,i2⟩|⟨i1,i2⟩
    ·right;refine ⟨?_,rfl⟩;unfold gi at i1;rw[i1];rfl
    ·right;refine ⟨?_,rfl⟩;unfold gi at i1;rw[i1];rfl
 have hs:=h.s
 obtain ⟨m,hm⟩: ∃m,a.n=m+1:=⟨a.n-1,by omega⟩
 rw[hm]
 rcases key m with ⟨e1,e2⟩|⟨e1,e2⟩<;>rw[e1,e2]<;>rfl
theorem aiD {k2 k3:Int} {l2:List V}:Loop (JO CC a.cZ (a.cZ.length:Int) k2 k3 a.cZ l2) (1,0,List.replicate ((((a.cZ.length:Nat):Int)).toNat) (V.int .i64 0))=some ((mH a a.n:Int),(a.n:Int),false,cV a.n (gi a)):=by
 have hm:=h.e8
 have hs:=h.s
 rw[Da.lZ,Int.toNat_natCast,rv]
 refine (iz a.n (fun i=>((mH a i:Int),(i:Int),(tab a.n fun q=>if q<i then nV (gi a q) else nV 0))) _ (fun q hq=> ?_) ?_)
 ·simp only[JO,D3,un]
  refine bT (eW hq) ?_
  refine bs (Da.zP hq) ?_
  refine bs (a:= .bool (a.fin 0)) (by unfold Da.cZ;exact Jw (by omega)) ?_
  rw[dI (by omega)]
  have fin:(tab a.n fun j=>if j<q then nV (gi a j) else nV 0).set q (nV (gi a q))=tab a.n fun j=>if j<q+1 then nV (gi a j) else nV 0:=by
   rw[ru]
   refine fN fun j _=> ?_
   by_cases hj:j=q
   ·rw[ag hj,ag (by omega),hj]
   ·rw[ah hj]
    by_cases cp:j<q
    ·rw[ag cp,ag (by omega)]
    ·rw[ah cp,ah (by omega)]
  simp only[V.oe]
  by_cases hf:a.fin q=a.fin 0
  ·refine bF (by rw[hf];simp) ?_
   have e:mH a (q+1)=mH a q:=by rw[mH,ag hf]
   have e2:(tab a.n fun j=>if j<q then nV (gi a j) else nV 0)=tab a.n fun j=>if j<q+1 then nV (gi a j) else nV 0:=fN fun j _=>by
    by_cases hj:j=q
    ·rw[ah (by omega),ag (by omega),hj];unfold gi;rw[ag hf]
    ·by_cases cp:j<q
     ·rw[ag cp,ag (by omega)]
     ·rw[ah cp,ah (by omega)]
   rw[e,e2]
  ·refine bT (by simpa using hf) ?_
   refine (fY hq).trans ?_
   have e:mH a (q+1)=2:=by rw[mH,ah hf]
   have e3:gi a q=1:=by unfold gi;rw[ah hf]
   rw[e3] at fin
   rw[e,Int.toNat_natCast,show (V.int .i64 1)=nV 1 from rfl,fin];rfl
 ·simp only[JO,D3,un]
  refine bF (b6 (aE _)) ?_
  rw[b6 (aE _)]
  have:(tab a.n fun q=>if q<a.n then nV (gi a q) else nV 0)=cV a.n (gi a):=fN fun q hq=>ag hq
  rw[this]
theorem aiE {k2 k3:Int} {l2:List V}: ∃p,Loop (Ef CC k2 k3 l2 a.cO) ((mH a a.n:Int),cV a.n (gi a))=some (cV a.n p)∧a.xh p∧∀q,q<a.n→p q≤1000:=by
 have hm:=h.e8
 have:=MX (step:=Ef CC k2 k3 l2 a.cO)
  (fun x=> ∃c,x=(((aV c a.n).length:Int),cV a.n c)∧a.Part c∧∀q,q<a.n→c q≤1000)
  (fun x=>a.n-x.1.toNat)
  (fun r=> ∃p,r=cV a.n p∧a.xh p∧∀q,q<a.n→p q≤1000) (fun x hx=> ?_) ((mH a a.n:Int),cV a.n (gi a)) ⟨gi a,by rw[aiC h],⟨?_,?_⟩,?_⟩
 ·obtain ⟨r,h1,p,rfl,h2,h3⟩:=this
  exact ⟨p,h1,h2,h3⟩
 ·obtain ⟨c,rfl,hp,hc⟩:=hx
  have hl:(cV a.n c).length=a.n:=by simp[cV]
  have kL:a.JL c (cJ (dY a c) a.n):=fun q q' hq ct=>(DZ hq ct).trans (P2 h)
  have hle:=tw (dY a c) a.n
  have hb: ∀q,q<a.n→cJ (dY a c) a.n q≤1000:=fun q hq=>by have:=DY (g:=dY a c) hq;omega
  have xk: ∀q q',q<a.n→q'<a.n→dY a c q=dY a c q'→c q=c q':=fun q q' hq ct e=>(Da.xg.1 ((P2 h).1 e)).1
  have aiF:=Y3 xk
  have cr:=aiB h hc (k1:=((aV c a.n).length:Int)) (k2:=k2) (k3:=k3) (l2:=l2)
  by_cases he:(aV (dY a c) a.n).length=(aV c a.n).length
  ·right
   refine ⟨_,?_,cJ (dY a c) a.n,rfl,⟨fun q q' hq ct=> ?_,PY _ _⟩,hb⟩
   ·simp only[Ef,Ee,un]
    refine bT (by rw[hl];exact pr (by omega) (by omega)) ?_
    refine bs cr ?_
    refine bT (by rw[zR];simp[he]) ?_
    rfl
   ·have cd:=PZ xk (by omega)
    rw[DZ hq ct,←hp.Y4 h (fun s s' hs uO e=>(P2 h).1 (cd s s' hs uO e)) q q' hq ct]
    exact ⟨xk q q' hq ct,cd q q' hq ct⟩
  ·left
   have e2:(aV (cJ (dY a c) a.n) a.n).length=(aV (dY a c) a.n).length:=by rw[Y2 _ _ _ (aE _),List.length_range]
   refine ⟨(((aV (dY a c) a.n).length:Int),cV a.n (cJ (dY a c) a.n)),?_,⟨cJ (dY a c) a.n,by rw[e2],kL.part h hp,hb⟩,?_⟩
   ·simp only[Ef,Ee,un]
    refine bT (by rw[hl];exact pr (by omega) (by omega)) ?_
    refine bs cr ?_
    refine bF (by rw[zR];simpa using fun e=>he (by omega)) ?_
    rw[zR]
   ·simp only[Int.toNat_natCast]
    omega
 ·intro q q' hq ct he
  have:=he [] WL.nil
  rw[Da.po,Da.po] at this
  unfold gi;rw[this]
 ·intro q q' hq ct he
  unfold gi at he
  split at he<;>split at he
  ·rename_i h1 h2;rw[h1,h2]
  ·omega
  ·omega
  ·rename_i h1 h2
   revert h1 h2
   cases a.fin q<;>cases a.fin q'<;>cases a.fin 0<;>simp
 ·intro q _
  unfold gi;split<;>omega
theorem aiG: ∃p,CC II (dU a)=some [.list bJ (cV a.n p)]∧a.xh p∧∀q,q<a.n→p q≤1000:=by
 have hm:=h.e8
 obtain ⟨p,h1,h2,h3⟩:=aiE h (k2:=(a.L:Int)) (k3:=(a.st:Int)) (l2:=a.cZ)
 refine ⟨p,aiy ?_,h2,h3⟩
 unfold Zd
 refine bs (tt h) ?_
 refine bF rfl ?_
 refine bT (by rw[Da.lZ];exact pr (by omega) (by omega)) ?_
 refine bs (aiD h) ?_
 refine bs h1 ?_
 rfl
end
noncomputable abbrev zV:Code:=cA Tryd.prog (au.aU 86)
noncomputable def Eh (C:ae) (q t29 t30:Int) (t47:List V) (t48 bf bx:Int) (bK bH:List V) (dV dW zW zX:Int) (places dA:List V) (zY zZ:Int) (dc dz e9 ib ov Zg:List V) (t49:Int) (rows:List V) {β:Type} (kn:(Int × (List V))→Option β) (kr:(Int × Bool × (List V))→Option β):Option β:=
 bif decide ((t49:Int)<t48) then
  (idx t47 t49).bind fun x5=>
  bif (decide (0≤x5.toInt))&&(decide (x5.toInt<(dA.length:Int))) then
  (dA[(x5.toInt:Int).toNat]?).bind fun x6=>
  bif (decide (0≤t49))&&(decide (t49<(rows.length:Int))) then
   (rows[(t49:Int).toNat]?).bind fun x7=>
   kn (IntKind.wrap .i64 (t49+1),rows.set ((t49:Int).toNat) (.int .i64 x6.toInt))
  else none
  else none
 else
  kr (t49,decide ((t49:Int)<t48),rows)
noncomputable def JZ (C:ae) (q t29 t30:Int) (t47:List V) (t48 bf bx:Int) (bK bH:List V) (dV dW zW zX:Int) (places dA:List V) (zY zZ:Int) (dc dz e9 ib ov Zg:List V):(Int × (List V))→Option ((Int × (List V)) ⊕ (Int × Bool × (List V))):=un fun t49 rows=>Eh C q t29 t30 t47 t48 bf bx bK bH dV dW zW zX places dA zY zZ dc dz e9 ib ov Zg t49 rows (fun y=>some (.inl y)) (fun r=>some (.inr r))
noncomputable def Ei (C:ae) (t29 bf bx:Int) (bK bH:List V) (dV dW zW zX:Int) (places dA:List V) (zY zZ:Int) (dX dc dz e9:List V) (t30:Int) (ib ov:List V) {β:Type} (kn:(Int × (List V) × (List V))→Option β) (kr:(Int × Bool × (List V) × (List V))→Option β):Option β:=
 bif decide ((t30:Int)<t29) then
  bif (decide (0≤t30))&&(decide (t30<(dA.length:Int))) then
  (dA[(t30:Int).toNat]?).bind fun x3=>
  bif decide ((x3.toInt:Int)<(ib.length:Int)) then
   kn (IntKind.wrap .i64 (t30+1),ib,ov)
  else
   bif (decide (0≤bf))&&((decide (bf≤bf))&&(Nat.ble (((bf:Int).toNat)*8) cz)) then
   bif (decide (0≤t30))&&(decide (t30<(e9.length:Int))) then
    (e9[(t30:Int).toNat]?).bind fun x4=>
    (Loop (JZ C t30 t29 t30 x4.toList (x4.toList.length:Int) bf bx bK bH dV dW zW zX places dA zY zZ dX dc dz e9 ib ov) (0,List.replicate ((bf:Int).toNat) (V.int .i64 0))).bind (un fun (zG:Int)=>un fun (pq:Bool) (Zh:List V)=>
     bif (decide (0≤t30))&&(decide (t30<(dz.length:Int))) then
     (dz[(t30:Int).toNat]?).bind fun eo=>
     bif Nat.ble ((ib.length+([.bool eo.toBool]:List V).length)*1) cz then
      bif Nat.ble ((ov.length+([.list bJ Zh]:List V).length)*24) cz then
      kn (IntKind.wrap .i64 (t30+1),ib++([.bool eo.toBool]:List V),ov++([.list bJ Zh]:List V))
      else none
     else none
     else none)
   else none
   else none
  else none
 else
  kr (t30,decide ((t30:Int)<t29),ib,ov)
noncomputable def J0 (C:ae) (t29 bf bx:Int) (bK bH:List V) (dV dW zW zX:Int) (places dA:List V) (zY zZ:Int) (dX dc dz e9:List V):(Int × (List V) × (List V))→Option ((Int × (List V) × (List V)) ⊕ (Int × Bool × (List V) × (List V))):=un fun t30=>un fun ib ov=>Ei C t29 bf bx bK bH dV dW zW zX places dA zY zZ dX dc dz e9 t30 ib ov (fun y=>some (.inl y)) (fun r=>some (.inr r))
noncomputable def Ej (C:ae) (t88 dV dW:Int) (dA:List V) (tz tA:Int) (numbers J1 dX dc dz e9:List V) (t89:Int) (pt:List V) {β:Type} (kn:(Int × (List V))→Option β) (kr:(Int × Bool × (List V))→Option β):Option β:=
 bif decide ((t89:Int)<t88) then
  bif (decide (0≤t89))&&(decide (t89<(J1.length:Int))) then
  (J1[(t89:Int).toNat]?).bind fun mb=>
  bif (decide (0≤t89))&&(decide (t89<(pt.length:Int))) then
   (pt[(t89:Int).toNat]?).bind fun z0=>
   bif decide ((mb.toInt:Int)≥0) then
   bif (decide (0≤mb.toInt))&&(decide (mb.toInt<(dA.length:Int))) then
    (dA[(mb.toInt:Int).toNat]?).bind fun gK=>
    bif (decide (0≤gK.toInt))&&(decide (gK.toInt<(numbers.length:Int))) then
    (numbers[(gK.toInt:Int).toNat]?).bind fun lh=>
    bif (decide (0≤t89))&&(decide (t89<((pt.set ((t89:Int).toNat) (.int .i64 (-1))).length:Int))) then
     ((pt.set ((t89:Int).toNat) (.int .i64 (-1)))[(t89:Int).toNat]?).bind fun rD=>
     kn (IntKind.wrap .i64 (t89+1),(pt.set ((t89:Int).toNat) (.int .i64 (-1))).set ((t89:Int).toNat) (.int .i64 lh.toInt))
    else none
    else none
   else none
   else
   kn (IntKind.wrap .i64 (t89+1),pt.set ((t89:Int).toNat) (.int .i64 (-1)))
  else none
  else none
 else
  kr (t89,decide ((t89:Int)<t88),pt)
noncomputable def J2 (C:ae) (t88 dV dW:Int) (dA:List V) (tz tA:Int) (numbers J1 dX dc dz e9:List V):(Int × (List V))→Option ((Int × (List V)) ⊕ (Int × Bool × (List V))):=un fun t89 pt=>Ej C t88 dV dW dA tz tA numbers J1 dX dc dz e9 t89 pt (fun y=>some (.inl y)) (fun r=>some (.inr r))
noncomputable def Zi (C:ae):cl:=fun β n ds k=>
 bif Nat.beq n 161 then bt N6 [false,false,false,false,false,true,false,false,false,false,false,false,false,false,false,false,false,false,true,false,false,false,false,false,false] [[1,2,3,4,5,0,0,7,8,9,10,11,12,13,14,15,16,17,18,0,20,21,22,23,24,25]] (@Eh C) ds k else
 bif Nat.beq n 81 then bt N7 [false,true,false,false,false,false,false,false,false,false,false,false,false,false,false,false,false,false,true,true] [[1,0,0,3,4,5,6,7,8,9,10,11,12,13,14,15,16,17,18,0,0]] (@Ei C) ds k else
 bif Nat.beq n 321 then bt N8 [false,true,false,false,false,false,false,false,true,false,false,false,false,false] [[1,0,0,3,4,5,6,7,8,0,10,11,12,13,14]] (@Ej C) ds k else
 none
abbrev P4 (C:ae) (b:ch):Prop:=cj Tryd.prog au C (Zi C) 86 (cH Tryd.prog (au.aU 86)) (au.sin 86).aZ.length b
theorem aiH (C:ae):P4 C (.loop (aq [1,1,1,1,0,1,0,0,1,1,0,0,1,1,1,0,1,0,0] zV)):=
 bA N6 [false,false,false,false,false,true,false,false,false,false,false,false,false,false,false,false,false,false,true,false,false,false,false,false,false] [[1,2,3,4,5,0,0,7,8,9,10,11,12,13,14,15,16,17,18,0,20,21,22,23,24,25]] (@Eh C) (by kernel_rfl) (aK (bs:=[]) (by kernel_rfl) ar) (fun ds=>by kernel_rfl) (fun i x=>by kernel_rfl) (fun i x β k=>by kernel_rfl) (fun β ds k=>by kernel_rfl)
theorem aiI (C:ae):P4 C (.loop (aq [1,1,1,1,0,1,0,0] zV)):=
 bA N7 [false,true,false,false,false,false,false,false,false,false,false,false,false,false,false,false,false,false,true,true] [[1,0,0,3,4,5,6,7,8,9,10,11,12,13,14,15,16,17,18,0,0]] (@Ei C) (by kernel_rfl) (aK (bs:=[.loop (aq [1,1,1,1,0,1,0,0,1,1,0,0,1,1,1,0,1,0,0] zV)]) (by kernel_rfl) (aY (aiH C) ar)) (fun ds=>by kernel_rfl) (fun i x=>by kernel_rfl) (fun i x β k=>by kernel_rfl) (fun β ds k=>by kernel_rfl)
theorem aiJ (C:ae):P4 C (.loop (aq [1,1,1,1,1,1,1,0,1,0,0] zV)):=
 bA N8 [false,true,false,false,false,false,false,false,true,false,false,false,false,false] [[1,0,0,3,4,5,6,7,8,0,10,11,12,13,14]] (@Ej C) (by kernel_rfl) (aK (bs:=[]) (by kernel_rfl) ar) (fun ds=>by kernel_rfl) (fun i x=>by kernel_rfl) (fun i x β k=>by kernel_rfl) (fun β ds k=>by kernel_rfl)
noncomputable def Zj (C:ae) (ba bh:Int) (aM bc:List V):Option (List V):=
 (C zn [.int .i64 ba,.int .i64 bh,.list ay aM,.list aA bc]).bind fun r1=>
 (C II [.int .i64 ((V.nth r1 0).toInt),.int .i64 ((V.nth (r1.drop 1) 0).toInt),.list ay ((V.nth (r1.drop 2) 0).toList),.list aA ((V.nth ((r1.drop 2).drop 1) 0).toList)]).bind fun r2=>
 (Loop (J0 C (((V.nth r2 0).toList).length:Int) ba bh aM bc 0 0 ((V.nth r1 0).toInt) ((V.nth (r1.drop 1) 0).toInt) ((V.nth (((r1.drop 2).drop 1).drop 1) 0).toList) ((V.nth r2 0).toList) ba 0 ([]:List V) ([]:List V) ((V.nth (r1.drop 2) 0).toList) ((V.nth ((r1.drop 2).drop 1) 0).toList)) (0,([]:List V),([]:List V))).bind (un fun (xl:Int)=>un fun (u6:Bool)=>un fun (DR:List V) (Dw:List V)=>
  (C zn [.int .i64 ba,.int .i64 0,.list ay DR,.list aA Dw]).bind fun iL=>
  bif (decide (0≤(((V.nth (((r1.drop 2).drop 1).drop 1) 0).toList).length:Int)))&&((decide ((((V.nth (((r1.drop 2).drop 1).drop 1) 0).toList).length:Int)≤(((V.nth (((r1.drop 2).drop 1).drop 1) 0).toList).length:Int)))&&(Nat.ble ((((((V.nth (((r1.drop 2).drop 1).drop 1) 0).toList).length:Int):Int).toNat)*8) cz)) then
   (Loop (J2 C (((V.nth (((r1.drop 2).drop 1).drop 1) 0).toList).length:Int) 0 0 ((V.nth r2 0).toList) ((V.nth iL 0).toInt) ((V.nth (iL.drop 1) 0).toInt) ((V.nth (((iL.drop 2).drop 1).drop 1) 0).toList) ((V.nth (((r1.drop 2).drop 1).drop 1) 0).toList) ([]:List V) ([]:List V) ((V.nth (iL.drop 2) 0).toList) ((V.nth ((iL.drop 2).drop 1) 0).toList)) (0,List.replicate (((((V.nth (((r1.drop 2).drop 1).drop 1) 0).toList).length:Int):Int).toNat) (V.int .i64 0))).bind (un fun (Zk:Int)=>un fun (J3:Bool) (aiK:List V)=>
    some [.int .i64 ((V.nth iL 0).toInt),.int .i64 ((V.nth (iL.drop 1) 0).toInt),.list ay ((V.nth (iL.drop 2) 0).toList),.list aA ((V.nth ((iL.drop 2).drop 1) 0).toList),.list bJ aiK])
  else none)
theorem aiL {ba bh:Int} {aM bc:List V} {r:Option (List V)} (h:Zj CC ba bh aM bc=r):CC IC [.int .i64 ba,.int .i64 bh,.list ay aM,.list aA bc]=r:=
 bp (key:=86) (L:=Zi CC) (bs:=[.loop (aq [1,1,1,1,0,1,0,0] zV),.loop (aq [1,1,1,1,1,1,1,0,1,0,0] zV)]) (by kernel_rfl) (aY (aiI CC) (aY (aiJ CC) ar)) (bn (by kernel_rfl) h)
noncomputable def Zl (C:ae) (ba bh:Int) (aM bc:List V):Option (List V):=
 (C pg [.int .i64 ba,.int .i64 bh,.list ay aM,.list aA bc]).bind fun r1=>
 bif (((V.nth r1 0).toInt):Int) != 0 then
  some [.int .i64 0,.int .i64 0,.list ay ([]:List V),.list aA ([]:List V)]
 else
  (C IC [.int .i64 ba,.int .i64 bh,.list ay aM,.list aA bc]).bind fun r2=>
  some [.int .i64 ((V.nth r2 0).toInt),.int .i64 ((V.nth (r2.drop 1) 0).toInt),.list ay ((V.nth (r2.drop 2) 0).toList),.list aA ((V.nth ((r2.drop 2).drop 1) 0).toList)]
theorem aiM {ba bh:Int} {aM bc:List V} {r:Option (List V)} (h:Zl CC ba bh aM bc=r):CC q0 [.int .i64 ba,.int .i64 bh,.list ay aM,.list aA bc]=r:=
 bp (key:=54) (L:=di) (bs:=[]) (by kernel_rfl) ar (bn (by kernel_rfl) h)
theorem aiN {p:Nat→Nat} {n:Nat} (h:qh p n) (hn:0<n):p 0=0:=by
 simpa[aV,dD] using h 1 (by omega)
theorem Zm {p:Nat→Nat} {n i:Nat} (h:qh p n) (hi:i<n):p i∈aV p i↔p i<(Da.fC p i).length:=by
 rw[Da.D1]
 constructor
 ·intro hm
  rw[h i (by omega)] at hm
  simpa using hm
 ·intro hm
  rw[h i (by omega)]
  simpa using hm
theorem Zn (p:Nat→Nat) (n:Nat):(Da.fC p n).length≤n:=by rw[Da.D1];exact tw p n
def qF (a:Da) (p:Nat→Nat) (i:Nat):List V:=(Da.fC p i).map fun r=>V.bool (a.fin r)
def qN (a:Da) (p:Nat→Nat) (i:Nat):List V:=(Da.fC p i).map fun r=>kK a.L fun x=>p (a.nx r x)
theorem aiO {a:Da} {p:Nat→Nat}:(a.quo p).cZ=qF a p a.n∧(a.quo p).cO=qN a p a.n:=by
 constructor
 ·unfold Da.cZ qF
  rw[DI _ 0,Da.tx]
  exact fN fun i hi=>by rw[Da.Y5 hi,gu hi]
 ·unfold Da.cO qN
  rw[DI _ 0,Da.tx]
  refine fN fun i hi=> ?_
  unfold kK
  exact congrArg _ (fN fun x hx=>by rw[Da.Y6 hi hx,gu hi])
section
variable {a:Da} (h:a.Ok) {p:Nat→Nat}
include h
theorem aiP {q:Nat} (hq:q<a.n) {k1 k2 k3 k4 k5 k6 k7 k8 k9 k10 k11:Int} {l1 l2 l3 l4 l5 l6 l7 l8 l9:List V}:
  Loop (JZ CC k1 k2 k3 (tab a.L fun x=>iV (a.nx q x)) ((tab a.L fun x=>iV (a.nx q x)).length:Int) k4 k5 l1 l2 k6 k7 k8 k9 l3 (cV a.n p) k10 k11 l4 l5 l6 l7 l8 l9) (0,List.replicate (((a.L:Nat):Int).toNat) (V.int .i64 0))=
   some ((a.L:Int),false,(tab a.L fun x=>nV (p (a.nx q x)))):=by
 have h6:=h.l6
 rw[gg,Int.toNat_natCast,rv]
 refine (iz a.L (fun t=>((t:Int),(tab a.L fun x=>if x<t then nV (p (a.nx q x)) else nV 0))) _ (fun t ht=> ?_) ?_)
 ·simp only[JZ,Eh,un]
  refine bT (eW ht) ?_
  refine bs (rA ht) ?_
  refine (fY (i:=a.nx q t) (h.fy hq ht)).trans ?_
  refine (fY ht).trans ?_
  rw[dI (by omega),Int.toNat_natCast,ru]
  refine congrArg (fun x=>some (Sum.inl (((t+1:Nat):Int),x))) (fN fun j _=> ?_)
  by_cases hj:j=t
  ·rw[ag hj,ag (by omega),hj];rfl
  ·rw[ah hj]
   by_cases cp:j<t
   ·rw[ag cp,ag (by omega)]
   ·rw[ah cp,ah (by omega)]
 ·simp only[JZ,Eh,un]
  refine bF (b6 (aE _)) ?_
  rw[b6 (aE _)]
  refine congrArg (fun x=>some (Sum.inr ((a.L:Int),false,x))) (fN fun j hj=>ag hj)
theorem aiQ (ho:qh p a.n) {k3 k4 k5 k6 k7 k8 k9:Int} {l1 l2 l3 l4 l5:List V}:
  Loop (J0 CC ((cV a.n p).length:Int) (a.L:Int) k3 l1 l2 k4 k5 k6 k7 l3 (cV a.n p) k8 k9 l4 l5 a.cZ a.cO) (0,([]:List V),([]:List V))=
   some ((a.n:Int),false,qF a p a.n,qN a p a.n):=by
 have h6:=h.l6
 have hm:=h.e8
 rw[show (cV a.n p).length=a.n by simp[cV]]
 refine (iz a.n (fun i=>((i:Int),qF a p i,qN a p i)) _ (fun q hq=> ?_) ?_)
 ·have hle:=Zn p q
  have hF:(qF a p q).length=(Da.fC p q).length:=by simp[qF]
  have hN:(qN a p q).length=(Da.fC p q).length:=by simp[qN]
  simp only[J0,Ei,un]
  refine bT (eW hq) ?_
  refine (fY (i:=q) hq).trans ?_
  rw[dI (by omega)]
  simp only[nV,V.toInt_int]
  by_cases hx:p q∈aV p q
  ·refine bT (bX (by rw[hF];have:=(Zm ho hq).1 hx;omega)) ?_
   unfold qF qN
   rw[Da.fC,ag hx]
  ·refine bF (eG (by rw[hF];intro h2;exact hx ((Zm ho hq).2 (by omega)))) ?_
   refine bT (pr (by omega) (by omega)) ?_
   refine (fY (i:=q) hq).trans ?_
   simp only[tq]
   refine bs (aiP h hq) ?_
   refine (fY (i:=q) hq).trans ?_
   refine bT (cap (by rw[hF];simp;omega) (by omega)) ?_
   refine bT (cap (by rw[hN];simp;omega) (by omega)) ?_
   unfold qF qN
   rw[Da.fC,ah hx,qt,qt]
   rfl
 ·simp only[J0,Ei,un]
  refine bF (b6 (aE _)) ?_
  rw[b6 (aE _)]
end
def tB (U U':List Nat) (p:Nat→Nat) (q:Nat):V:=if q∈U then iV ((if p (U.idxOf q)∈U' then nV (U'.idxOf (p (U.idxOf q))) else V.int .i64 (-1)).toInt) else V.int .i64 (-1)
theorem aiR {n m k:Nat} {U U':List Nat} {p:Nat→Nat} (hn:n≤512) (hU:U.length≤m) (hp: ∀q,q<m→p q<k) {k1 k2 k3 k4:Int} {l1 l2 l3 l4:List V}:
  ∃X,Loop (J2 CC ((mG U n).length:Int) k1 k2 (cV m p) k3 k4 (mG U' k) (mG U n) l1 l2 l3 l4) (0,List.replicate ((((mG U n).length:Int):Int).toNat) (V.int .i64 0))=some ((n:Int),false,X):=by
 rw[show (mG U n).length=n by simp[mG],Int.toNat_natCast,rv]
 refine ⟨tab n fun q=>if q<n then tB U U' p q else V.int .i64 0,iz n (fun i=>((i:Int),(tab n fun q=>if q<i then tB U U' p q else V.int .i64 0))) _ (fun q hq=> ?_) ?_⟩
 ·simp only[J2,Ej,un]
  refine bT (eW hq) ?_
  refine (fY (i:=q) hq).trans ?_
  refine (fY (i:=q) hq).trans ?_
  rw[dI (by omega)]
  have fin: ∀v,v=tB U U' p q→((tab n fun j=>if j<q then tB U U' p j else V.int .i64 0).set q v)=tab n fun j=>if j<q+1 then tB U U' p j else V.int .i64 0:=by
   rintro v rfl
   rw[ru]
   refine fN fun j _=> ?_
   by_cases hj:j=q
   ·rw[ag hj,ag (show j<q+1 by omega),hj]
   ·rw[ah hj]
    by_cases cp:j<q
    ·rw[ag cp,ag (show j<q+1 by omega)]
    ·rw[ah cp,ah (show¬j<q+1 by omega)]
  by_cases hx:q∈U
  ·have es:tB U U' p q=iV ((if p (U.idxOf q)∈U' then nV (U'.idxOf (p (U.idxOf q))) else V.int .i64 (-1)).toInt):=by unfold tB;rw[ag hx]
   have hi:=vF hx
   rw[ag hx]
   refine bT (bX (by simp only[nV,V.toInt_int];omega)) ?_
   simp only[nV,V.toInt_int]
   refine (fY (i:=U.idxOf q) (by omega)).trans ?_
   simp only[nV,V.toInt_int]
   refine (fY (i:=p (U.idxOf q)) (hp _ (by omega))).trans ?_
   refine bT (by rw[oN,gg];exact Yr hq) ?_
   refine bs (a:= .int .i64 (-1)) (by rw[Int.toNat_natCast,xW];simp[hq]) ?_
   rw[Int.toNat_natCast,List.set_set,←fin _ es.symm]
  ·rw[ah hx]
   refine bF (eG (by simp)) ?_
   rw[Int.toNat_natCast,←fin _ (show V.int .i64 (-1)=tB U U' p q by unfold tB;rw[ah hx])]
 ·simp only[J2,Ej,un]
  refine bF (b6 (aE _)) ?_
  rw[b6 (aE _)]
theorem Canon.congr {m:Da} {L:Nat} {K K':List Nat→Bool} (h:m.Canon L K) (e: ∀w,WL L w→K w=K' w):m.Canon L K':=⟨h.ok,h.hL,h.st,h.num,h.red,fun w hw=>(h.iy w hw).trans (e w hw)⟩
theorem aiS {a:Da} (h:a.Ok): ∃m X,CC IC (dU a)=some (dU m++[.list bJ X])∧m.Canon a.L (a.acc a.st):=by
 have ht:=h.Ye
 have hm:=h.e8
 have hle:=h.rp a.n
 have e3:a.trim.n=(ax a.L a.nx a.st a.n).length:=om
 obtain ⟨p,c1,c2,c3⟩:=aiG ht
 have hq:=Da.P0 ht c2
 obtain ⟨q1,q2⟩:=aiO (a:=a.trim) (p:=p)
 have aiT:=Da.Y7 ht c2
 have cd:(a.trim.quo p).st=0:=aiN c2.2 ht.s
 have HE:=YZ hq
 obtain ⟨X,hX⟩:=aiR (n:=a.n) (m:=a.trim.n) (k:=(a.trim.quo p).n) (U:=ax a.L a.nx a.st a.n) (U':=ax (a.trim.quo p).L (a.trim.quo p).nx (a.trim.quo p).st (a.trim.quo p).n) (p:=p) hm (by omega) (fun q hq=>by rw[Da.tx];exact Da.D2 c2.2 hq) (k1:=0) (k2:=0) (k3:=((a.trim.quo p).trim.L:Int)) (k4:=((a.trim.quo p).trim.st:Int)) (l1:=[]) (l2:=[]) (l3:=(a.trim.quo p).trim.cZ) (l4:=(a.trim.quo p).trim.cO)
 refine ⟨(a.trim.quo p).trim,X,aiL ?_,Canon.congr aiT fun w hw=>h.Yf hw⟩
 unfold Zj
 refine bs (YZ h) ?_
 refine bs c1 ?_
 refine bs (aiQ ht c2.2) ?_
 simp only[un]
 rw[←q1,←q2]
 have aiU:CC zn [.int .i64 (a.L:Int),.int .i64 0,.list ay (a.trim.quo p).cZ,.list aA (a.trim.quo p).cO]=some (dU (a.trim.quo p).trim++[.list bJ (mG (ax (a.trim.quo p).L (a.trim.quo p).nx (a.trim.quo p).st (a.trim.quo p).n) (a.trim.quo p).n)]):=by
  rw[←HE]
  unfold dU lf
  rw[cd];rfl
 refine bs aiU ?_
 have e0:(mG (ax a.L a.nx a.st a.n) a.n).length=a.n:=by simp[mG]
 refine bT (show ((decide (0≤((mG (ax a.L a.nx a.st a.n) a.n).length:Int)))&&((decide (((mG (ax a.L a.nx a.st a.n) a.n).length:Int)≤((mG (ax a.L a.nx a.st a.n) a.n).length:Int)))&&(Nat.ble (((((mG (ax a.L a.nx a.st a.n) a.n).length:Nat):Int).toNat)*8) cz)))=true from pr (by rw[e0];omega) (by omega)) ?_
 refine bs hX ?_
 rfl
theorem Zo {a:Da} (h:a.Ok): ∃m,CC q0 (dU a)=some (dU m)∧m.Canon a.L (a.acc a.st):=by
 obtain ⟨m,X,h1,h2⟩:=aiS h
 refine ⟨m,aiM ?_,h2⟩
 unfold Zl
 refine bs (tt h) ?_
 refine bF rfl ?_
 refine bs h1 ?_
 rfl
open Classical in
noncomputable def minD (a:Da):Da:=if h: ∃m:Da,m.Canon a.L (a.acc a.st) then Classical.choose h else a
theorem xm {a:Da} (h:a.Ok):(minD a).Canon a.L (a.acc a.st):=by
 obtain ⟨m,_,h2⟩:=Zo h
 have: ∃m:Da,m.Canon a.L (a.acc a.st):=⟨m,h2⟩
 unfold minD
 rw[nH this]
 exact Classical.choose_spec this
theorem Ek {a m:Da} (h:a.Ok) (hm:m.Canon a.L (a.acc a.st)):m=minD a:=hm.eq (xm h)
theorem z5 {a:Da} (h:a.Ok):CC q0 (dU a)=some (dU (minD a)):=by
 obtain ⟨m,h1,h2⟩:=Zo h
 rw[h1,Ek h h2]
end Go.AM
set_option maxRecDepth 100000
namespace Go.AM
section
variable {α:Type} [DecidableEq α] {L:Nat} {next:α→Nat→α} {a0:α}
theorem Zp (S:List α) (a:α): ∀x,(dH next S a x).length≤S.length+x
 | 0=>aE _
 | x+1=>by
  have:=Zp S a x
  rw[dH,u7]
  split<;>omega
theorem aiV {m:Nat} (h:(ax L next a0 m).length≤m) (i:Nat):(ax L next a0 i).length≤m:=by
 rcases eV m i with c|c
 ·rw[Dy h (by omega)];exact h
 ·exact jH (oj c).length_le h
theorem aiW {k:Nat} (hd:(ax L next a0 k).length≤k) (i:Nat):(ax L next a0 i).length≤(ax L next a0 k).length:=by
 rcases eV k i with c|c
 ·rw[Dy hd (by omega)];exact aE _
 ·exact (oj c).length_le
theorem aiX {k m:Nat} (h:m<(ax L next a0 k).length):m<(ax L next a0 m).length:=by
 rcases eV m (ax L next a0 m).length with c|c
 ·exact c
 ·have:=aiV c k
  omega
theorem aiY {m:Nat} (h:m<(ax L next a0 m).length) (hm:1≤m): ∃i,i<m∧(∀j,j≤i→j<(ax L next a0 j).length∧(ax L next a0 j).length≤m)∧m<(ax L next a0 (i+1)).length:=by
 have key: ∀d k,k+d=m→(∀j,j≤k→(ax L next a0 j).length≤m)→∃i,i<m∧(∀j,j≤i→j<(ax L next a0 j).length∧(ax L next a0 j).length≤m)∧m<(ax L next a0 (i+1)).length:=by
  intro d
  induction d with
  | zero=>
   intro k hk hj
   have:=hj k (aE _)
   rw[show k=m by omega] at this
   omega
  | succ d ih=>
   intro k hk hj
   rcases eV m (ax L next a0 (k+1)).length with c|c
   ·refine ⟨k,by omega,fun j Zq=>⟨?_,hj j Zq⟩,c⟩
    rcases eV j (ax L next a0 j).length with c1|c1
    ·exact c1
    ·have h1:=hj j Zq
     rw[←Dy c1 (show j≤m by omega)] at h1
     omega
   ·refine ih (k+1) (by omega) fun j cp=> ?_
    rcases eV j (k+1) with c1|c1
    ·exact hj j (by omega)
    ·rw[show j=k+1 by omega];exact c
 exact key m 0 (by omega) fun j hj=>by rw[ya.1 hj];simp[ax];omega
theorem aiZ {P:α→Prop} (h0:P a0) (hP: ∀a,P a→∀x,x<L→P (next a x)) (i:Nat): ∀a∈ax L next a0 i,P a:=by
 intro a ha
 obtain ⟨w,hw,rfl⟩:=DA i a ha
 have: ∀(w:List Nat) (b:α),P b→WL L w→P (w.foldl next b):=by
  intro w
  induction w with
  | nil=>intro b hb _;exact hb
  | cons x w ih=>intro b hb hw;exact ih _ (hP b hb x hw.head) hw.tail
 exact this w a0 h0 hw
end
end Go.AM
set_option maxRecDepth 100000
namespace Go.AM
open Go.Proofs
structure NP where
 p:Nat
 q:Nat
deriving DecidableEq
section
variable {a b:Da} (ha:a.Ok) (hb:b.Ok) (hL:a.L=b.L) {op:Nat}
include ha hb hL
end
def zD:Da:=⟨0,0,[],[]⟩
def j7 (m:Da) (e:Int):List V:=[.int .i64 (m.L:Int),.int .i64 (m.st:Int),.int .i64 e,.list ay m.cZ,.list aA m.cO]
section
variable {a b:Da} (ha:a.Ok) (hb:b.Ok) (hL:a.L=b.L) {op:Nat}
include ha hb hL
end
section
variable {a b:Da} (ha:a.Ok) (hb:b.Ok) (hL:a.L=b.L) {op:Nat}
include ha hb hL
end
noncomputable def Zr (C:ae) (fW letter:Int) (El:List V):Option (List V):=
 (idx El letter).bind fun x1=>
 (C IM [.list cD x1.toList,.int .u64 fW]).bind fun r2=>
 some [.int .u64 ((V.nth r2 0).toInt),.list fk El]
theorem ai0 {fW letter:Int} {El:List V} {r:Option (List V)} (h:Zr CC fW letter El=r):CC ra [.int .u64 fW,.int .i64 letter,.list fk El]=r:=
 bp (key:=138) (L:=di) (bs:=[]) (by kernel_rfl) ar (bn (by kernel_rfl) h)
noncomputable def Zs (C:ae) (fW tu tv rB rC:Int) (J4:List V):Option (List V):=
 some [.bool (((IntKind.wrap .u64 ((BitVec.ofInt (IntKind.bits .u64) fW&&&BitVec.ofInt (IntKind.bits .u64) rC).toNat)):Int) != 0),.int .i64 tu,.int .i64 tv,.int .u64 rB,.int .u64 rC,.list ak J4]
theorem ai1 {fW tu tv rB rC:Int} {J4:List V} {r:Option (List V)} (h:Zs CC fW tu tv rB rC J4=r):CC sZ [.int .u64 fW,.int .i64 tu,.int .i64 tv,.int .u64 rB,.int .u64 rC,.list ak J4]=r:=
 bp (key:=119) (L:=di) (bs:=[]) (by kernel_rfl) ar (bn (by kernel_rfl) h)
noncomputable def Zt (C:ae) (x:Int) (bI:List V):Option (List V):=
 bif dL .u64 x&&true then
  bif dL .u64 x&&true then
  bif Nat.ble ((bI.length+([.int .u64 x]:List V).length)*8) cz then
   some [.int .i64 (bI.length:Int),.list cD (bI++([.int .u64 x]:List V)),.list j4 (gB (.int .u64 x) (.int .i64 (bI.length:Int)) ([]:List V))]
  else none
  else none
 else none
theorem ai2 {x:Int} {bI:List V} {r:Option (List V)} (h:Zt CC x bI=r):CC CX [.int .u64 x,.list cD bI]=r:=
 bp (key:=137) (L:=di) (bs:=[]) (by kernel_rfl) ar (bn (by kernel_rfl) h)
noncomputable def Zu (C:ae) (x:Int) (bI dw:List V):Option (List V):=
 bif dL .u64 x&&true then
  bif !(iF (.int .u64 x) dw) then
  bif dL .u64 x&&true then
   bif Nat.ble ((bI.length+([.int .u64 x]:List V).length)*8) cz then
   some [.int .i64 (bI.length:Int),.list j4 (gB (.int .u64 x) (.int .i64 (bI.length:Int)) dw),.list cD (bI++([.int .u64 x]:List V))]
   else none
  else none
  else
  some [.int .i64 ((ku (.int .u64 x) dw (.int .i64 0)).toInt),.list j4 dw,.list cD bI]
 else none
theorem ai3 {x:Int} {bI dw:List V} {r:Option (List V)} (h:Zu CC x bI dw=r):CC Nn [.int .u64 x,.list cD bI,.list j4 dw]=r:=
 bp (key:=183) (L:=di) (bs:=[]) (by kernel_rfl) ar (bn (by kernel_rfl) h)
noncomputable abbrev J5:Code:=cA Tryd.prog (au.aU 117)
noncomputable def Em (C:ae) (cf i state t36 nv nw ny nz:Int) (nA:List V) (oq ot bf bx:Int) (dX dc ib ov:List V) (t37:Int) (nB rows dz e9:List V) {β:Type} (kn:(Int × (List V) × (List V) × (List V) × (List V))→Option β) (kr:(Int × Bool × (List V) × (List V) × (List V) × (List V))→Option β):Option β:=
 bif decide ((t37:Int)<t36) then
  (C ra [.int .u64 state,.int .i64 t37,.list fk nB]).bind fun r3=>
  (C Nn [.int .u64 ((V.nth r3 0).toInt),.list cD dz,.list j4 e9]).bind fun r4=>
  bif (decide (0≤t37))&&(decide (t37<(rows.length:Int))) then
  (rows[(t37:Int).toNat]?).bind fun x5=>
  kn (IntKind.wrap .i64 (t37+1),(V.nth (r3.drop 1) 0).toList,rows.set ((t37:Int).toNat) (.int .i64 ((V.nth r4 0).toInt)),(V.nth ((r4.drop 1).drop 1) 0).toList,(V.nth (r4.drop 1) 0).toList)
  else none
 else
  kr (t37,decide ((t37:Int)<t36),nB,rows,dz,e9)
noncomputable def J6 (C:ae) (cf i state t36 nv nw ny nz:Int) (nA:List V) (oq ot bf bx:Int) (dX dc ib ov:List V):(Int × (List V) × (List V) × (List V) × (List V))→Option ((Int × (List V) × (List V) × (List V) × (List V)) ⊕ (Int × Bool × (List V) × (List V) × (List V) × (List V))):=un fun t37=>un fun nB=>un fun rows=>un fun dz e9=>Em C cf i state t36 nv nw ny nz nA oq ot bf bx dX dc ib ov t37 nB rows dz e9 (fun y=>some (.inl y)) (fun r=>some (.inr r))
noncomputable def En (C:ae) (cf oq ot bf bx:Int) (ia dX:List V) (i:Int) (nB:List V) (nv nw ny nz:Int) (nA dc dz e9 ib:List V) {β:Type} (kn:(Int × (List V) × Int × Int × Int × Int × (List V) × (List V) × (List V) × (List V) × (List V))→Option β) (kr:((Int × (List V) × Int × Int × Int × Int × (List V) × Int × Int × (List V) × (List V) × (List V)) ⊕ (Int × Bool × (List V) × Int × Int × Int × Int × (List V) × (List V) × (List V) × (List V) × (List V)))→Option β):Option β:=
 bif decide ((i:Int)<(dc.length:Int)) then
  bif (decide (0≤i))&&(decide (i<(dc.length:Int))) then
  (dc[(i:Int).toNat]?).bind fun x2=>
  bif (decide (0≤cf))&&((decide (cf≤cf))&&(Nat.ble (((cf:Int).toNat)*8) cz)) then
   (Loop (J6 C cf i x2.toInt ((List.replicate ((cf:Int).toNat) (V.int .i64 0)).length:Int) nv nw ny nz nA oq ot bf bx ia dX e9 ib) (0,nB,List.replicate ((cf:Int).toNat) (V.int .i64 0),dc,dz)).bind (un fun (te:Int)=>un fun (pj:Bool)=>un fun (DQ:List V)=>un fun (Zv:List V)=>un fun (vc:List V) (P5:List V)=>
    bif decide (((vc.length:Int):Int)>512) then
    kr (.inl (3,DQ,nv,nw,ny,nz,nA,0,0,([]:List V),([]:List V),([]:List V)))
    else
    bif Nat.ble ((ib.length+([.list bJ Zv]:List V).length)*24) cz then
     (C sZ [.int .u64 x2.toInt,.int .i64 nv,.int .i64 nw,.int .u64 ny,.int .u64 nz,.list ak nA]).bind fun ep=>
     bif Nat.ble ((e9.length+([.bool ((V.nth ep 0).toBool)]:List V).length)*1) cz then
     kn (IntKind.wrap .i64 (i+1),DQ,(V.nth (ep.drop 1) 0).toInt,(V.nth ((ep.drop 1).drop 1) 0).toInt,(V.nth (((ep.drop 1).drop 1).drop 1) 0).toInt,(V.nth ((((ep.drop 1).drop 1).drop 1).drop 1) 0).toInt,(V.nth (((((ep.drop 1).drop 1).drop 1).drop 1).drop 1) 0).toList,vc,P5,e9++([.bool ((V.nth ep 0).toBool)]:List V),ib++([.list bJ Zv]:List V))
     else none
    else none)
  else none
  else none
 else
  kr (.inr (i,decide ((i:Int)<(dc.length:Int)),nB,nv,nw,ny,nz,nA,dc,dz,e9,ib))
noncomputable def z6 (C:ae) (cf oq ot bf bx:Int) (ia dX:List V):(Int × (List V) × Int × Int × Int × Int × (List V) × (List V) × (List V) × (List V) × (List V))→Option ((Int × (List V) × Int × Int × Int × Int × (List V) × (List V) × (List V) × (List V) × (List V)) ⊕ ((Int × (List V) × Int × Int × Int × Int × (List V) × Int × Int × (List V) × (List V) × (List V)) ⊕ (Int × Bool × (List V) × Int × Int × Int × Int × (List V) × (List V) × (List V) × (List V) × (List V)))):=un fun i=>un fun nB=>un fun nv=>un fun nw=>un fun ny=>un fun nz=>un fun nA=>un fun dc=>un fun dz=>un fun e9 ib=>En C cf oq ot bf bx ia dX i nB nv nw ny nz nA dc dz e9 ib (fun y=>some (.inl y)) (fun r=>some (.inr r))
noncomputable def Zw (C:ae):cl:=fun β n ds k=>
 bif Nat.beq n 161 then bt Ov [false,false,false,false,true,true,false,false,false,false,false,false,false,false,false,true,false,false,true,true,false,false] [[1,2,3,4,0,0,0,7,8,9,10,11,12,13,14,15,0,17,18,0,0,21,22]] (@Em C) ds k else
 bif Nat.beq n 81 then bt Ow [false,true,true,true,true,true,true,true,false,false,false,false,false,false,true,true,true,true] [[0,0,0,0,0,0,0,0,0,0,0,0],[1,0,0,0,0,0,0,0,0,9,10,11,12,13,14,0,0,0,0]] (@En C) ds k else
 none
abbrev Zx (C:ae) (b:ch):Prop:=cj Tryd.prog au C (Zw C) 117 (cH Tryd.prog (au.aU 117)) (au.sin 117).aZ.length b
theorem ai4 (C:ae):Zx C (.loop (aq [1,1,1,1,0,1,0,0,1,0,0,1,1,0,1,0,0] J5)):=
 bA Ov [false,false,false,false,true,true,false,false,false,false,false,false,false,false,false,true,false,false,true,true,false,false] [[1,2,3,4,0,0,0,7,8,9,10,11,12,13,14,15,0,17,18,0,0,21,22]] (@Em C) (by kernel_rfl) (aK (bs:=[]) (by kernel_rfl) ar) (fun ds=>by kernel_rfl) (fun i x=>by kernel_rfl) (fun i x β k=>by kernel_rfl) (fun β ds k=>by kernel_rfl)
theorem ai5 (C:ae):Zx C (.loop (aq [1,1,1,1,0,1,0,0] J5)):=
 bA Ow [false,true,true,true,true,true,true,true,false,false,false,false,false,false,true,true,true,true] [[0,0,0,0,0,0,0,0,0,0,0,0],[1,0,0,0,0,0,0,0,0,9,10,11,12,13,14,0,0,0,0]] (@En C) (by kernel_rfl) (aK (bs:=[.loop (aq [1,1,1,1,0,1,0,0,1,0,0,1,1,0,1,0,0] J5)]) (by kernel_rfl) (aY (ai4 C) ar)) (fun ds=>by kernel_rfl) (fun i x=>by kernel_rfl) (fun i x β k=>by kernel_rfl) (fun β ds k=>by kernel_rfl)
noncomputable def P6 (C:ae) (cf start:Int) (nB:List V) (nv nw ny nz:Int) (nA:List V):Option (List V):=
 (C CX [.int .u64 start,.list cD ([]:List V)]).bind fun r1=>
 (Loop (z6 C cf 0 0 cf 0 ([]:List V) ([]:List V)) (0,nB,nv,nw,ny,nz,nA,(V.nth (r1.drop 1) 0).toList,(V.nth ((r1.drop 1).drop 1) 0).toList,([]:List V),([]:List V))).bind (dm (un fun (u6:Int)=>un fun (DR:List V)=>un fun (Dw:Int)=>un fun (ai6:Int)=>un fun (DS:Int)=>un fun (DT:Int)=>un fun (PQ:List V)=>un fun (ai7:Int)=>un fun (PR:Int)=>un fun (ai8:List V)=>un fun (PS:List V) (ai9:List V)=>
  some [.int .i64 ai7,.int .i64 PR,.int .i64 u6,.list fk DR,.int .i64 Dw,.int .i64 ai6,.int .u64 DS,.int .u64 DT,.list ak PQ,.list ay ai8,.list aA PS,.list cD ai9]) (un fun (an8:Int)=>un fun (Zy:Bool)=>un fun (aja:List V)=>un fun (ajb:Int)=>un fun (ajc:Int)=>un fun (ajd:Int)=>un fun (aje:Int)=>un fun (ajf:List V)=>un fun (YS:List V)=>un fun (YT:List V)=>un fun (PT:List V) (ajg:List V)=>
  some [.int .i64 cf,.int .i64 0,.int .i64 0,.list fk aja,.int .i64 ajb,.int .i64 ajc,.int .u64 ajd,.int .u64 aje,.list ak ajf,.list ay PT,.list aA ajg,.list cD YS]))
theorem Zz {cf start:Int} {nB:List V} {nv nw ny nz:Int} {nA:List V} {r:Option (List V)} (h:P6 CC cf start nB nv nw ny nz nA=r):CC wZ [.int .i64 cf,.int .u64 start,.list fk nB,.int .i64 nv,.int .i64 nw,.int .u64 ny,.int .u64 nz,.list ak nA]=r:=
 bp (key:=117) (L:=Zw CC) (bs:=[.loop (aq [1,1,1,1,0,1,0,0] J5)]) (by kernel_rfl) (aY (ai5 CC) ar) (bn (by kernel_rfl) h)
noncomputable def P7 (C:ae) (en ft dM fM:Int) (eN:List V):Option (List V):=
 (C CP [.int .i64 en,.int .i64 ft,.int .u64 dM,.int .u64 fM,.list ak eN]).bind fun r1=>
 bif (((V.nth r1 0).toInt):Int) != 0 then
  some [.int .i64 0,.int .i64 0,.int .i64 ((V.nth r1 0).toInt),.list ay ([]:List V),.list aA ([]:List V),.list cD ([]:List V)]
 else
  (C IJ [.int .i64 en,.int .i64 ft,.int .u64 dM,.int .u64 fM,.list ak eN]).bind fun r2=>
  (C wZ [.int .i64 en,.int .u64 dM,.list fk ((V.nth r2 0).toList),.int .i64 en,.int .i64 ft,.int .u64 dM,.int .u64 fM,.list ak eN]).bind fun r3=>
  some [.int .i64 ((V.nth r3 0).toInt),.int .i64 ((V.nth (r3.drop 1) 0).toInt),.int .i64 ((V.nth (r3.drop 2) 0).toInt),.list ay ((V.nth (((r3.drop 3).drop 1).drop 5) 0).toList),.list aA ((V.nth ((((r3.drop 3).drop 1).drop 5).drop 1) 0).toList),.list cD ((V.nth (((((r3.drop 3).drop 1).drop 5).drop 1).drop 1) 0).toList)]
theorem ZA {en ft dM fM:Int} {eN:List V} {r:Option (List V)} (h:P7 CC en ft dM fM eN=r):CC CO [.int .i64 en,.int .i64 ft,.int .u64 dM,.int .u64 fM,.list ak eN]=r:=
 bp (key:=99) (L:=di) (bs:=[]) (by kernel_rfl) ar (bn (by kernel_rfl) h)
def uV (q:Nat):V:= .int .u64 (q:Int)
def uM (S:List Nat):List V:=gJ uV 0 S
theorem P8 (a b:Nat):kq (uV a) (uV b)=decide (a=b):=ahU a b
theorem ajh {S:List Nat} {i:Nat} (h:i<S.length):(U1 S)[i]? =some (uV S[i]):=PB (bM h)
theorem ZB {x:Nat} (hx:x<2^64):CC CX [uV x,.list cD []]=some [nV 0,.list cD (U1 [x]),.list j4 (uM [x])]:=by
 refine ai2 ?_
 unfold Zt
 rw[YE hx]
 exact bT rfl (bT rfl (bT (cap (by simp) (by omega)) rfl))
theorem aji {S:List Nat} {x:Nat} (hx:x<2^64) (hl:S.length≤1000000):CC Nn [uV x,.list cD (U1 S),.list j4 (uM S)]=some [nV ((dD S x).idxOf x),.list j4 (uM (dD S x)),.list cD (U1 (dD S x))]:=by
 refine ai3 ?_
 unfold Zu
 have e1:=DL P8 x S 0
 rw[YE hx]
 refine bT rfl ?_
 rw[show (V.int .u64 (x:Int))=uV x from rfl,YF]
 by_cases h:x∈S
 ·refine bF (by rw[show iF (uV x) (uM S)=_ from e1];simpa using h) ?_
  have e2:=DM P8 x (.int .i64 0) S 0 h
  rw[show ku (uV x) (uM S) (.int .i64 0)=_ from e2,ag h,fe,show dD S x=S by unfold dD;rw[ag h]]
  rfl
 ·refine bT (by rw[show iF (uV x) (uM S)=_ from e1];simpa using h) ?_
  refine bT rfl ?_
  refine bT (cap (by rw[rl];simp;omega) (by omega)) ?_
  have e2:=DN P8 x S 0 h
  rw[fe] at e2
  rw[rl,show gB (uV x) (.int .i64 (S.length:Int)) (uM S)=_ from e2,ah h,show dD S x=S++[x] by unfold dD;rw[ah h]]
  simp[U1,nV,uM,uV]
def sn (E:List Ed) (s x:Nat):Nat:=jB E s (x:Int)
def sf (fin s:Nat):Bool:= !((s&&&fin)==0)
structure Nat6 (n:Nf) (L S:Nat):Prop where
 code:n.code=0
 ok:n.Ok
 hL:n.L=(L:Int)
 hS:n.S=(S:Int)
namespace Nat6
variable {n:Nf} {L S:Nat} (h:Nat6 n L S)
include h
theorem good:n.Good:=Nf.agh h.code
theorem l1:1≤L:=by have:=h.good.L1;have:=h.hL;omega
theorem l6:L≤6:=by have:=h.good.L6;have:=h.hL;omega
theorem pk:S≤64:=by have:=h.good.S64;have:=h.hS;omega
theorem sS:n.S.toNat=S:=by have:=h.hS;omega
theorem lL:n.L.toNat=L:=by have:=h.hL;omega
theorem edF: ∀e∈n.E,e.f.toNat<S:=fun e he=>by have:=h.good.E e he;have:=h.hS;unfold Ed.In at*;omega
theorem ZC: ∀e∈n.E,e.t.toNat<S:=fun e he=>by have:=h.good.E e he;have:=h.hS;unfold Ed.In at*;omega
theorem st:n.st<2^S:=by have:=h.good.st;rwa [h.sS] at this
theorem fin:n.fin<2^S:=by have:=h.good.fin;rwa [h.sS] at this
theorem pow:2^S≤2^64:=oQ (by omega) h.pk
theorem next (s x:Nat):sn n.E s x<2^S:=Py h.ZC
end Nat6
def jC (n:Nf) (L S:Nat):List Nat:=ax L (sn n.E) n.st (2^S)
def j8 (n:Nf) (L S:Nat):Da:=fX L (sn n.E) (sf n.fin) (jC n L S)
def jD (n:Nf) (L S:Nat):Prop:=512<(jC n L S).length
def tV (n:Nf) (L S:Nat):List V:=U2 (ld L S n.E)
def ZD (m:Da) (e:Int) (X:V):List V:=[.int .i64 (m.L:Int),.int .i64 (m.st:Int),.int .i64 e,.list ay m.cZ,.list aA m.cO,X]
section
variable {n:Nf} {L S:Nat} (h:Nat6 n L S)
include h
theorem ajj {s x:Nat} (hs:s<2^S) (hx:x<L):CC ra [uV s,nV x,.list fk (tV n L S)]=some [uV (sn n.E s x),.list fk (tV n L S)]:=by
 have hp:=h.pow
 refine ai0 ?_
 unfold Zr
 have e1:idx (tV n L S) (x:Int)=some (.list cD (U1 (np S n.E (x:Int)))):=by
  rw[MW rfl]
  unfold tV U2
  rw[fF,PC hx];rfl
 refine bs e1 ?_
 have hr:zK (np S n.E (x:Int)):=ahe h.pk h.ZC
 have e2:=ahd hr (s:=s) (by omega)
 have hl:(np S n.E (x:Int)).length=S:=by simp[np]
 rw[hl,ahf (by omega) h.pk h.edF] at e2
 refine bs e2 ?_
 rfl
theorem ajk {s:Nat} (hs:s<2^S):CC sZ (uV s::mD n [])=some (.bool (sf n.fin s)::mD n []):=by
 have hp:=h.pow
 have hf:=h.fin
 refine ai1 ?_
 unfold Zs
 have e:IntKind.wrap .u64 ((BitVec.ofInt (IntKind.bits .u64) (s:Int)&&&BitVec.ofInt (IntKind.bits .u64) (n.fin:Int)).toNat)=((s&&&n.fin:Nat):Int):=u64_and (by omega) (by omega)
 rw[e]
 have e2:(((s&&&n.fin:Nat):Int) != 0)=sf n.fin s:=by
  unfold sf
  rw[oR]
  simp
 rw[e2];rfl
theorem sub_lt (i:Nat): ∀s∈ax L (sn n.E) n.st i,s<2^S:=aiZ (P:=fun s=>s<2^S) h.st (fun s _ x _=>h.next s x) i
theorem z7 (i:Nat):(ax L (sn n.E) n.st i).length≤2^S:=by
 have:=Yd (L:=L) (next:=sn n.E) (a0:=n.st) (U:=List.range (2^S)) (iR.2 h.st) (fun s _ x _=>iR.2 (h.next s x)) i
 simpa using this
theorem ajl {T U:List Nat} {s:Nat} (hs:s<2^S) (hT:T.length≤1000) (hp:dH (sn n.E) T s L <+: U) {i c1 c2:Int} {l1 l2 l3 l4:List V}:
  Loop (J6 CC (L:Int) i (s:Int) ((List.replicate (((L:Nat):Int).toNat) (V.int .i64 0)).length:Int) n.L n.S (n.st:Int) (n.fin:Int) (n.E.map Ed.enc) c1 c2 (L:Int) 0 l1 l2 l3 l4) (0,tV n L S,List.replicate (((L:Nat):Int).toNat) (V.int .i64 0),U1 T,uM T)=
   some ((L:Int),false,tV n L S,(tab L fun x=>nV (U.idxOf (sn n.E s x))),U1 (dH (sn n.E) T s L),uM (dH (sn n.E) T s L)):=by
 have h6:=h.l6
 have ZE:=h.pow
 rw[Int.toNat_natCast,rv,gg]
 refine (iz L (fun x=>((x:Int),tV n L S,(tab L fun j=>if j<x then nV (U.idxOf (sn n.E s j)) else nV 0),U1 (dH (sn n.E) T s x),uM (dH (sn n.E) T s x))) _ (fun x hx=> ?_) ?_)
 ·simp only[J6,Em,un]
  refine bT (eW hx) ?_
  refine bs (ajj h hs hx) ?_
  have hl:=Zp (next:=sn n.E) T s x
  have hn:=h.next s x
  refine bs (aji (S:=dH (sn n.E) T s x) (x:=sn n.E s x) (by omega) (by omega)) ?_
  refine (fY hx).trans ?_
  rw[dI (by omega),Int.toNat_natCast,ru]
  have e:(dD (dH (sn n.E) T s x) (sn n.E s x)).idxOf (sn n.E s x)=U.idxOf (sn n.E s x):=(zO ((zM T s (show x+1≤L by omega)).trans hp) zL).symm
  show some (Sum.inl _)=some (Sum.inl _)
  refine congrArg (fun x=>some (Sum.inl x)) ?_
  refine ko rfl (ko rfl (ko ?_ (ko rfl rfl)))
  refine fN fun j _=> ?_
  by_cases hj:j=x
  ·rw[ag hj,ag (by omega),hj,←e];rfl
  ·rw[ah hj]
   by_cases cp:j<x
   ·rw[ag cp,ag (by omega)]
   ·rw[ah cp,ah (by omega)]
 ·simp only[J6,Em,un]
  refine bF (b6 (aE _)) ?_
  rw[b6 (aE _)]
  have:(tab L fun j=>if j<L then nV (U.idxOf (sn n.E s j)) else nV 0)=tab L fun j=>nV (U.idxOf (sn n.E s j)):=fN fun j hj=>ag hj
  rw[this]
theorem P9 {i:Nat} (n7:i<(ax L (sn n.E) n.st i).length) (hlen:(ax L (sn n.E) n.st i).length≤512) {U:List Nat} (hp:ax L (sn n.E) n.st (i+1) <+: U) {l1 l2 l3 l4:List V} (hl3:l3.length≤1000) (hl4:l4.length≤1000):
  z6 CC (L:Int) 0 0 (L:Int) 0 l1 l2 ((i:Int),tV n L S,n.L,n.S,(n.st:Int),(n.fin:Int),n.E.map Ed.enc,U1 (ax L (sn n.E) n.st i),uM (ax L (sn n.E) n.st i),l3,l4)=
   if 512<(ax L (sn n.E) n.st (i+1)).length then some (.inr (.inl (3,tV n L S,n.L,n.S,(n.st:Int),(n.fin:Int),n.E.map Ed.enc,0,0,[],[],[])))
   else some (.inl (((i+1:Nat):Int),tV n L S,n.L,n.S,(n.st:Int),(n.fin:Int),n.E.map Ed.enc,U1 (ax L (sn n.E) n.st (i+1)),uM (ax L (sn n.E) n.st (i+1)),l3++[V.bool (sf n.fin (ax L (sn n.E) n.st i)[i])],l4++[V.list bJ (tab L fun x=>nV (U.idxOf (sn n.E (ax L (sn n.E) n.st i)[i] x)))])):=by
 have h6:=h.l6
 have hq:=sub_lt h i _ (gb n7)
 have nR:ax L (sn n.E) n.st (i+1)=dH (sn n.E) (ax L (sn n.E) n.st i) (ax L (sn n.E) n.st i)[i] L:=X6 (bM n7)
 simp only[z6,En,un]
 refine bT (bX (by rw[rl];omega)) ?_
 refine (Jx (ajh n7)).trans ?_
 refine bT (pr (by omega) (by omega)) ?_
 refine bs (ajl h hq (by omega) (U:=U) (by rw[←nR];exact hp)) ?_
 rw[←nR]
 by_cases wx:512<(ax L (sn n.E) n.st (i+1)).length
 ·rw[ag wx]
  refine bT (bX (by rw[rl];omega)) ?_
  rfl
 ·rw[ah wx]
  refine bF (eG (by rw[rl];omega)) ?_
  refine bT (cap (by simp;omega) (by omega)) ?_
  refine bs (ajk h hq) ?_
  refine bT (cap (by simp;omega) (by omega)) ?_
  rw[dI (by omega)]
  rfl
theorem ajm (hn: ¬jD n L S): ∃X,CC wZ (nV L::uV n.st:: .list fk (tV n L S)::mD n [])=some ([nV L,nV 0,.int .i64 0,.list fk (tV n L S)]++(mD n []++[.list ay (j8 n L S).cZ,.list aA (j8 n L S).cO,X])):=by
 have h6:=h.l6
 have cd:=h.st
 have ZE:=h.pow
 have hd:(ax L (sn n.E) n.st (2^S)).length≤2^S:=z7 h _
 have hle: ∀i,(ax L (sn n.E) n.st i).length≤(jC n L S).length:=aiW hd
 have an9:(jC n L S).length≤512:=by unfold jD at hn;omega
 refine ⟨.list cD (U1 (jC n L S)),Zz ?_⟩
 unfold P6
 refine bs (ZB (x:=n.st) (by omega)) ?_
 have key:Loop (z6 CC (L:Int) 0 0 (L:Int) 0 ([]:List V) ([]:List V)) (0,tV n L S,n.L,n.S,(n.st:Int),(n.fin:Int),n.E.map Ed.enc,U1 [n.st],uM [n.st],([]:List V),([]:List V))=
   some (.inr (((jC n L S).length:Int),false,tV n L S,n.L,n.S,(n.st:Int),(n.fin:Int),n.E.map Ed.enc,U1 (jC n L S),uM (jC n L S),(j8 n L S).cZ,(j8 n L S).cO)):=by
  refine (iz (jC n L S).length (fun i=>((i:Int),tV n L S,n.L,n.S,(n.st:Int),(n.fin:Int),n.E.map Ed.enc,U1 (ax L (sn n.E) n.st i),uM (ax L (sn n.E) n.st i),(tab i fun j=>V.bool ((j8 n L S).fin j)),(tab i fun j=>kK L ((j8 n L S).nx j)))) _ (fun i hi=> ?_) ?_)
  ·have n7:=Jo hd hi
   have hiK:i<2^S:=lz hi hd
   have PU:(ax L (sn n.E) n.st i)[i]=(jC n L S)[i]:=(oj (show i≤2^S by omega)).getElem n7
   have aoa:=hle (i+1)
   have aob:=hle i
   have:=P9 h n7 (by omega) (U:=jC n L S) (oj (by omega)) (l1:=[]) (l2:=[]) (l3:=(tab i fun j=>V.bool ((j8 n L S).fin j))) (l4:=(tab i fun j=>kK L ((j8 n L S).nx j))) (by rw[gg];omega) (by rw[gg];omega)
   rw[ah (by omega),PU] at this
   rw[this,va,va]
   have e1:(j8 n L S).fin i=sf n.fin (jC n L S)[i]:=PI hi
   have e2:kK L ((j8 n L S).nx i)= .list bJ (tab L fun x=>nV ((jC n L S).idxOf (sn n.E (jC n L S)[i] x))):=by
    unfold kK
    refine congrArg _ (fN fun x hx=> ?_)
    rw[show (j8 n L S).nx i x=_ from DC hi hx];rfl
   rw[e1,e2]
  ·simp only[z6,En,un]
   rw[show ax L (sn n.E) n.st (jC n L S).length=jC n L S from PK hd,rl]
   refine bF (b6 (aE _)) ?_
   rw[b6 (aE _)]
   have e3:(j8 n L S).n=(jC n L S).length:=om
   unfold Da.cZ Da.cO
   rw[e3];rfl
 refine bs key ?_
 rfl
theorem ajn (hn:jD n L S): ∃X,CC wZ (nV L::uV n.st:: .list fk (tV n L S)::mD n [])=some ([nV 0,nV 0,.int .i64 3,.list fk (tV n L S)]++(mD n []++[.list ay [],.list aA [],X])):=by
 have h6:=h.l6
 have cd:=h.st
 have ZE:=h.pow
 obtain ⟨m,hm1,sk,hm3⟩:=aiY (aiX (show 512<(ax L (sn n.E) n.st (2^S)).length from hn)) (by omega)
 refine ⟨.list cD [],Zz ?_⟩
 unfold P6
 refine bs (ZB (x:=n.st) (by omega)) ?_
 have key: ∃r,Loop (z6 CC (L:Int) 0 0 (L:Int) 0 ([]:List V) ([]:List V)) (0,tV n L S,n.L,n.S,(n.st:Int),(n.fin:Int),n.E.map Ed.enc,U1 [n.st],uM [n.st],([]:List V),([]:List V))=some r∧r=(.inl (3,tV n L S,n.L,n.S,(n.st:Int),(n.fin:Int),n.E.map Ed.enc,0,0,[],[],[])):=by
  refine Jy (fun i st=> ∃l3 l4:List V,l3.length=i∧l4.length=i∧st=((i:Int),tV n L S,n.L,n.S,(n.st:Int),(n.fin:Int),n.E.map Ed.enc,U1 (ax L (sn n.E) n.st i),uM (ax L (sn n.E) n.st i),l3,l4)) _ m 0 _ (fun i _ hi st cd=> ?_) (fun st cd=> ?_) ⟨[],[],rfl,rfl,rfl⟩
  ·obtain ⟨l3,l4,e3,e4,rfl⟩:=cd
   obtain ⟨h1,h2⟩:=sk i (by omega)
   have h3:=(sk (i+1) (by omega)).2
   have:=P9 h h1 h2 (pG _) (l1:=[]) (l2:=[]) (l3:=l3) (l4:=l4) (by omega) (by omega)
   rw[ah (by omega)] at this
   exact ⟨_,this,_,_,by simp[e3],by simp[e4],rfl⟩
  ·obtain ⟨l3,l4,e3,e4,rfl⟩:=cd
   rw[fe] at*
   obtain ⟨h1,h2⟩:=sk m (by omega)
   have:=P9 h h1 h2 (pG _) (l1:=[]) (l2:=[]) (l3:=l3) (l4:=l4) (by omega) (by omega)
   rw[ag (by omega)] at this
   exact ⟨_,this,rfl⟩
 obtain ⟨r,h1,rfl⟩:=key
 refine bs h1 ?_
 rfl
theorem ajo (hn: ¬jD n L S): ∃X,CC CO (mD n [])=some (ZD (j8 n L S) 0 (.list cD X)):=by
 obtain ⟨X,hX⟩:=ajm h hn
 refine ⟨X.toList,ZA ?_⟩
 unfold P7
 have hv:=Px n h.ok
 rw[h.code] at hv
 refine bs hv (bF rfl ?_)
 have hs:=XW n h.ok h.good
 rw[h.lL,h.sS] at hs
 refine bs hs ?_
 refine bs ((congrArg (fun z=>CC wZ (.int .i64 z::uV n.st:: .list fk (tV n L S)::mD n [])) h.hL).trans hX) ?_
 rfl
theorem ajp (hn:jD n L S): ∃X,CC CO (mD n [])=some (ZD zD 3 (.list cD X)):=by
 obtain ⟨X,hX⟩:=ajn h hn
 refine ⟨X.toList,ZA ?_⟩
 unfold P7
 have hv:=Px n h.ok
 rw[h.code] at hv
 refine bs hv (bF rfl ?_)
 have hs:=XW n h.ok h.good
 rw[h.lL,h.sS] at hs
 refine bs hs ?_
 refine bs ((congrArg (fun z=>CC wZ (.int .i64 z::uV n.st:: .list fk (tV n L S)::mD n [])) h.hL).trans hX) ?_
 rfl
theorem z8 (hn: ¬jD n L S):(j8 n L S).Ok:=by
 unfold jD at hn
 exact Yb (z7 h _) h.l1 h.l6 (show (jC n L S).length≤512 by omega)
theorem ajq {w:List Nat} (hw:WL L w):(j8 n L S).acc 0 w=sf n.fin (w.foldl (sn n.E) n.st):=by
 have h1:=Ya (fin:=sf n.fin) (z7 h _) (Dz _) hw
 have h2:=X7 (L:=L) (next:=sn n.E) (a0:=n.st) (2^S)
 rw[bM (Dz _)] at h2
 rw[dq h2] at h1
 exact h1
end
noncomputable abbrev ZF:Code:=cA Tryd.prog (au.aU 106)
noncomputable def Eo (C:ae) (a b':List V) (t12 t13:Int) {β:Type} (kn:Int→Option β) (kr:((Bool) ⊕ (Int × Bool))→Option β):Option β:=
 bif decide ((t13:Int)<t12) then
  (idx a t13).bind fun x1=>
  (idx b' t13).bind fun x2=>
  bif (x1.toInt:Int) != x2.toInt then
  kr (.inl false)
  else
  kn (IntKind.wrap .i64 (t13+1))
 else
  kr (.inr (t13,decide ((t13:Int)<t12)))
noncomputable def Qa (C:ae) (a b':List V) (t12:Int):(Int)→Option ((Int) ⊕ ((Bool) ⊕ (Int × Bool))):=fun t13=>Eo C a b' t12 t13 (fun y=>some (.inl y)) (fun r=>some (.inr r))
noncomputable def ZG (C:ae):cl:=fun β n ds k=>
 bif Nat.beq n 65 then bt Og [false,false,false,true] [[0],[1,2,3,0,0]] (@Eo C) ds k else
 none
abbrev ajr (C:ae) (b:ch):Prop:=cj Tryd.prog au C (ZG C) 106 (cH Tryd.prog (au.aU 106)) (au.sin 106).aZ.length b
theorem ajs (C:ae):ajr C (.loop (aq [1,1,0,1,0,0] ZF)):=
 bA Og [false,false,false,true] [[0],[1,2,3,0,0]] (@Eo C) (by kernel_rfl) (aK (bs:=[]) (by kernel_rfl) ar) (fun ds=>by kernel_rfl) (fun i x=>by kernel_rfl) (fun i x β k=>by kernel_rfl) (fun β ds k=>by kernel_rfl)
noncomputable def ZH (C:ae) (a b':List V):Option (List V):=
 bif ((a.length:Int):Int) != (b'.length:Int) then
  some [.bool false]
 else
  (Loop (Qa C a b' (a.length:Int)) 0).bind (dm (fun (lb:Bool)=>
   some [.bool lb]) (un fun (lY:Int) (nn:Bool)=>
   some [.bool true]))
theorem ajt {a b':List V} {r:Option (List V)} (h:ZH CC a b'=r):CC IH [.list bJ a,.list bJ b']=r:=
 bp (key:=106) (L:=ZG CC) (bs:=[.loop (aq [1,1,0,1,0,0] ZF)]) (by kernel_rfl) (aY (ajs CC) ar) (bn (by kernel_rfl) h)
noncomputable abbrev ZI:Code:=cA Tryd.prog (au.aU 104)
noncomputable def Ep (C:ae) (t13:List V) (t14 t15:Int) (tC outs:List V) {β:Type} (kn:(Int × (List V) × (List V))→Option β) (kr:(Int × Bool × (List V) × (List V))→Option β):Option β:=
 bif decide ((t15:Int)<t14) then
  (idx t13 t15).bind fun x1=>
  bif dL .i64 x1.toInt&&true then
  bif !(iF (.int .i64 x1.toInt) tC) then
   bif dL .i64 x1.toInt&&true then
   bif (decide (0≤t15))&&(decide (t15<(outs.length:Int))) then
    (outs[(t15:Int).toNat]?).bind fun x2=>
    kn (IntKind.wrap .i64 (t15+1),gB (.int .i64 x1.toInt) (.int .i64 (tC.length:Int)) tC,outs.set ((t15:Int).toNat) (.int .i64 (tC.length:Int)))
   else none
   else none
  else
   bif (decide (0≤t15))&&(decide (t15<(outs.length:Int))) then
   (outs[(t15:Int).toNat]?).bind fun x3=>
   kn (IntKind.wrap .i64 (t15+1),tC,outs.set ((t15:Int).toNat) (.int .i64 ((ku (.int .i64 x1.toInt) tC (.int .i64 0)).toInt)))
   else none
  else none
 else
  kr (t15,decide ((t15:Int)<t14),tC,outs)
noncomputable def Qb (C:ae) (t13:List V) (t14:Int):(Int × (List V) × (List V))→Option ((Int × (List V) × (List V)) ⊕ (Int × Bool × (List V) × (List V))):=un fun t15=>un fun tC outs=>Ep C t13 t14 t15 tC outs (fun y=>some (.inl y)) (fun r=>some (.inr r))
noncomputable def ZJ (C:ae):cl:=fun β n ds k=>
 bif Nat.beq n 65 then bt Oe [false,false,true,true,true] [[1,2,0,0,0,0]] (@Ep C) ds k else
 none
abbrev aju (C:ae) (b:ch):Prop:=cj Tryd.prog au C (ZJ C) 104 (cH Tryd.prog (au.aU 104)) (au.sin 104).aZ.length b
theorem ajv (C:ae):aju C (.loop (aq [1,1,1,0,1,0,0] ZI)):=
 bA Oe [false,false,true,true,true] [[1,2,0,0,0,0]] (@Ep C) (by kernel_rfl) (aK (bs:=[]) (by kernel_rfl) ar) (fun ds=>by kernel_rfl) (fun i x=>by kernel_rfl) (fun i x β k=>by kernel_rfl) (fun β ds k=>by kernel_rfl)
noncomputable def ZK (C:ae) (l:List V):Option (List V):=
 bif (decide (0≤(l.length:Int)))&&((decide ((l.length:Int)≤(l.length:Int)))&&(Nat.ble ((((l.length:Int):Int).toNat)*8) cz)) then
  (Loop (Qb C l (l.length:Int)) (0,([]:List V),List.replicate (((l.length:Int):Int).toNat) (V.int .i64 0))).bind (un fun (lY:Int)=>un fun (nn:Bool)=>un fun (aoc:List V) (ajw:List V)=>
   some [.list bJ ajw])
 else none
theorem ajx {l:List V} {r:Option (List V)} (h:ZK CC l=r):CC CQ [.list bJ l]=r:=
 bp (key:=104) (L:=ZJ CC) (bs:=[.loop (aq [1,1,1,0,1,0,0] ZI)]) (by kernel_rfl) (aY (ajv CC) ar) (bn (by kernel_rfl) h)
noncomputable abbrev ZL:Code:=cA Tryd.prog (au.aU 105)
noncomputable def Er (C:ae) (p q:List V) (t11 t12:Int) (outs:List V) {β:Type} (kn:(Int × (List V))→Option β) (kr:(Int × Bool × (List V))→Option β):Option β:=
 bif decide ((t12:Int)<t11) then
  (idx p t12).bind fun x1=>
  (idx q t12).bind fun x2=>
  bif (decide (0≤t12))&&(decide (t12<(outs.length:Int))) then
  (outs[(t12:Int).toNat]?).bind fun x3=>
  kn (IntKind.wrap .i64 (t12+1),outs.set ((t12:Int).toNat) (.int .i64 (IntKind.wrap .i64 ((IntKind.wrap .i64 ((IntKind.wrap .i64 ((p.length:Int)+1))*x1.toInt))+x2.toInt))))
  else none
 else
  kr (t12,decide ((t12:Int)<t11),outs)
noncomputable def Qc (C:ae) (p q:List V) (t11:Int):(Int × (List V))→Option ((Int × (List V)) ⊕ (Int × Bool × (List V))):=un fun t12 outs=>Er C p q t11 t12 outs (fun y=>some (.inl y)) (fun r=>some (.inr r))
noncomputable def ZM (C:ae):cl:=fun β n ds k=>
 bif Nat.beq n 49 then bt Of [false,false,false,true,true] [[1,2,3,0,0,0]] (@Er C) ds k else
 none
abbrev ajy (C:ae) (b:ch):Prop:=cj Tryd.prog au C (ZM C) 105 (cH Tryd.prog (au.aU 105)) (au.sin 105).aZ.length b
theorem ajz (C:ae):ajy C (.loop (aq [1,1,0,1,0,0] ZL)):=
 bA Of [false,false,false,true,true] [[1,2,3,0,0,0]] (@Er C) (by kernel_rfl) (aK (bs:=[]) (by kernel_rfl) ar) (fun ds=>by kernel_rfl) (fun i x=>by kernel_rfl) (fun i x β k=>by kernel_rfl) (fun β ds k=>by kernel_rfl)
noncomputable def ZN (C:ae) (p q:List V):Option (List V):=
 bif (decide (0≤(p.length:Int)))&&((decide ((p.length:Int)≤(p.length:Int)))&&(Nat.ble ((((p.length:Int):Int).toNat)*8) cz)) then
  (Loop (Qc C p q (p.length:Int)) (0,List.replicate (((p.length:Int):Int).toNat) (V.int .i64 0))).bind (un fun (lY:Int)=>un fun (nn:Bool) (ajA:List V)=>
   (C CQ [.list bJ ajA]).bind fun r7=>
   some [.list bJ ((V.nth r7 0).toList)])
 else none
theorem ajB {p q:List V} {r:Option (List V)} (h:ZN CC p q=r):CC IG [.list bJ p,.list bJ q]=r:=
 bp (key:=105) (L:=ZM CC) (bs:=[.loop (aq [1,1,0,1,0,0] ZL)]) (by kernel_rfl) (aY (ajz CC) ar) (bn (by kernel_rfl) h)
noncomputable abbrev vd:Code:=cA Tryd.prog (au.aU 84)
noncomputable def Es (C:ae) (t14 bf bx:Int) (bK bH:List V) (t15:Int) (ps:List V) {β:Type} (kn:(Int × (List V))→Option β) (kr:(Int × Bool × (List V))→Option β):Option β:=
 bif decide ((t15:Int)<t14) then
  (idx bK t15).bind fun x1=>
  bif x1.toBool then
  bif (decide (0≤t15))&&(decide (t15<(ps.length:Int))) then
   (ps[(t15:Int).toNat]?).bind fun x2=>
   kn (IntKind.wrap .i64 (t15+1),ps.set ((t15:Int).toNat) (.int .i64 1))
  else none
  else
  kn (IntKind.wrap .i64 (t15+1),ps)
 else
  kr (t15,decide ((t15:Int)<t14),ps)
noncomputable def Qd (C:ae) (t14 bf bx:Int) (bK bH:List V):(Int × (List V))→Option ((Int × (List V)) ⊕ (Int × Bool × (List V))):=un fun t15 ps=>Es C t14 bf bx bK bH t15 ps (fun y=>some (.inl y)) (fun r=>some (.inr r))
noncomputable def Et (C:ae) (p next':List V) (x t37 bf bx:Int) (bK bH:List V) (t38:Int) (Eu:List V) {β:Type} (kn:(Int × (List V))→Option β) (kr:(Int × Bool × (List V))→Option β):Option β:=
 bif decide ((t38:Int)<t37) then
  (idx bH t38).bind fun x7=>
  (idx x7.toList x).bind fun x8=>
  (idx p x8.toInt).bind fun x9=>
  bif Nat.ble ((Eu.length+([.int .i64 x9.toInt]:List V).length)*8) cz then
  kn (IntKind.wrap .i64 (t38+1),Eu++([.int .i64 x9.toInt]:List V))
  else none
 else
  kr (t38,decide ((t38:Int)<t37),Eu)
noncomputable def J7 (C:ae) (p next':List V) (x t37 bf bx:Int) (bK bH:List V):(Int × (List V))→Option ((Int × (List V)) ⊕ (Int × Bool × (List V))):=un fun t38 Eu=>Et C p next' x t37 bf bx bK bH t38 Eu (fun y=>some (.inl y)) (fun r=>some (.inr r))
noncomputable def Ev (C:ae) (p:List V) (bf bx:Int) (bK bH next':List V) (x:Int) {β:Type} (kn:((List V) × Int)→Option β) (kr:((List V) × Int × Bool)→Option β):Option β:=
 bif decide ((x:Int)<bf) then
  (Loop (J7 C p next' x (p.length:Int) bf bx bK bH) (0,([]:List V))).bind (un fun (YX:Int)=>un fun (J8:Bool) (ajC:List V)=>
   (C IG [.list bJ next',.list bJ ajC]).bind fun tD=>
   kn ((V.nth tD 0).toList,IntKind.wrap .i64 (x+1)))
 else
  kr (next',x,decide ((x:Int)<bf))
noncomputable def J9 (C:ae) (p:List V) (bf bx:Int) (bK bH:List V):((List V) × Int)→Option (((List V) × Int) ⊕ ((List V) × Int × Bool)):=un fun next' x=>Ev C p bf bx bK bH next' x (fun y=>some (.inl y)) (fun r=>some (.inr r))
noncomputable def Ew (C:ae) (bf bx:Int) (bK bH p:List V) {β:Type} (kn:List V→Option β) (kr:(List V)→Option β):Option β:=
 (Loop (J9 C p bf bx bK bH) (p,0)).bind (un fun (ZO:List V)=>un fun (aod:Int) (JG:Bool)=>
  (C IH [.list bJ ZO,.list bJ p]).bind fun cu=>
  bif (V.nth cu 0).toBool then
   kr p
  else
   kn ZO)
noncomputable def Ex (C:ae) (bf bx:Int) (bK bH:List V):(List V)→Option ((List V) ⊕ (List V)):=fun p=>Ew C bf bx bK bH p (fun y=>some (.inl y)) (fun r=>some (.inr r))
noncomputable def ZP (C:ae):cl:=fun β n ds k=>
 bif Nat.beq n 49 then bt N0 [false,true,false,false,false,false,true] [[1,0,0,3,4,5,6,0]] (@Es C) ds k else
 bif Nat.beq n 241 then bt N3 [false,false,false,false,true,false,false,false,false,true] [[1,2,3,4,0,0,6,7,8,9,0]] (@Et C) ds k else
 bif Nat.beq n 177 then bt N4 [false,true,true,false,false,false,false] [[1,0,0,0,4,5,6,7]] (@Ev C) ds k else
 bif Nat.beq n 145 then bt N5 [true,false,false,false,false] [[0]] (@Ew C) ds k else
 none
abbrev Ka (C:ae) (b:ch):Prop:=cj Tryd.prog au C (ZP C) 84 (cH Tryd.prog (au.aU 84)) (au.sin 84).aZ.length b
theorem ajD (C:ae):Ka C (.loop (aq [1,1,0,1,0,0] vd)):=
 bA N0 [false,true,false,false,false,false,true] [[1,0,0,3,4,5,6,0]] (@Es C) (by kernel_rfl) (aK (bs:=[]) (by kernel_rfl) ar) (fun ds=>by kernel_rfl) (fun i x=>by kernel_rfl) (fun i x β k=>by kernel_rfl) (fun β ds k=>by kernel_rfl)
theorem ajE (C:ae):Ka C (.loop (aq [1,1,1,1,0,0,0,1,0,1,0,0,1,0,0,1,0,1,0,0] vd)):=
 bA N3 [false,false,false,false,true,false,false,false,false,true] [[1,2,3,4,0,0,6,7,8,9,0]] (@Et C) (by kernel_rfl) (aK (bs:=[]) (by kernel_rfl) ar) (fun ds=>by kernel_rfl) (fun i x=>by kernel_rfl) (fun i x β k=>by kernel_rfl) (fun β ds k=>by kernel_rfl)
theorem ajF (C:ae):Ka C (.loop (aq [1,1,1,1,0,0,0,1,0,1,0,0] vd)):=
 bA N4 [false,true,true,false,false,false,false] [[1,0,0,0,4,5,6,7]] (@Ev C) (by kernel_rfl) (aK (bs:=[.loop (aq [1,1,1,1,0,0,0,1,0,1,0,0,1,0,0,1,0,1,0,0] vd)]) (by kernel_rfl) (aY (ajE C) ar)) (fun ds=>by kernel_rfl) (fun i x=>by kernel_rfl) (fun i x β k=>by kernel_rfl) (fun β ds k=>by kernel_rfl)
theorem ajG (C:ae):Ka C (.loop (aq [1,1,1,1,0,0] vd)):=
 bA N5 [true,false,false,false,false] [[0]] (@Ew C) (by kernel_rfl) (aK (bs:=[.loop (aq [1,1,1,1,0,0,0,1,0,1,0,0] vd)]) (by kernel_rfl) (aY (ajF C) ar)) (fun ds=>by kernel_rfl) (fun i x=>by kernel_rfl) (fun i x β k=>by kernel_rfl) (fun β ds k=>by kernel_rfl)
noncomputable def ZQ (C:ae) (ba bh:Int) (aM bc:List V):Option (List V):=
 bif (decide (0≤(aM.length:Int)))&&((decide ((aM.length:Int)≤(aM.length:Int)))&&(Nat.ble ((((aM.length:Int):Int).toNat)*8) cz)) then
  (Loop (Qd C ((List.replicate (((aM.length:Int):Int).toNat) (V.int .i64 0)).length:Int) ba bh aM bc) (0,List.replicate (((aM.length:Int):Int).toNat) (V.int .i64 0))).bind (un fun (lb:Int)=>un fun (lY:Bool) (ajH:List V)=>
   (C CQ [.list bJ ajH]).bind fun r6=>
   (Loop (Ex C ba bh aM bc) ((V.nth r6 0).toList)).bind (fun (ZR:List V)=>
    some [.list bJ ZR]))
 else none
theorem ajI {ba bh:Int} {aM bc:List V} {r:Option (List V)} (h:ZQ CC ba bh aM bc=r):CC Nd [.int .i64 ba,.int .i64 bh,.list ay aM,.list aA bc]=r:=
 bp (key:=84) (L:=ZP CC) (bs:=[.loop (aq [1,1,0,1,0,0] vd),.loop (aq [1,1,1,1,0,0] vd)]) (by kernel_rfl) (aY (ajD CC) (aY (ajG CC) ar)) (bn (by kernel_rfl) h)
theorem z9 {n:Nat} {c:Nat→Nat}:(cV n c).length=n:=by simp[cV]
theorem Aa {n q:Nat} {c:Nat→Nat} (h:q<n):idx (cV n c) (q:Int)=some (nV (c q)):=qg h
theorem Kb {n q:Nat} {f:Nat→V} {z v:V} (hv:v=f q):(tab n fun j=>if j<q then f j else z).set q v=tab n fun j=>if j<q+1 then f j else z:=by
 rw[hv,ru]
 refine fN fun j _=> ?_
 by_cases hj:j=q
 ·rw[ag hj,ag (by omega),hj]
 ·rw[ah hj]
  by_cases cp:j<q
  ·rw[ag cp,ag (by omega)]
  ·rw[ah cp,ah (by omega)]
theorem Qe {n:Nat} {f:Nat→V} {z:V}:(tab n fun j=>if j<n then f j else z)=tab n f:=fN fun j hj=>ag hj
theorem ZS {n:Nat} {g:Nat→Nat} (hn:n≤1000) (hg: ∀q,q<n→g q≤1000000000):CC CQ [.list bJ (cV n g)]=some [.list bJ (cV n (cJ g n))]:=by
 refine ajx ?_
 unfold ZK
 rw[z9]
 refine bT (pr (by omega) (by omega)) ?_
 rw[Int.toNat_natCast,rv]
 refine bs (iz n (fun i=>((i:Int),gJ nV 0 (aV g i),(tab n fun q=>if q<i then nV (cJ g n q) else nV 0))) ((n:Int),false,gJ nV 0 (aV g n),cV n (cJ g n)) (fun q hq=> ?_) ?_) ?_
 ·have hle:=tw g q
  simp only[Qb,Ep,un]
  refine bT (eW hq) ?_
  refine bs (Aa hq) ?_
  have hk:dL .i64 (g q:Int)=true:=JB (by have:=hg q hq;omega)
  refine bT (by simp only[nV,V.toInt_int,hk,A4]) ?_
  have e1:=DL zS (g q) (aV g q) 0
  rw[dI (by omega)]
  simp only[nV,V.toInt_int]
  rw[show (V.int .i64 (g q:Int))=nV (g q) from rfl]
  by_cases hx:g q∈aV g q
  ·refine bF (by rw[show iF (nV (g q)) _=_ from e1];simpa using hx) ?_
   refine (fY hq).trans ?_
   have e2:=DM zS (g q) (.int .i64 0) (aV g q) 0 hx
   rw[fe,←Y0 hq hx] at e2
   rw[show ku (nV (g q)) _ (.int .i64 0)=_ from e2,V.toInt_int,Int.toNat_natCast,PW hx]
   exact congrArg (fun x=>some (Sum.inl (((q+1:Nat):Int),gJ nV 0 (aV g q),x))) (Kb (f:=fun j=>nV (cJ g n j)) rfl)
  ·refine bT (by rw[show iF (nV (g q)) _=_ from e1];simpa using hx) ?_
   refine bT (by simp only[hk,A4]) ?_
   refine (fY hq).trans ?_
   have e2:=DN zS (g q) (aV g q) 0 hx
   rw[fe] at e2
   rw[show List.length (gJ nV 0 (aV g q))=(aV g q).length from zR _ _,show gB (nV (g q)) _ _=_ from e2,Int.toNat_natCast,←Y1 hq hx,PX hx]
   exact congrArg (fun x=>some (Sum.inl (((q+1:Nat):Int),gJ nV 0 (aV g q++[g q]),x))) (Kb (f:=fun j=>nV (cJ g n j)) rfl)
 ·simp only[Qb,Ep,un]
  refine bF (b6 (aE _)) ?_
  rw[b6 (aE _)]
  exact congrArg (fun x=>some (Sum.inr ((n:Int),false,gJ nV 0 (aV g n),x))) (Qe (f:=fun j=>nV (cJ g n j)))
 ·rfl
def mI (n:Nat) (p q:Nat→Nat) (i:Nat):Nat:=p i*(n+1)+q i
theorem ajJ {n:Nat} {p q:Nat→Nat} (hn:n≤512) (hp: ∀i,i<n→p i≤1000) (hq: ∀i,i<n→q i≤1000):CC IG [.list bJ (cV n p),.list bJ (cV n q)]=some [.list bJ (cV n (cJ (mI n p q) n))]:=by
 have hb: ∀i,i<n→mI n p q i≤1000000000:=fun i hi=>by
  have h1:=hp i hi
  have h2:=hq i hi
  have:=Nat.mul_le_mul h1 (show n+1≤513 by omega)
  unfold mI
  omega
 refine ajB ?_
 unfold ZN
 rw[z9]
 refine bT (pr (by omega) (by omega)) ?_
 rw[Int.toNat_natCast,rv]
 refine bs (iz n (fun i=>((i:Int),(tab n fun j=>if j<i then nV (mI n p q j) else nV 0))) ((n:Int),false,cV n (mI n p q)) (fun i hi=> ?_) ?_) ?_
 ·simp only[Qc,Er,un]
  refine bT (eW hi) ?_
  refine bs (Aa hi) ?_
  refine bs (Aa hi) ?_
  refine (fY hi).trans ?_
  have h1:=hp i hi
  have h2:=hq i hi
  have h3:=hb i hi
  have h4:IntKind.wrap .i64 ((IntKind.wrap .i64 ((IntKind.wrap .i64 (((cV n p).length:Int)+1))*(p i:Int)))+(q i:Int))=(mI n p q i:Int):=by
   rw[z9,dI (by omega)]
   have e:((n+1:Nat):Int)*(p i:Int)=((p i*(n+1):Nat):Int):=by rw[gz];push_cast;rfl
   unfold mI at*
   rw[e]
   have h5:p i*(n+1)≤1000000000:=by omega
   generalize p i*(n+1)=z at*
   rw[wrap64 (x:=(z:Int)) (by omega) (by omega),wrap64 (by omega) (by omega)]
   push_cast;rfl
  simp only[nV,V.toInt_int]
  rw[h4,dI (by omega),Int.toNat_natCast]
  exact congrArg (fun x=>some (Sum.inl (((i+1:Nat):Int),x))) (Kb (f:=fun j=>nV (mI n p q j)) rfl)
 ·simp only[Qc,Er,un]
  refine bF (b6 (aE _)) ?_
  rw[b6 (aE _)]
  exact congrArg (fun x=>some (Sum.inr ((n:Int),false,x))) (Qe (f:=fun j=>nV (mI n p q j)))
 ·simp only[un]
  refine bs (ZS (by omega) hb) ?_
  rfl
theorem ZT {n:Nat} {p q:Nat→Nat} (hn:n≤1000):CC IH [.list bJ (cV n p),.list bJ (cV n q)]=some [.bool (decide (∀i,i<n→p i=q i))]:=by
 refine ajt ?_
 unfold ZH
 rw[z9,z9]
 refine bF (by simp) ?_
 refine bs (xc (fun i=>p i=q i) n (fun i=>(i:Int)) (.inl false:Bool ⊕ (Int × Bool)) (.inr ((n:Int),false)) (fun i hi=> ?_) ?_) ?_
 ·simp only[Qa,Eo]
  refine bT (eW hi) ?_
  refine bs (Aa hi) ?_
  refine bs (Aa hi) ?_
  simp only[nV,V.toInt_int]
  by_cases h:p i=q i
  ·refine bF (by simp[h]) ?_
   rw[ag h,dI (by omega)]
  ·refine bT (by simp;omega) ?_
   rw[ah h]
 ·simp only[Qa,Eo]
  refine bF (b6 (aE _)) ?_
  rw[b6 (aE _)]
 ·by_cases h: ∀i,i<n→p i=q i
  ·rw[ag h,bX h];rfl
  ·rw[ah h,eG h];rfl
theorem ajK {n:Nat} {p q:Nat→Nat} {i j:Nat} (hi:q i≤n) (hj:q j≤n):mI n p q i=mI n p q j↔p i=p j∧q i=q j:=by
 unfold mI
 constructor
 ·intro h
  have h1:(p i*(n+1)+q i)/(n+1)=p i:=by rw[gz,A1 (by omega),A3 (by omega)];rfl
  have h2:(p j*(n+1)+q j)/(n+1)=p j:=by rw[gz,A1 (by omega),A3 (by omega)];rfl
  have h3:p i=p j:=by rw[←h1,←h2,h]
  rw[h3] at h
  exact ⟨h3,by omega⟩
 ·rintro ⟨h1,h2⟩
  rw[h1,h2]
section
variable {a:Da} (h:a.Ok)
def kM (a:Da) (c:Nat→Nat):Nat→Nat→Nat
 | 0=>c
 | x+1=>cJ (mI a.n (kM a c x) fun q=>c (a.nx q x)) a.n
theorem ZU {c:Nat→Nat} (hc: ∀q,q<a.n→c q<a.n): ∀x q,q<a.n→kM a c x q<a.n
 | 0,q,hq=>hc q hq
 | x+1,q,hq=>by
  have h1:=DY (g:=mI a.n (kM a c x) fun q=>c (a.nx q x)) hq
  have h2:=tw (mI a.n (kM a c x) fun q=>c (a.nx q x)) a.n
  show cJ _ _ _<_
  omega
include h
theorem ajL {c:Nat→Nat} (hc: ∀q,q<a.n→c q<a.n): ∀x,x≤a.L→∀q q',q<a.n→q'<a.n→(kM a c x q=kM a c x q'↔c q=c q'∧∀y,y<x→c (a.nx q y)=c (a.nx q' y)):=by
 intro x
 induction x with
 | zero=>intro _ q q' _ _;exact ⟨fun e=>⟨e,fun y hy=>by omega⟩,fun e=>e.1⟩
 | succ x ih=>
  intro hx q q' hq ct
  show cJ _ _ _=cJ _ _ _↔_
  rw[DZ hq ct,ajK (by have:=hc _ (h.fy hq (show x<a.L by omega));omega) (by have:=hc _ (h.fy ct (show x<a.L by omega));omega),ih (by omega) q q' hq ct]
  constructor
  ·rintro ⟨⟨e1,e2⟩,e3⟩
   refine ⟨e1,fun y hy=> ?_⟩
   rcases eV y x with c1|c1
   ·exact e2 y c1
   ·rw[show y=x by omega];exact e3
  ·rintro ⟨e1,e2⟩
   exact ⟨⟨e1,fun y hy=>e2 y (by omega)⟩,e2 x (by omega)⟩
theorem ajM {c:Nat→Nat} {x:Nat} (hx:x<a.L) {k1 k2:Int} {l1 l2:List V}:
  Loop (J7 CC (cV a.n c) l1 (x:Int) ((cV a.n c).length:Int) k1 k2 l2 a.cO) (0,([]:List V))=some ((a.n:Int),false,cV a.n fun q=>c (a.nx q x)):=by
 have hm:=h.e8
 rw[z9]
 refine (iz a.n (fun t=>((t:Int),(tab t fun q=>nV (c (a.nx q x))))) _ (fun q hq=> ?_) ?_)
 ·simp only[J7,Et,un]
  refine bT (eW hq) ?_
  refine bs (Da.rz hq) ?_
  simp only[tq]
  refine bs (rA hx) ?_
  refine bs (Aa (h.fy hq hx)) ?_
  refine bT (cap (by rw[gg];simp;omega) (by omega)) ?_
  rw[dI (by omega),va]
  rfl
 ·simp only[J7,Et,un]
  refine bF (b6 (aE _)) ?_
  rw[b6 (aE _)]
  rfl
theorem ZV {c:Nat→Nat} (hc: ∀q,q<a.n→c q<a.n) {k2:Int} {l2:List V}:
  Loop (J9 CC (cV a.n c) (a.L:Int) k2 l2 a.cO) (cV a.n c,0)=some (cV a.n (kM a c a.L),(a.L:Int),false):=by
 have hm:=h.e8
 have h6:=h.l6
 refine (iz a.L (fun x=>(cV a.n (kM a c x),(x:Int))) _ (fun x hx=> ?_) ?_)
 ·simp only[J9,Ev,un]
  refine bT (eW hx) ?_
  refine bs (ajM h hx) ?_
  refine bs (ajJ hm (fun q hq=>by have:=ZU hc x q hq;omega) fun q hq=>by have:=hc _ (h.fy hq hx);omega) ?_
  rw[dI (by omega)]
  rfl
 ·simp only[J9,Ev,un]
  refine bF (b6 (aE _)) ?_
  rw[b6 (aE _)]
theorem ajN {c0:Nat→Nat} (hp0:a.Part c0) (ho0:qh c0 a.n) (Hv: ∀q,q<a.n→c0 q<a.n) {k2:Int} {l2:List V}: ∃p,Loop (Ex CC (a.L:Int) k2 l2 a.cO) (cV a.n c0)=some (cV a.n p)∧a.xh p∧∀q,q<a.n→p q<a.n:=by
 have hm:=h.e8
 have:=MX (step:=Ex CC (a.L:Int) k2 l2 a.cO)
  (fun x=> ∃c,x=cV a.n c∧a.Part c∧qh c a.n∧∀q,q<a.n→c q<a.n)
  (fun x=>a.n-(aV (fun q=>(x.getD q (nV 0)).toInt) a.n).length)
  (fun r=> ∃p,r=cV a.n p∧a.xh p∧∀q,q<a.n→p q<a.n) (fun x hx=> ?_) (cV a.n c0) ⟨c0,rfl,hp0,ho0,Hv⟩
 ·obtain ⟨r,h1,p,rfl,h2,h3⟩:=this
  exact ⟨p,h1,h2,h3⟩
 ·obtain ⟨c,rfl,hp,ho,hc⟩:=hx
  have kL:a.JL c (kM a c a.L):=fun q q' hq ct=>(ajL h hc a.L (aE _) q q' hq ct).trans Da.xg.symm
  have hb:=ZU hc a.L
  have xk: ∀q q',q<a.n→q'<a.n→kM a c a.L q=kM a c a.L q'→c q=c q':=fun q q' hq ct e=>(Da.xg.1 ((kL q q' hq ct).1 e)).1
  have kC:qh (kM a c a.L) a.n:=by
   have h1:=h.l1
   obtain ⟨m,hm⟩: ∃m,a.L=m+1:=⟨a.L-1,by omega⟩
   rw[hm]
   exact PY _ _
  by_cases he: ∀q,q<a.n→kM a c a.L q=c q
  ·right
   refine ⟨_,?_,c,rfl,⟨hp.Y4 h fun q q' hq ct e=>(kL q q' hq ct).1 (by rw[he q hq,he q' ct,e]),ho⟩,hc⟩
   simp only[Ex,Ew,un]
   refine bs (ZV h hc) ?_
   refine bs (ZT (by omega)) ?_
   refine bT (by simpa using he) ?_
   rfl
  ·left
   refine ⟨cV a.n (kM a c a.L),?_,⟨kM a c a.L,rfl,kL.part h hp,kC,hb⟩,?_⟩
   ·simp only[Ex,Ew,un]
    refine bs (ZV h hc) ?_
    refine bs (ZT (by omega)) ?_
    refine bF (by rw[V.bz,V.oe];exact eG he) ?_
    rfl
   ·have ec: ∀d:Nat→Nat,(aV (fun q=>((cV a.n d).getD q (nV 0)).toInt) a.n).length=(aV d a.n).length:=fun d=>by
     have key: ∀m,m≤a.n→aV (fun q=>((cV a.n d).getD q (nV 0)).toInt) m=(aV d m).map fun n:Nat=>(n:Int):=by
      intro m
      induction m with
      | zero=>intro _;rfl
      | succ m ih=>
       intro hm
       have e:((cV a.n d).getD m (nV 0)).toInt=(d m:Int):=by unfold cV;rw[u9 (by omega)];rfl
       rw[aV,aV,ih (by omega),e]
       unfold dD
       by_cases hx:d m∈aV d m
       ·rw[ag hx,ag (fE.2 ⟨d m,hx,rfl⟩)]
       ·rw[ah hx,ah]
        ·simp
        ·intro h2
         obtain ⟨y,h3,h4⟩:=fE.1 h2
         exact hx ((show y=d m by omega)▸h3)
     rw[key a.n (aE _),cy]
    simp only[ec]
    have aiF:=Y3 xk
    have hle:=tw (kM a c a.L) a.n
    have bZ:(aV c a.n).length≠(aV (kM a c a.L) a.n).length:=by
     intro e
     have cd:=PZ xk (by omega)
     refine he fun q hq=> ?_
     have h1:=aip (f:=kM a c a.L) (c:=c) (fun s s' hs uO=>⟨xk s s' hs uO,cd s s' hs uO⟩) q hq
     have own: ∀(d:Nat→Nat),qh d a.n→cJ d a.n q=d q:=fun d hd=>by
      have h2:d q∈aV d a.n:=j6.2 ⟨q,hq,rfl⟩
      unfold cJ
      rw[hd a.n (aE _)] at h2⊢
      have h3:=iR.1 h2
      have h4:=(List.nodup_range (n:=(aV d a.n).length)).idxOf_getElem (d q) (by rw[List.length_range];exact h3)
      rwa [List.getElem_range] at h4
     rw[own _ kC,own _ ho] at h1
     exact h1
    omega
theorem ajO: ∃p,CC Nd (dU a)=some [.list bJ (cV a.n p)]∧a.xh p∧∀q,q<a.n→p q<a.n:=by
 have hm:=h.e8
 have hf0: ∀q,q<a.n→(if a.fin q=true then 1 else 0)≤1000000000:=fun q _=>by split<;>omega
 have hb: ∀q,q<a.n→cJ (fun q=>if a.fin q=true then 1 else 0) a.n q<a.n:=fun q hq=>by
  have h1:=DY (g:=fun q=>if a.fin q=true then 1 else 0) hq
  have h2:=tw (fun q=>if a.fin q=true then 1 else 0) a.n
  omega
 obtain ⟨p,h1,h2,h3⟩:=ajN h (c0:=cJ (fun q=>if a.fin q=true then 1 else 0) a.n)
  ⟨fun q q' hq ct he=>(DZ hq ct).2 (by have:=he [] WL.nil;rw[Da.po,Da.po] at this;rw[this]),
   fun q q' hq ct he=>by
   have h1:=(DZ hq ct).1 he
   revert h1
   cases a.fin q<;>cases a.fin q'<;>simp⟩ (PY _ _) hb (k2:=(a.st:Int)) (l2:=a.cZ)
 refine ⟨p,ajI ?_,h2,h3⟩
 unfold ZQ
 rw[Da.lZ]
 refine bT (pr (by omega) (by omega)) ?_
 rw[Int.toNat_natCast,rv,gg]
 refine bs (iz a.n (fun i=>((i:Int),(tab a.n fun j=>if j<i then nV (if a.fin j=true then 1 else 0) else nV 0))) ((a.n:Int),false,cV a.n fun q=>if a.fin q=true then 1 else 0) (fun q hq=> ?_) ?_) ?_
 ·simp only[Qd,Es,un]
  refine bT (eW hq) ?_
  refine bs (Da.zP hq) ?_
  rw[dI (by omega),V.oe]
  cases hf:a.fin q with
  | true=>
   refine bT rfl ?_
   refine (fY hq).trans ?_
   rw[Int.toNat_natCast]
   exact congrArg (fun x=>some (Sum.inl (((q+1:Nat):Int),x))) (Kb (f:=fun j=>nV (if a.fin j=true then 1 else 0)) (by rw[hf];rfl))
  | false=>
   refine bF rfl ?_
   refine congrArg (fun x=>some (Sum.inl (((q+1:Nat):Int),x))) (fN fun j _=> ?_)
   by_cases hj:j=q
   ·rw[ah (show¬j<q by omega),ag (show j<q+1 by omega),hj,hf];rfl
   ·by_cases cp:j<q
    ·rw[ag cp,ag (show j<q+1 by omega)]
    ·rw[ah cp,ah (show¬j<q+1 by omega)]
 ·simp only[Qd,Es,un]
  refine bF (b6 (aE _)) ?_
  rw[b6 (aE _)]
  exact congrArg (fun x=>some (Sum.inr ((a.n:Int),false,x))) (Qe (f:=fun j=>nV (if a.fin j=true then 1 else 0)))
 ·simp only[un]
  refine bs (ZS (by omega) hf0) ?_
  refine bs h1 ?_
  rfl
end
end Go.AM
set_option maxRecDepth 100000
namespace Go.AM
open Go.Proofs Go.Sort
section
variable {α:Type} {enc:α→V}
def pw (enc:α→V) (d:Array α):List V:=d.toList.map enc
theorem c9 (d:Array α):(pw enc d).length=d.size:=by simp[pw]
theorem da (d:Array α) (i:Nat) (x:α):(pw enc d).set i (enc x)=pw enc (d.setIfInBounds i x):=by
 unfold pw;rw[Array.toList_setIfInBounds,List.map_set]
variable [Inhabited α]
theorem dd {d:Array α} {i:Nat} (h:i<d.size):(pw enc d)[i]? =some (enc d[i]!):=by
 unfold pw;rw[fF,ug,mh h,Be d i h];rfl
theorem dN {d:Array α} {i j:Nat} {x:α} (h:i<d.size):(pw enc (d.setIfInBounds j x))[i]? =some (enc (d.setIfInBounds j x)[i]!):=dd (by rw[dE];exact h)
theorem db (a b:Nat):(a:Int)+(b:Int)=((a+b:Nat):Int):=(Int.natCast_add a b).symm
theorem bU (a:Nat):(a:Int)+1=((a+1:Nat):Int):=rfl
theorem nC (a:Nat):((a+1:Nat):Int)-1=(a:Int):=by omega
theorem rE (a:Nat):(a:Int)*2=((a*2:Nat):Int):=by omega
theorem gv {a b:Nat} (h:b≤a):(a:Int)-(b:Int)=((a-b:Nat):Int):=by omega
theorem fl {a:Nat} (h:1≤a):(a:Int)-1=((a-1:Nat):Int):=by omega
theorem divC (a b:Nat):Int.tdiv (a:Int) (b:Int)=((a/b:Nat):Int):=by rw[Int.tdiv_eq_ediv_of_nonneg (by omega)];rfl
theorem ic {p:Prop} [Decidable p] (h:p):decide p=true:=bX h
theorem mc {p:Prop} [Decidable p] (h: ¬p):decide p=false:=eG h
variable {lt:α→α→Bool}
theorem Qf (a j:Nat) (d:Array α):insInner lt a (j+1) d=if j+1>a&&lt d[j+1]! d[j]! then insInner lt a j (swp d (j+1) j) else d:=rfl
theorem Ey {a:Nat}: ∀(j:Nat) (d:Array α),(insInner lt a j d).size=d.size
 | 0,d=>rfl
 | j+1,d=>by
  rw[Qf]
  split
  ·rw[Ey j,size_swp]
  ·rfl
theorem tE (hi first:Nat): ∀(n root:Nat) (d:Array α),hi-root≤n→(siftDown lt hi first root d).size=d.size:=by
 intro n
 induction n with
 | zero=>intro root d h;rw[siftDown,nH (by omega)]
 | succ n ih=>
  intro root d h
  rw[siftDown]
  split
  ·rfl
  ·split
   ·split
    ·rfl
    ·split
     ·rw[ih _ _ (by omega),size_swp]
     ·rfl
   ·split
    ·rfl
    ·rw[ih _ _ (by omega),size_swp]
theorem Ez (hi first:Nat): ∀(k:Nat) (d:Array α),(heapBuild lt hi first k d).size=d.size
 | 0,d=>rfl
 | k+1,d=>by rw[heapBuild,Ez,tE _ _ _ _ _ (aE _)]
end
end Go.AM
set_option maxRecDepth 100000
set_option maxHeartbeats 1000000
namespace Go.AM
open Go.Proofs
theorem Ed.lt_irrefl (a:Ed): ¬a.lt a:=by unfold Ed.lt;omega
theorem Ed.lt_trans {a b c:Ed}:a.lt b→b.lt c→a.lt c:=by unfold Ed.lt;omega
theorem Ed.lt_asymm {a b:Ed}:a.lt b→¬b.lt a:=by unfold Ed.lt;omega
theorem Ed.Qg {a b:Ed} (h1: ¬a.lt b) (h2: ¬b.lt a):a=b:=by
 cases a;cases b
 simp only[Ed.lt,Ed.mk.injEq] at*
 omega
abbrev lj (E:List Ed):Prop:=E.Pairwise Ed.lt
def Ed.key (e:Ed):Nat:=(e.f.toNat*6+e.l.toNat)*64+e.t.toNat
theorem Ed.ajP {a b:Ed} {L S:Int} (hL:L≤6) (hS:S≤64) (ha:a.In L S) (hb:b.In L S) (h:a.lt b):a.key<b.key:=by
 unfold Ed.In at ha hb
 unfold Ed.lt at h
 unfold Ed.key
 omega
theorem ajQ {L S:Int} (hL:L≤6) (hS:S≤64): ∀(E:List Ed),lj E→(∀e∈E,e.In L S)→∀i (hi:i<E.length),i≤E[i].key:=by
 intro E h hE i
 induction i with
 | zero=>intro hi;omega
 | succ i ih=>
  intro hi
  have h1:=ih (by omega)
  have h2:=(vw.1 h) i (i+1) (by omega) hi (by omega)
  have:=Ed.ajP hL hS (hE _ (gb _)) (hE _ (gb _)) h2
  omega
theorem ajR {L S:Int} (hL:L≤6) (hS:S≤64) {E:List Ed} (h:lj E) (hE: ∀e∈E,e.In L S):E.length≤24576:=by
 by_cases h0:E.length=0
 ·omega
 ·have h1:=ajQ hL hS E h hE (E.length-1) (by omega)
  have h2:=hE E[E.length-1] (gb _)
  unfold Ed.In at h2
  unfold Ed.key at h1
  omega
theorem Kc: ∀{A B:List Ed},lj A→lj B→(∀x,x∈A↔x∈B)→A=B
 | [],[],_,_,_=>rfl
 | [],b::B,_,_,h=>by have:=(h b).2 (by simp);cases this
 | a::A,[],_,_,h=>by have:=(h a).1 (by simp);cases this
 | a::A,b::B,hA,hB,h=>by
  have a1:=vz.1 hA
  have b1:=vz.1 hB
  have cY:a=b:=by
   have ha:=(h a).1 (by simp)
   have hb:=(h b).2 (by simp)
   rcases gT.1 ha with e|e
   ·exact e
   ·rcases gT.1 hb with e'|e'
    ·exact e'.symm
    ·exact absurd (a1.1 b e') (Ed.lt_asymm (b1.1 a e))
  subst cY
  rw[Kc a1.2 b1.2 fun x=> ?_]
  constructor
  ·intro hx
   rcases gT.1 ((h x).1 (by simp[hx])) with e|e
   ·subst e;exact absurd (a1.1 x hx) (Ed.lt_irrefl x)
   ·exact e
  ·intro hx
   rcases gT.1 ((h x).2 (by simp[hx])) with e|e
   ·subst e;exact absurd (b1.1 x hx) (Ed.lt_irrefl x)
   ·exact e
theorem ajS {E:List Ed} (h:lj E):E.Nodup:=List.Pairwise.imp (fun cY e=>by subst e;exact Ed.lt_irrefl _ cY) h
theorem ajT {R l:List Ed} (hp:R.Perm l) (hn:l.Nodup) (hs:R.Pairwise (fun x y=> ¬y.lt x)):lj R:=by
 have Cg:R.Nodup:=hp.nodup_iff.2 hn
 refine List.Pairwise.imp₂ (fun a b h1 h2=> ?_) hs Cg
 by_cases h:a.lt b
 ·exact h
 ·exact absurd (Ed.Qg h h1) h2
def lk (out:List Ed) (e:Ed):Nat→Nat
 | 0=>0
 | k+1=>if e.lt (out.getD k default) then lk out e k else k+1
def ve (out:List Ed) (e:Ed):List Ed:=
 if lk out e out.length=0∨¬out.getD (lk out e out.length-1) default=e then out.take (lk out e out.length)++[e]++out.drop (lk out e out.length) else out
def qi (l:List Ed):List Ed:=l.foldl ve []
theorem Qh (out:List Ed) (e:Ed): ∀k,lk out e k≤k
 | 0=>aE _
 | k+1=>by unfold lk;split;exact Nat.le_succ_of_le (Qh out e k);exact aE _
theorem ZW (out:List Ed) (e:Ed): ∀k i,lk out e k≤i→i<k→e.lt (out.getD i default)
 | 0,i,_,h=>by omega
 | k+1,i,h1,h2=>by
  unfold lk at h1
  split at h1
  ·rename_i h3
   by_cases hi:i=k
   ·subst hi;exact h3
   ·exact ZW out e k i h1 (by omega)
  ·omega
theorem ZX (out:List Ed) (e:Ed): ∀k,lk out e k≠0→¬e.lt (out.getD (lk out e k-1) default)
 | 0,h=>by simp[lk] at h
 | k+1,h=>by
  unfold lk at h⊢
  split
  ·rename_i h3
   rw[ag h3] at h
   exact ZX out e k h
  ·rename_i h3
   simpa using h3
theorem ajU {out:List Ed} {e x:Ed} (hk:lk out e out.length≤out.length):x∈ve out e↔x=e∨x∈out:=by
 unfold ve
 split
 ·rename_i h
  have:=List.take_append_drop (lk out e out.length) out
  constructor
  ·intro hx
   simp only[dK,ew,iO] at hx
   rcases hx with hx|hx|hx
   ·exact .inr (Gq hx)
   ·exact .inl hx
   ·exact .inr (List.mem_of_mem_drop hx)
  ·rintro (rfl|hx)
   ·simp
   ·rw[←this] at hx
    simp only[ew] at hx
    simp only[dK,ew,iO]
    rcases hx with hx|hx
    ·exact .inl hx
    ·exact .inr (.inr hx)
 ·rename_i h
  simp only[not_or,Classical.not_not] at h
  constructor
  ·exact .inr
  ·rintro (rfl|hx)
   ·have h1:=h.2
    have h2:lk out x out.length-1<out.length:=by omega
    rw[←h1]
    simp[h2]
   ·exact hx
theorem ajV {out:List Ed} {e:Ed} (h:lj out):lj (ve out e):=by
 have hk:=Qh out e out.length
 have up:=ZW out e out.length
 have dn:=ZX out e out.length
 unfold ve
 generalize hq:lk out e out.length=k at*
 split
 ·rename_i hc
  have g:=vw.1 h
  have jW: ∀x∈out.take k,x.lt e:=by
   intro x hx
   obtain ⟨i,hi,rfl⟩:=vC hx
   have eM:i<k:=by rw[kj] at hi;omega
   have sE:i<out.length:=by omega
   rw[List.getElem_take]
   have ZY:k≠0:=by omega
   have h1:=dn ZY
   have h2: ¬out.getD (k-1) default=e:=by
    rcases hc with hc|hc
    ·exact absurd hc ZY
    ·exact hc
   have nc:k-1<out.length:=by omega
   have e1:out.getD (k-1) default=out[k-1]:=by simp[nc]
   rw[e1] at h1 h2
   have h3:out[k-1].lt e:=by
    by_cases h4:out[k-1].lt e
    ·exact h4
    ·exact absurd (Ed.Qg h4 h1) h2
   by_cases hik:i=k-1
   ·subst hik;exact h3
   ·exact Ed.lt_trans (g i (k-1) sE nc (by omega)) h3
  have iZ: ∀y∈out.drop k,e.lt y:=by
   intro y hy
   obtain ⟨i,hi,rfl⟩:=vC hy
   rw[List.length_drop] at hi
   rw[List.getElem_drop]
   have:=up (k+i) (by omega) (by omega)
   have e1:out.getD (k+i) default=out[k+i]:=by simp[show k+i<out.length by omega]
   rwa [e1] at this
  rw[lj,dK,Gr]
  refine ⟨h.sublist (List.take_sublist _ _),?_,?_⟩
  ·rw[List.singleton_append,vz]
   exact ⟨iZ,h.sublist (List.drop_sublist _ _)⟩
  ·intro x hx y hy
   rw[List.singleton_append,gT] at hy
   rcases hy with rfl|hy
   ·exact jW x hx
   ·exact Ed.lt_trans (jW x hx) (iZ y hy)
 ·exact h
theorem Qi: ∀(l out:List Ed),lj out→lj (l.foldl ve out)∧∀x,x∈l.foldl ve out↔x∈l∨x∈out
 | [],out,h=>⟨h,by simp⟩
 | e::l,out,h=>by
  obtain ⟨h1,h2⟩:=Qi l (ve out e) (ajV h)
  refine ⟨h1,fun x=> ?_⟩
  rw[List.foldl_cons,h2,ajU (Qh _ _ _)]
  simp only[gT]
  constructor
  ·rintro (h|h|h)
   ·exact .inl (.inr h)
   ·exact .inl (.inl h)
   ·exact .inr h
  ·rintro ((h|h)|h)
   ·exact .inr (.inl h)
   ·exact .inl h
   ·exact .inr (.inr h)
theorem EA (l:List Ed):lj (qi l):=(Qi l [] List.Pairwise.nil).1
theorem vf {l:List Ed} {x:Ed}:x∈qi l↔x∈l:=by
 have:=(Qi l [] List.Pairwise.nil).2 x
 simpa[qi] using this
theorem Kd (a b:Ed):((a.f==b.f)&&((a.l==b.l)&&((a.t==b.t)&&true)))=decide (a=b):=by
 cases a;cases b
 rw[oR]
 simp
end Go.AM
set_option maxRecDepth 100000
namespace Go.AM
open Go.Proofs
noncomputable abbrev Ke:Code:=cA Tryd.prog (au.aU 91)
noncomputable def Ab (C:ae) (EB xn:Nat) (k' me:Int) (ss:List V) {β:Type} (kn:(Int × Int × (List V))→Option β) (kr:(Int × Int × Bool × (List V))→Option β):Option β:=
 bif decide ((me:Int)<(xn:Int)) then
  bif (decide (0≤me))&&(decide (me<(xn:Int))) then
  (ss[EB+((me:Int).toNat)]?).bind fun x3=>
  bif (decide (0≤(IntKind.wrap .i64 (me-1))))&&(decide ((IntKind.wrap .i64 (me-1))<(xn:Int))) then
   (ss[EB+((IntKind.wrap .i64 (me-1):Int).toNat)]?).bind fun x4=>
   bif !(((((x3.cell 0).toInt):Int)==((x4.cell 0).toInt))&&(((((x3.cell 1).toInt):Int)==((x4.cell 1).toInt))&&(((((x3.cell 2).toInt):Int)==((x4.cell 2).toInt))&&true))) then
   bif (decide (0≤me))&&(decide (me<(xn:Int))) then
    (ss[EB+((me:Int).toNat)]?).bind fun x5=>
    bif (decide (0≤k'))&&(decide (k'<(ss.length:Int))) then
    (ss[(k':Int).toNat]?).bind fun x6=>
    kn (IntKind.wrap .i64 (k'+1),IntKind.wrap .i64 (me+1),ss.set ((k':Int).toNat) (.agg [.int .i64 ((x5.cell 0).toInt),.int .i64 ((x5.cell 1).toInt),.int .i64 ((x5.cell 2).toInt)]))
    else none
   else none
   else
   kn (k',IntKind.wrap .i64 (me+1),ss)
  else none
  else none
 else
  kr (k',me,decide ((me:Int)<(xn:Int)),ss)
noncomputable def xo (C:ae) (EB xn:Nat):(Int × Int × (List V))→Option ((Int × Int × (List V)) ⊕ (Int × Int × Bool × (List V))):=un fun k'=>un fun me ss=>Ab C EB xn k' me ss (fun y=>some (.inl y)) (fun r=>some (.inr r))
noncomputable def Ac (C:ae) (ss:List V) (k':Int) {β:Type} (kn:Int→Option β) (kr:((List V) ⊕ (Int × Bool))→Option β):Option β:=
 bif decide ((k':Int)<(ss.length:Int)) then
  bif (decide (0≤k'))&&(decide (k'<(ss.length:Int))) then
  (ss[(k':Int).toNat]?).bind fun x1=>
  bif (decide (0≤(IntKind.wrap .i64 (k'-1))))&&(decide ((IntKind.wrap .i64 (k'-1))<(ss.length:Int))) then
   (ss[(IntKind.wrap .i64 (k'-1):Int).toNat]?).bind fun x2=>
   bif ((((x1.cell 0).toInt):Int)==((x2.cell 0).toInt))&&(((((x1.cell 1).toInt):Int)==((x2.cell 1).toInt))&&(((((x1.cell 2).toInt):Int)==((x2.cell 2).toInt))&&true)) then
   bif (decide (0≤k'))&&(decide (k'≤(ss.length:Int))) then
    (Loop (xo C ((k':Int).toNat) (ss.length-((k':Int).toNat))) (k',1,ss)).bind (un fun (ow:Int)=>un fun (k_8:Int)=>un fun (pq:Bool) (tF:List V)=>
     bif (decide (0≤ow))&&(decide (ow≤(tF.length:Int))) then
     bif (decide (0≤ow))&&(decide (ow≤((tF.take ((ow:Int).toNat)++(List.replicate (tF.length-((ow:Int).toNat)) (V.agg [.int .i64 0,.int .i64 0,.int .i64 0])++tF.drop (((ow:Int).toNat)+(tF.length-((ow:Int).toNat))))).length:Int))) then
      kr (.inl ((tF.take ((ow:Int).toNat)++(List.replicate (tF.length-((ow:Int).toNat)) (V.agg [.int .i64 0,.int .i64 0,.int .i64 0])++tF.drop (((ow:Int).toNat)+(tF.length-((ow:Int).toNat))))).take ((ow:Int).toNat)))
     else none
     else none)
   else none
   else
   kn (IntKind.wrap .i64 (k'+1))
  else none
  else none
 else
  kr (.inr (k',decide ((k':Int)<(ss.length:Int))))
noncomputable def xp (C:ae) (ss:List V):(Int)→Option ((Int) ⊕ ((List V) ⊕ (Int × Bool))):=fun k'=>Ac C ss k' (fun y=>some (.inl y)) (fun r=>some (.inr r))
noncomputable def ZZ (C:ae):cl:=fun β n ds k=>
 bif Nat.beq n 145 then bt Oa [true,false,false,true,true] [[0,2,3,0,0,0]] (@Ab C) ds k else
 bif Nat.beq n 65 then bt Ob [true,false] [[0],[0,0,2]] (@Ac C) ds k else
 none
abbrev Z0 (C:ae) (b:ch):Prop:=cj Tryd.prog au C (ZZ C) 91 (cH Tryd.prog (au.aU 91)) (au.sin 91).aZ.length b
theorem ajW (C:ae):Z0 C (.loop (aq [1,1,0,1,0,0,1,0,0,1,0,1,0,1,0,0] Ke)):=
 bA Oa [true,false,false,true,true] [[0,2,3,0,0,0]] (@Ab C) (by kernel_rfl) (aK (bs:=[]) (by kernel_rfl) ar) (fun ds=>by kernel_rfl) (fun i x=>by kernel_rfl) (fun i x β k=>by kernel_rfl) (fun β ds k=>by kernel_rfl)
theorem ajX (C:ae):Z0 C (.loop (aq [1,1,0,1,0,0] Ke)):=
 bA Ob [true,false] [[0],[0,0,2]] (@Ac C) (by kernel_rfl) (aK (bs:=[.loop (aq [1,1,0,1,0,0,1,0,0,1,0,1,0,1,0,0] Ke)]) (by kernel_rfl) (aY (ajW C) ar)) (fun ds=>by kernel_rfl) (fun i x=>by kernel_rfl) (fun i x β k=>by kernel_rfl) (fun β ds k=>by kernel_rfl)
noncomputable def Kf (C:ae) (ss:List V):Option (List V):=
 bif decide (((ss.length:Int):Int)<2) then
  some [V.bool true,.list ak ss]
 else
  (Loop (xp C ss) 1).bind (dm (fun (ajY:List V)=>
   some [V.bool false,.list ak ajY]) (un fun (aoe:Int) (u6:Bool)=>
   some [V.bool true,.list ak ss]))
theorem Qj {ss:List V} {r:Option (List V)} (h:Kf CC ss=r):CC ID [.list ak ss]=r:=
 bp (key:=91) (L:=ZZ CC) (bs:=[.loop (aq [1,1,0,1,0,0] Ke)]) (by kernel_rfl) (aY (ajX CC) ar) (bn (by kernel_rfl) h)
def py (prev:Ed):List Ed→List Ed
 | []=>[]
 | x::l=>if x=prev then py x l else x::py x l
def jE:List Ed→List Ed
 | []=>[]
 | x::l=>x::py x l
theorem Qk {l:List Ed} {j:Nat} (h:j<l.length):l.take (j+1)=l.take j++[l.getD j default]:=by
 rw[Bd h];simp[h]
theorem Z1 {l ss:List Ed} {j:Nat} (hl:ss.length=l.length) (h:ss.drop j=l.drop j) (hj:j<l.length):ss.getD j default=l.getD j default:=by
 have h1:=congrArg (fun x:List Ed=>x.getD 0 default) h
 simpa[hj,hl] using h1
theorem EC {l:List Ed} {i:Nat} (h:i<l.length):(l.map Ed.enc)[i]? =some (l.getD i default).enc:=by simp[h]
theorem ajZ (ss:List Ed) (m:Nat) (z:V) (hm:m≤ss.length):((((ss.map Ed.enc).take m++(List.replicate ((ss.map Ed.enc).length-m) z++(ss.map Ed.enc).drop (m+((ss.map Ed.enc).length-m)))).take m)=(ss.take m).map Ed.enc):=by
 rw[List.take_append_of_le_length (by simp;omega),Gv (by simp;omega),List.map_take]
theorem Z2: ∀(m:List Ed) (prev x:Ed),py prev (m++[x])=py prev m++(if x=(prev::m).getD m.length default then [] else [x])
 | [],prev,x=>by simp only[List.nil_append,py,List.length_nil,List.getD_cons_zero]
 | y::m,prev,x=>by
  have ih:=Z2 m y x
  simp only[List.cons_append,py,List.length_cons,List.getD_cons_succ]
  split
  ·exact ih
  ·rw[ih];rfl
theorem Z3 {l:List Ed} {p:Nat} (h1:1≤p) (h2:p<l.length):jE (l.take (p+1))=jE (l.take p)++(if l.getD p default=l.getD (p-1) default then [] else [l.getD p default]):=by
 match l,p,h1,h2 with
 | y::l,p+1,_,h2=>
  simp only[List.length_cons] at h2
  rw[List.take_succ_cons,List.take_succ_cons,jE,jE,Qk (by omega),Z2]
  simp only[List.getD_cons_succ,kj,rQ]
  rw[show min p l.length=p by omega]
  have:(y::l.take p).getD p default=(y::l).getD p default:=by
   match p with
   | 0=>rfl
   | q+1=>simp only[List.getD_cons_succ];rw[ui,ui,ga (by omega)]
  rw[this];rfl
theorem Z4: ∀(m:List Ed) (prev:Ed),(prev::m).Pairwise (fun x y=> ¬y.lt x)→lj (prev::py prev m)∧∀x,x∈prev::py prev m↔x∈prev::m
 | [],prev,_=>⟨by simp[py],by simp[py]⟩
 | y::m,prev,h=>by
  have h1:=vz.1 h
  obtain ⟨i1,i2⟩:=Z4 m y h1.2
  rw[py]
  by_cases hc:y=prev
  ·rw[ag hc]
   subst hc
   refine ⟨i1,fun x=> ?_⟩
   rw[i2 x];simp
  ·rw[ah hc]
   have aX:prev.lt y:=by
    by_cases h2:prev.lt y
    ·exact h2
    ·exact absurd (Ed.Qg h2 (h1.1 y (by simp))) fun e=>hc e.symm
   refine ⟨vz.2 ⟨fun x hx=> ?_,i1⟩,fun x=> ?_⟩
   ·rcases gT.1 hx with rfl|hx
    ·exact aX
    ·exact Ed.lt_trans aX ((vz.1 i1).1 x hx)
   ·rw[gT,i2 x,←gT]
theorem aj0 {l:List Ed} (h:l.Pairwise (fun x y=> ¬y.lt x)):lj (jE l)∧∀x,x∈jE l↔x∈l:=by
 match l,h with
 | [],_=>exact ⟨List.Pairwise.nil,fun _=>Iff.rfl⟩
 | y::l,h=>exact Z4 l y h
section
variable {l:List Ed} (hn:l.length≤1000000)
include hn
theorem aj1 {k:Nat}: ∀(d k2 i:Nat) (ss:List Ed),k+k2+d=l.length→1≤k2→i+1≤k+k2→ss.length=l.length→ss.take i=jE (l.take (k+k2))→ss.drop (k+k2-1)=l.drop (k+k2-1)→
  ∃t u Ad,Loop (xo CC k (l.length-k)) ((i:Int),(k2:Int),ss.map Ed.enc)=some (((jE l).length:Int),u,t,List.map Ed.enc Ad)∧Ad.take (jE l).length=jE l∧Ad.length=l.length:=by
 intro d
 induction d with
 | zero=>
  intro k2 i ss hj sN hi hl ht hd
  have e0:l.take (k+k2)=l:=Gv (by omega)
  rw[e0] at ht
  have my:i=(jE l).length:=by rw[←ht,kj];omega
  refine ⟨false,(k2:Int),ss,bd ?_,by rw[←my];exact ht,hl⟩
  simp only[xo,Ab,un,cy,aw]
  rw[ah (by omega),eG (by omega),my]
 | succ d ih=>
  intro k2 i ss hj sN hi hl ht hd
  have hp:k+k2<l.length:=by omega
  have o4:ss.drop (k+k2)=l.drop (k+k2):=by
   have h:=congrArg (List.drop 1) hd
   rw[List.drop_drop,List.drop_drop] at h
   rwa [show k+k2-1+1=k+k2 by omega] at h
  have g1:=Z1 hl o4 hp
  have g0:=Z1 hl hd (show k+k2-1<l.length by omega)
  have x1:(ss.map Ed.enc)[k+k2]? =some (l.getD (k+k2) default).enc:=by rw[EC (by omega),g1]
  have x0:(ss.map Ed.enc)[k+(k2-1)]? =some (l.getD (k+k2-1) default).enc:=by rw[show k+(k2-1)=k+k2-1 by omega,EC (by omega),g0]
  have w1:IntKind.wrap .i64 ((k2:Int)-1)=((k2-1:Nat):Int):=by rw[wrap64 (by omega) (by omega)];omega
  have t1:((k2:Nat):Int)<((l.length-k:Nat):Int):=by omega
  have t2:(0:Int)≤((k2:Nat):Int):=by omega
  have t3:(0:Int)≤((k2-1:Nat):Int):=by omega
  have t4:((k2-1:Nat):Int)<((l.length-k:Nat):Int):=by omega
  have t5:((i:Nat):Int)<(ss.length:Int):=by omega
  have t6:(0:Int)≤((i:Nat):Int):=by omega
  have Cc: ∃y,(ss.map Ed.enc)[i]? =some y:=⟨_,EC (by omega)⟩
  obtain ⟨y,hy⟩:=Cc
  have cs:=Z3 (l:=l) (p:=k+k2) (by omega) hp
  by_cases he:l.getD (k+k2) default=l.getD (k+k2-1) default
  ·have cd:xo CC k (l.length-k) ((i:Int),(k2:Int),ss.map Ed.enc)=some (.inl ((i:Int),((k2+1:Nat):Int),ss.map Ed.enc)):=by
    simp only[xo,Ab,un]
    refine bT (bX t1) ?_
    refine bT (jJ.2 ⟨bX t2,bX t1⟩) ?_
    rw[Int.toNat_natCast]
    refine bs x1 ?_
    rw[w1]
    refine bT (jJ.2 ⟨bX t3,bX t4⟩) ?_
    rw[Int.toNat_natCast]
    refine bs x0 ?_
    simp only[Ed.b7,Ed.b8,Ed.b9,Kd]
    rw[bX he]
    refine bF rfl ?_
    rw[wrap64 (by omega) (by omega)]
    rfl
   rw[cM cd]
   refine ih (k2+1) i ss (by omega) (by omega) (by omega) hl ?_ (by rw[show k+(k2+1)-1=k+k2 by omega];exact o4)
   rw[show k+(k2+1)=k+k2+1 by omega,cs,ag he,iQ,ht]
  ·have cd:xo CC k (l.length-k) ((i:Int),(k2:Int),ss.map Ed.enc)=some (.inl (((i+1:Nat):Int),((k2+1:Nat):Int),(ss.set i (l.getD (k+k2) default)).map Ed.enc)):=by
    simp only[xo,Ab,un]
    refine bT (bX t1) ?_
    refine bT (jJ.2 ⟨bX t2,bX t1⟩) ?_
    rw[Int.toNat_natCast]
    refine bs x1 ?_
    rw[w1]
    refine bT (jJ.2 ⟨bX t3,bX t4⟩) ?_
    rw[Int.toNat_natCast]
    refine bs x0 ?_
    simp only[Ed.b7,Ed.b8,Ed.b9,Kd]
    rw[eG he]
    refine bT rfl ?_
    refine bT (jJ.2 ⟨bX t2,bX t1⟩) ?_
    refine bs x1 ?_
    refine bT (by rw[cy];exact jJ.2 ⟨bX t6,bX t5⟩) ?_
    rw[Int.toNat_natCast]
    refine bs hy ?_
    simp only[Ed.b7,Ed.b8,Ed.b9,Ed.re]
    rw[wrap64 (by omega) (by omega),wrap64 (by omega) (by omega),List.map_set]
    rfl
   rw[cM cd]
   refine ih (k2+1) (i+1) (ss.set i (l.getD (k+k2) default)) (by omega) (by omega) (by omega) (by simpa using hl) ?_ ?_
   ·rw[Qk (by rw[oN];omega),List.take_set_of_le (aE i),ht,show k+(k2+1)=k+k2+1 by omega,cs,ah he]
    simp[show i<ss.length by omega]
   ·rw[show k+(k2+1)-1=k+k2 by omega,List.drop_set_of_lt (by omega),o4]
theorem aj2: ∀(d p:Nat),p+d=l.length→1≤p→jE (l.take p)=l.take p→
  (jE l=l∧∃t,Loop (xp CC (l.map Ed.enc)) (p:Int)=some (.inr t))∨Loop (xp CC (l.map Ed.enc)) (p:Int)=some (.inl ((jE l).map Ed.enc)):=by
 intro d
 induction d with
 | zero=>
  intro p hp h1 hc
  obtain rfl:p=l.length:=by omega
  rw[ud] at hc
  refine .inl ⟨hc,((l.length:Int),false),bd ?_⟩
  simp only[xp,Ac,cy,aw]
  rw[ah (by omega),eG (by omega)]
 | succ d ih=>
  intro p hp h1 hc
  have gG:p<l.length:=by omega
  have cs:=Z3 (l:=l) h1 gG
  have x1:(l.map Ed.enc)[p]? =some (l.getD p default).enc:=EC gG
  have x0:(l.map Ed.enc)[p-1]? =some (l.getD (p-1) default).enc:=EC (by omega)
  have w1:IntKind.wrap .i64 ((p:Int)-1)=((p-1:Nat):Int):=by rw[wrap64 (by omega) (by omega)];omega
  have t1:((p:Nat):Int)<(l.length:Int):=by omega
  have t2:(0:Int)≤((p:Nat):Int):=by omega
  have t3:(0:Int)≤((p-1:Nat):Int):=by omega
  have t4:((p-1:Nat):Int)<(l.length:Int):=by omega
  have t5:((p:Nat):Int)≤(l.length:Int):=by omega
  by_cases he:l.getD p default=l.getD (p-1) default
  ·refine .inr (bd ?_)
   obtain ⟨t,u,Ad,e1,e2,e3⟩:=aj1 hn (k:=p) (l.length-(p+1)) 1 p l (by omega) (by omega) (by omega) rfl (by rw[cs,ag he,iQ,hc]) rfl
   have hm:(jE l).length≤Ad.length:=by
    have:=congrArg List.length e2
    rw[kj] at this
    omega
   have m1:(0:Int)≤(((jE l).length:Nat):Int):=by omega
   have m2:(((jE l).length:Nat):Int)≤((Ad.map Ed.enc).length:Int):=by rw[cy];omega
   simp only[xp,Ac,cy]
   refine bT (bX t1) ?_
   refine bT (jJ.2 ⟨bX t2,bX t1⟩) ?_
   rw[Int.toNat_natCast]
   refine bs x1 ?_
   rw[w1]
   refine bT (jJ.2 ⟨bX t3,bX t4⟩) ?_
   rw[Int.toNat_natCast]
   refine bs x0 ?_
   simp only[Ed.b7,Ed.b8,Ed.b9,Kd]
   rw[bX he]
   refine bT rfl ?_
   refine bT (jJ.2 ⟨bX t2,bX t5⟩) ?_
   refine (congrArg (fun o=>Option.bind o _) e1).trans ?_
   simp only[Option.bind_some,un,cE,aw,Int.toNat_natCast]
   rw[ag m1,ag m2,ag m1,ag (by simp only[dO,kj,xX,List.length_drop,cy];omega),ajZ _ _ _ hm,e2]
  ·have cd:xp CC (l.map Ed.enc) (p:Int)=some (.inl ((p+1:Nat):Int)):=by
    simp only[xp,Ac,cy]
    refine bT (bX t1) ?_
    refine bT (jJ.2 ⟨bX t2,bX t1⟩) ?_
    rw[Int.toNat_natCast]
    refine bs x1 ?_
    rw[w1]
    refine bT (jJ.2 ⟨bX t3,bX t4⟩) ?_
    rw[Int.toNat_natCast]
    refine bs x0 ?_
    simp only[Ed.b7,Ed.b8,Ed.b9,Kd]
    rw[eG he]
    refine bF rfl ?_
    rw[wrap64 (by omega) (by omega)]
    rfl
   rw[cM cd]
   exact ih (p+1) (by omega) (by omega) (by rw[cs,ah he,hc,←Qk gG])
theorem Z5: ∃b,CC ID [.list ak (l.map Ed.enc)]=some [.bool b,.list ak ((jE l).map Ed.enc)]:=by
 by_cases h2:l.length<2
 ·refine ⟨true,Qj ?_⟩
  unfold Kf
  rw[cy,aw,ag (by omega)]
  match l,h2 with
  | [],_=>rfl
  | [k],_=>rfl
 ·rcases aj2 hn (l.length-1) 1 (by omega) (by omega) (by
   match l,h2 with
   | k::l,_=>rfl) with ⟨h3,t,h4⟩|h4
  ·refine ⟨true,Qj ?_⟩
   unfold Kf
   rw[cy,aw,ah (by omega)]
   refine (congrArg (fun o=>Option.bind o _) h4).trans ?_
   rw[h3];rfl
  ·refine ⟨false,Qj ?_⟩
   unfold Kf
   rw[cy,aw,ah (by omega)]
   refine (congrArg (fun o=>Option.bind o _) h4).trans ?_
   rfl
end
noncomputable def Z6 (C:ae) (tf th ti tj tk tm:Int):Option (List V):=
 (C sY [.int .i64 tf,.int .i64 tj]).bind fun r1=>
 (C sY [.int .i64 th,.int .i64 tk]).bind fun r2=>
 (C sY [.int .i64 ti,.int .i64 tm]).bind fun r3=>
 (C CN [.list bJ ([.int .i64 ((V.nth r1 0).toInt),.int .i64 ((V.nth r2 0).toInt),.int .i64 ((V.nth r3 0).toInt)]:List V)]).bind fun r4=>
 some [.int .i64 ((V.nth r4 0).toInt)]
theorem aj3 {tf th ti tj tk tm:Int} {r:Option (List V)} (h:Z6 CC tf th ti tj tk tm=r):CC bD [.int .i64 tf,.int .i64 th,.int .i64 ti,.int .i64 tj,.int .i64 tk,.int .i64 tm]=r:=
 bp (key:=88) (L:=di) (bs:=[]) (by kernel_rfl) ar (bn (by kernel_rfl) h)
theorem iM (a b:Ed):CC bD [.int .i64 a.f,.int .i64 a.l,.int .i64 a.t,.int .i64 b.f,.int .i64 b.l,.int .i64 b.t]=some [.int .i64 (aR a b)]:=by
 refine aj3 ?_
 unfold Z6
 refine bs (zI _ _) ?_
 refine bs (zI _ _) ?_
 refine bs (zI _ _) ?_
 refine bs (Xx _ _ _) ?_
 rfl
noncomputable abbrev Kg:Code:=cA Tryd.prog (au.aU 170)
noncomputable def Ae (C:ae) (a b' i j:Int) (ab:List V) {β:Type} (kn:(Int × (List V))→Option β) (kr:(Int × Bool × (List V))→Option β):Option β:=
 bif decide ((j:Int)>a) then
  bif (decide (0≤j))&&(decide (j<(ab.length:Int))) then
  (ab[(j:Int).toNat]?).bind fun x1=>
  bif (decide (0≤(IntKind.wrap .i64 (j-1))))&&(decide ((IntKind.wrap .i64 (j-1))<(ab.length:Int))) then
   (ab[(IntKind.wrap .i64 (j-1):Int).toNat]?).bind fun x2=>
   (C bD [.int .i64 ((x1.cell 0).toInt),.int .i64 ((x1.cell 1).toInt),.int .i64 ((x1.cell 2).toInt),.int .i64 ((x2.cell 0).toInt),.int .i64 ((x2.cell 1).toInt),.int .i64 ((x2.cell 2).toInt)]).bind fun r3=>
   bif decide ((((V.nth r3 0).toInt):Int)<0) then
   bif (decide (0≤(IntKind.wrap .i64 (j-1))))&&(decide ((IntKind.wrap .i64 (j-1))<(ab.length:Int))) then
    (ab[(IntKind.wrap .i64 (j-1):Int).toNat]?).bind fun x4=>
    bif (decide (0≤j))&&(decide (j<(ab.length:Int))) then
    (ab[(j:Int).toNat]?).bind fun x5=>
    bif (decide (0≤j))&&(decide (j<(ab.length:Int))) then
     (ab[(j:Int).toNat]?).bind fun x6=>
     bif (decide (0≤(IntKind.wrap .i64 (j-1))))&&(decide ((IntKind.wrap .i64 (j-1))<((ab.set ((j:Int).toNat) (.agg [.int .i64 ((x4.cell 0).toInt),.int .i64 ((x4.cell 1).toInt),.int .i64 ((x4.cell 2).toInt)])).length:Int))) then
     ((ab.set ((j:Int).toNat) (.agg [.int .i64 ((x4.cell 0).toInt),.int .i64 ((x4.cell 1).toInt),.int .i64 ((x4.cell 2).toInt)]))[(IntKind.wrap .i64 (j-1):Int).toNat]?).bind fun x7=>
     kn (IntKind.wrap .i64 (j-1),(ab.set ((j:Int).toNat) (.agg [.int .i64 ((x4.cell 0).toInt),.int .i64 ((x4.cell 1).toInt),.int .i64 ((x4.cell 2).toInt)])).set ((IntKind.wrap .i64 (j-1):Int).toNat) (.agg [.int .i64 ((x5.cell 0).toInt),.int .i64 ((x5.cell 1).toInt),.int .i64 ((x5.cell 2).toInt)]))
     else none
    else none
    else none
   else none
   else
   kr (j,decide ((((V.nth r3 0).toInt):Int)<0),ab)
  else none
  else none
 else
  kr (j,false,ab)
noncomputable def Af (C:ae) (a b' i:Int):(Int × (List V))→Option ((Int × (List V)) ⊕ (Int × Bool × (List V))):=un fun j ab=>Ae C a b' i j ab (fun y=>some (.inl y)) (fun r=>some (.inr r))
noncomputable def ED (C:ae) (a b' i:Int) (ab:List V) {β:Type} (kn:(Int × (List V))→Option β) (kr:(Int × Bool × (List V))→Option β):Option β:=
 bif decide ((i:Int)<b') then
  (Loop (Af C a b' i) (i,ab)).bind (un fun (j_8:Int)=>un fun (pq:Bool) (iA:List V)=>
   kn (IntKind.wrap .i64 (i+1),iA))
 else
  kr (i,decide ((i:Int)<b'),ab)
noncomputable def Kh (C:ae) (a b':Int):(Int × (List V))→Option ((Int × (List V)) ⊕ (Int × Bool × (List V))):=un fun i ab=>ED C a b' i ab (fun y=>some (.inl y)) (fun r=>some (.inr r))
noncomputable def Z7 (C:ae):cl:=fun β n ds k=>
 bif Nat.beq n 65 then bt O6 [false,false,false,true,true] [[1,2,3,0,0,0]] (@Ae C) ds k else
 bif Nat.beq n 17 then bt O7 [false,false,true,true] [[1,2,0,0,0]] (@ED C) ds k else
 none
abbrev Z8 (C:ae) (b:ch):Prop:=cj Tryd.prog au C (Z7 C) 170 (cH Tryd.prog (au.aU 170)) (au.sin 170).aZ.length b
theorem aj4 (C:ae):Z8 C (.loop (aq [1,0,0,1,0,0,1,0,0] Kg)):=
 bA O6 [false,false,false,true,true] [[1,2,3,0,0,0]] (@Ae C) (by kernel_rfl) (aK (bs:=[]) (by kernel_rfl) ar) (fun ds=>by kernel_rfl) (fun i x=>by kernel_rfl) (fun i x β k=>by kernel_rfl) (fun β ds k=>by kernel_rfl)
theorem aj5 (C:ae):Z8 C (.loop (aq [1,0,0] Kg)):=
 bA O7 [false,false,true,true] [[1,2,0,0,0]] (@ED C) (by kernel_rfl) (aK (bs:=[.loop (aq [1,0,0,1,0,0,1,0,0] Kg)]) (by kernel_rfl) (aY (aj4 C) ar)) (fun ds=>by kernel_rfl) (fun i x=>by kernel_rfl) (fun i x β k=>by kernel_rfl) (fun β ds k=>by kernel_rfl)
noncomputable def Z9 (C:ae) (a b':Int) (ab:List V):Option (List V):=
 (Loop (Kh C a b') (IntKind.wrap .i64 (a+1),ab)).bind (un fun (aj6:Int)=>un fun (xl:Bool) (xq:List V)=>
  some [.list ak xq])
theorem aj7 {a b':Int} {ab:List V} {r:Option (List V)} (h:Z9 CC a b' ab=r):CC IN [.int .i64 a,.int .i64 b',.list ak ab]=r:=
 bp (key:=170) (L:=Z7 CC) (bs:=[.loop (aq [1,0,0] Kg)]) (by kernel_rfl) (aY (aj5 CC) ar) (bn (by kernel_rfl) h)
noncomputable abbrev Ag:Code:=cA Tryd.prog (au.aU 177)
noncomputable def xr (C:ae) (hi first root child:Int) (t40:Bool) (ab:List V) {β:Type} (kr:(Int)→Option β):Option β:=
 bif t40 then
  kr (IntKind.wrap .i64 (child+1))
 else
  kr child
noncomputable def vg (C:ae) (hi first root:Int) (ab:List V) {β:Type} (kn:(Int × (List V))→Option β) (kr:((Int × Int × Bool × (List V)) ⊕ (Int × Int × Bool × (List V)))→Option β):Option β:=
 bif decide (((IntKind.wrap .i64 ((IntKind.wrap .i64 (root*2))+1)):Int)≥hi) then
  kr (.inl (root,IntKind.wrap .i64 ((IntKind.wrap .i64 (root*2))+1),decide (((IntKind.wrap .i64 ((IntKind.wrap .i64 (root*2))+1)):Int)≥hi),ab))
 else
  bif decide (((IntKind.wrap .i64 ((IntKind.wrap .i64 ((IntKind.wrap .i64 (root*2))+1))+1)):Int)<hi) then
  bif (decide (0≤(IntKind.wrap .i64 (first+(IntKind.wrap .i64 ((IntKind.wrap .i64 (root*2))+1))))))&&(decide ((IntKind.wrap .i64 (first+(IntKind.wrap .i64 ((IntKind.wrap .i64 (root*2))+1))))<(ab.length:Int))) then
   (ab[(IntKind.wrap .i64 (first+(IntKind.wrap .i64 ((IntKind.wrap .i64 (root*2))+1))):Int).toNat]?).bind fun x1=>
   bif (decide (0≤(IntKind.wrap .i64 ((IntKind.wrap .i64 (first+(IntKind.wrap .i64 ((IntKind.wrap .i64 (root*2))+1))))+1))))&&(decide ((IntKind.wrap .i64 ((IntKind.wrap .i64 (first+(IntKind.wrap .i64 ((IntKind.wrap .i64 (root*2))+1))))+1))<(ab.length:Int))) then
   (ab[(IntKind.wrap .i64 ((IntKind.wrap .i64 (first+(IntKind.wrap .i64 ((IntKind.wrap .i64 (root*2))+1))))+1):Int).toNat]?).bind fun x2=>
   (C bD [.int .i64 ((x1.cell 0).toInt),.int .i64 ((x1.cell 1).toInt),.int .i64 ((x1.cell 2).toInt),.int .i64 ((x2.cell 0).toInt),.int .i64 ((x2.cell 1).toInt),.int .i64 ((x2.cell 2).toInt)]).bind fun r3=>
   xr C hi first root (IntKind.wrap .i64 ((IntKind.wrap .i64 (root*2))+1)) (decide ((((V.nth r3 0).toInt):Int)<0)) ab (fun (gL:Int)=>
    bif (decide (0≤(IntKind.wrap .i64 (first+root))))&&(decide ((IntKind.wrap .i64 (first+root))<(ab.length:Int))) then
     (ab[(IntKind.wrap .i64 (first+root):Int).toNat]?).bind fun x5=>
     bif (decide (0≤(IntKind.wrap .i64 (first+gL))))&&(decide ((IntKind.wrap .i64 (first+gL))<(ab.length:Int))) then
     (ab[(IntKind.wrap .i64 (first+gL):Int).toNat]?).bind fun x6=>
     (C bD [.int .i64 ((x5.cell 0).toInt),.int .i64 ((x5.cell 1).toInt),.int .i64 ((x5.cell 2).toInt),.int .i64 ((x6.cell 0).toInt),.int .i64 ((x6.cell 1).toInt),.int .i64 ((x6.cell 2).toInt)]).bind fun r7=>
     bif !(decide ((((V.nth r7 0).toInt):Int)<0)) then
      kr (.inr (root,gL,!(decide ((((V.nth r7 0).toInt):Int)<0)),ab))
     else
      bif (decide (0≤(IntKind.wrap .i64 (first+gL))))&&(decide ((IntKind.wrap .i64 (first+gL))<(ab.length:Int))) then
      (ab[(IntKind.wrap .i64 (first+gL):Int).toNat]?).bind fun x8=>
      bif (decide (0≤(IntKind.wrap .i64 (first+root))))&&(decide ((IntKind.wrap .i64 (first+root))<(ab.length:Int))) then
       (ab[(IntKind.wrap .i64 (first+root):Int).toNat]?).bind fun x9=>
       bif (decide (0≤(IntKind.wrap .i64 (first+root))))&&(decide ((IntKind.wrap .i64 (first+root))<(ab.length:Int))) then
       (ab[(IntKind.wrap .i64 (first+root):Int).toNat]?).bind fun fu=>
       bif (decide (0≤(IntKind.wrap .i64 (first+gL))))&&(decide ((IntKind.wrap .i64 (first+gL))<((ab.set ((IntKind.wrap .i64 (first+root):Int).toNat) (.agg [.int .i64 ((x8.cell 0).toInt),.int .i64 ((x8.cell 1).toInt),.int .i64 ((x8.cell 2).toInt)])).length:Int))) then
        ((ab.set ((IntKind.wrap .i64 (first+root):Int).toNat) (.agg [.int .i64 ((x8.cell 0).toInt),.int .i64 ((x8.cell 1).toInt),.int .i64 ((x8.cell 2).toInt)]))[(IntKind.wrap .i64 (first+gL):Int).toNat]?).bind fun eo=>
        kn (gL,(ab.set ((IntKind.wrap .i64 (first+root):Int).toNat) (.agg [.int .i64 ((x8.cell 0).toInt),.int .i64 ((x8.cell 1).toInt),.int .i64 ((x8.cell 2).toInt)])).set ((IntKind.wrap .i64 (first+gL):Int).toNat) (.agg [.int .i64 ((x9.cell 0).toInt),.int .i64 ((x9.cell 1).toInt),.int .i64 ((x9.cell 2).toInt)]))
       else none
       else none
      else none
      else none
     else none
    else none)
   else none
  else none
  else
  xr C hi first root (IntKind.wrap .i64 ((IntKind.wrap .i64 (root*2))+1)) false ab (fun (gM:Int)=>
   bif (decide (0≤(IntKind.wrap .i64 (first+root))))&&(decide ((IntKind.wrap .i64 (first+root))<(ab.length:Int))) then
    (ab[(IntKind.wrap .i64 (first+root):Int).toNat]?).bind fun eP=>
    bif (decide (0≤(IntKind.wrap .i64 (first+gM))))&&(decide ((IntKind.wrap .i64 (first+gM))<(ab.length:Int))) then
    (ab[(IntKind.wrap .i64 (first+gM):Int).toNat]?).bind fun iB=>
    (C bD [.int .i64 ((eP.cell 0).toInt),.int .i64 ((eP.cell 1).toInt),.int .i64 ((eP.cell 2).toInt),.int .i64 ((iB.cell 0).toInt),.int .i64 ((iB.cell 1).toInt),.int .i64 ((iB.cell 2).toInt)]).bind fun fA=>
    bif !(decide ((((V.nth fA 0).toInt):Int)<0)) then
     kr (.inr (root,gM,!(decide ((((V.nth fA 0).toInt):Int)<0)),ab))
    else
     bif (decide (0≤(IntKind.wrap .i64 (first+gM))))&&(decide ((IntKind.wrap .i64 (first+gM))<(ab.length:Int))) then
     (ab[(IntKind.wrap .i64 (first+gM):Int).toNat]?).bind fun dp=>
     bif (decide (0≤(IntKind.wrap .i64 (first+root))))&&(decide ((IntKind.wrap .i64 (first+root))<(ab.length:Int))) then
      (ab[(IntKind.wrap .i64 (first+root):Int).toNat]?).bind fun mb=>
      bif (decide (0≤(IntKind.wrap .i64 (first+root))))&&(decide ((IntKind.wrap .i64 (first+root))<(ab.length:Int))) then
      (ab[(IntKind.wrap .i64 (first+root):Int).toNat]?).bind fun z0=>
      bif (decide (0≤(IntKind.wrap .i64 (first+gM))))&&(decide ((IntKind.wrap .i64 (first+gM))<((ab.set ((IntKind.wrap .i64 (first+root):Int).toNat) (.agg [.int .i64 ((dp.cell 0).toInt),.int .i64 ((dp.cell 1).toInt),.int .i64 ((dp.cell 2).toInt)])).length:Int))) then
       ((ab.set ((IntKind.wrap .i64 (first+root):Int).toNat) (.agg [.int .i64 ((dp.cell 0).toInt),.int .i64 ((dp.cell 1).toInt),.int .i64 ((dp.cell 2).toInt)]))[(IntKind.wrap .i64 (first+gM):Int).toNat]?).bind fun gK=>
       kn (gM,(ab.set ((IntKind.wrap .i64 (first+root):Int).toNat) (.agg [.int .i64 ((dp.cell 0).toInt),.int .i64 ((dp.cell 1).toInt),.int .i64 ((dp.cell 2).toInt)])).set ((IntKind.wrap .i64 (first+gM):Int).toNat) (.agg [.int .i64 ((mb.cell 0).toInt),.int .i64 ((mb.cell 1).toInt),.int .i64 ((mb.cell 2).toInt)]))
      else none
      else none
     else none
     else none
    else none
   else none)
noncomputable def qj (C:ae) (hi first:Int):(Int × (List V))→Option ((Int × (List V)) ⊕ ((Int × Int × Bool × (List V)) ⊕ (Int × Int × Bool × (List V)))):=un fun root ab=>vg C hi first root ab (fun y=>some (.inl y)) (fun r=>some (.inr r))
noncomputable def aaa (C:ae):cl:=fun β n ds k=>
 bif Nat.beq n 655 then jb Pf [[1,2,3,0,6]] (@xr C) ds k else
 bif Nat.beq n 17 then bt Pg [false,false,true,true] [[1,2,0,0,0,0],[1,2,0,0,0,0]] (@vg C) ds k else
 none
abbrev aab (C:ae) (b:ch):Prop:=cj Tryd.prog au C (aaa C) 177 (cH Tryd.prog (au.aU 177)) (au.sin 177).aZ.length b
theorem aj8 (C:ae):aab C (.cond 40 (aq [1,0,0,0,1,1,0,1,0] Ag) (aq [1,0,0,0,1,1,0,1,1] Ag)):=
 jy Pf [[1,2,3,0,6]] (@xr C) (by kernel_rfl) (aK (bs:=[]) (by kernel_rfl) ar) (aK (bs:=[]) (by kernel_rfl) ar) (fun ds=>by kernel_rfl) (fun i β k=>by kernel_rfl) (fun β ds k=>by kernel_rfl)
theorem aj9 (C:ae):aab C (.loop (aq [1,0,0] Ag)):=
 bA Pg [false,false,true,true] [[1,2,0,0,0,0],[1,2,0,0,0,0]] (@vg C) (by kernel_rfl) (aK (bs:=[.cond 40 (aq [1,0,0,0,1,1,0,1,0] Ag) (aq [1,0,0,0,1,1,0,1,1] Ag)]) (by kernel_rfl) (aY (aj8 C) ar)) (fun ds=>by kernel_rfl) (fun i x=>by kernel_rfl) (fun i x β k=>by kernel_rfl) (fun β ds k=>by kernel_rfl)
noncomputable def aac (C:ae) (lo hi first:Int) (ab:List V):Option (List V):=
 (Loop (qj C hi first) (lo,ab)).bind (dm (un fun (aka:Int)=>un fun (akb:Int)=>un fun (Zk:Bool) (Ql:List V)=>
  some [.list ak Ql]) (un fun (akc:Int)=>un fun (akd:Int)=>un fun (Zy:Bool) (j9:List V)=>
  some [.list ak j9]))
theorem ake {lo hi first:Int} {ab:List V} {r:Option (List V)} (h:aac CC lo hi first ab=r):CC IT [.int .i64 lo,.int .i64 hi,.int .i64 first,.list ak ab]=r:=
 bp (key:=177) (L:=aaa CC) (bs:=[.loop (aq [1,0,0] Ag)]) (by kernel_rfl) (aY (aj9 CC) ar) (bn (by kernel_rfl) h)
noncomputable abbrev Ki:Code:=cA Tryd.prog (au.aU 171)
noncomputable def EE (C:ae) (first lo hi i:Int) (ab:List V) {β:Type} (kn:(Int × (List V))→Option β) (kr:(Int × Bool × (List V))→Option β):Option β:=
 bif decide ((i:Int)≥0) then
  (C IT [.int .i64 i,.int .i64 hi,.int .i64 first,.list ak ab]).bind fun r1=>
  kn (IntKind.wrap .i64 (i-1),(V.nth r1 0).toList)
 else
  kr (i,decide ((i:Int)≥0),ab)
noncomputable def Kj (C:ae) (first lo hi:Int):(Int × (List V))→Option ((Int × (List V)) ⊕ (Int × Bool × (List V))):=un fun i ab=>EE C first lo hi i ab (fun y=>some (.inl y)) (fun r=>some (.inr r))
noncomputable def EF (C:ae) (first lo i:Int) (ab:List V) {β:Type} (kn:(Int × (List V))→Option β) (kr:(Int × Bool × (List V))→Option β):Option β:=
 bif decide ((i:Int)≥0) then
  bif (decide (0≤(IntKind.wrap .i64 (first+i))))&&(decide ((IntKind.wrap .i64 (first+i))<(ab.length:Int))) then
  (ab[(IntKind.wrap .i64 (first+i):Int).toNat]?).bind fun x5=>
  bif (decide (0≤first))&&(decide (first<(ab.length:Int))) then
   (ab[(first:Int).toNat]?).bind fun x6=>
   bif (decide (0≤first))&&(decide (first<(ab.length:Int))) then
   (ab[(first:Int).toNat]?).bind fun x7=>
   bif (decide (0≤(IntKind.wrap .i64 (first+i))))&&(decide ((IntKind.wrap .i64 (first+i))<((ab.set ((first:Int).toNat) (.agg [.int .i64 ((x5.cell 0).toInt),.int .i64 ((x5.cell 1).toInt),.int .i64 ((x5.cell 2).toInt)])).length:Int))) then
    ((ab.set ((first:Int).toNat) (.agg [.int .i64 ((x5.cell 0).toInt),.int .i64 ((x5.cell 1).toInt),.int .i64 ((x5.cell 2).toInt)]))[(IntKind.wrap .i64 (first+i):Int).toNat]?).bind fun x8=>
    (C IT [.int .i64 lo,.int .i64 i,.int .i64 first,.list ak ((ab.set ((first:Int).toNat) (.agg [.int .i64 ((x5.cell 0).toInt),.int .i64 ((x5.cell 1).toInt),.int .i64 ((x5.cell 2).toInt)])).set ((IntKind.wrap .i64 (first+i):Int).toNat) (.agg [.int .i64 ((x6.cell 0).toInt),.int .i64 ((x6.cell 1).toInt),.int .i64 ((x6.cell 2).toInt)]))]).bind fun r9=>
    kn (IntKind.wrap .i64 (i-1),(V.nth r9 0).toList)
   else none
   else none
  else none
  else none
 else
  kr (i,decide ((i:Int)≥0),ab)
noncomputable def Kk (C:ae) (first lo:Int):(Int × (List V))→Option ((Int × (List V)) ⊕ (Int × Bool × (List V))):=un fun i ab=>EF C first lo i ab (fun y=>some (.inl y)) (fun r=>some (.inr r))
noncomputable def aad (C:ae):cl:=fun β n ds k=>
 bif Nat.beq n 65 then bt O8 [false,false,false,true,true] [[1,2,3,0,0,0]] (@EE C) ds k else
 bif Nat.beq n 129 then bt O9 [false,false,true,true] [[1,2,0,0,0]] (@EF C) ds k else
 none
abbrev aae (C:ae) (b:ch):Prop:=cj Tryd.prog au C (aad C) 171 (cH Tryd.prog (au.aU 171)) (au.sin 171).aZ.length b
theorem akf (C:ae):aae C (.loop (aq [1,1,1,0,1,0,0] Ki)):=
 bA O8 [false,false,false,true,true] [[1,2,3,0,0,0]] (@EE C) (by kernel_rfl) (aK (bs:=[]) (by kernel_rfl) ar) (fun ds=>by kernel_rfl) (fun i x=>by kernel_rfl) (fun i x β k=>by kernel_rfl) (fun β ds k=>by kernel_rfl)
theorem akg (C:ae):aae C (.loop (aq [1,1,1,1,1,0,0] Ki)):=
 bA O9 [false,false,true,true] [[1,2,0,0,0]] (@EF C) (by kernel_rfl) (aK (bs:=[]) (by kernel_rfl) ar) (fun ds=>by kernel_rfl) (fun i x=>by kernel_rfl) (fun i x β k=>by kernel_rfl) (fun β ds k=>by kernel_rfl)
noncomputable def aaf (C:ae) (a b':Int) (ab:List V):Option (List V):=
 (Loop (Kj C a 0 (IntKind.wrap .i64 (b'-a))) (IntKind.wrap .i64 (Int.tdiv (IntKind.wrap .i64 ((IntKind.wrap .i64 (b'-a))-1)) 2),ab)).bind (un fun (i_2:Int)=>un fun (lb:Bool) (Qm:List V)=>
  (Loop (Kk C a 0) (IntKind.wrap .i64 ((IntKind.wrap .i64 (b'-a))-1),Qm)).bind (un fun (akh:Int)=>un fun (J8:Bool) (gj:List V)=>
   some [.list ak gj]))
theorem aki {a b':Int} {ab:List V} {r:Option (List V)} (h:aaf CC a b' ab=r):CC IP [.int .i64 a,.int .i64 b',.list ak ab]=r:=
 bp (key:=171) (L:=aad CC) (bs:=[.loop (aq [1,1,1,0,1,0,0] Ki),.loop (aq [1,1,1,1,1,0,0] Ki)]) (by kernel_rfl) (aY (akf CC) (aY (akg CC) ar)) (bn (by kernel_rfl) h)
noncomputable abbrev aag:Code:=cA Tryd.prog (au.aU 179)
noncomputable def Ah (C:ae) (i j:Int) (ab:List V) {β:Type} (kn:(Int × Int × (List V))→Option β) (kr:(Int × Int × Bool × (List V))→Option β):Option β:=
 bif decide ((i:Int)<j) then
  bif (decide (0≤j))&&(decide (j<(ab.length:Int))) then
  (ab[(j:Int).toNat]?).bind fun x1=>
  bif (decide (0≤i))&&(decide (i<(ab.length:Int))) then
   (ab[(i:Int).toNat]?).bind fun x2=>
   bif (decide (0≤i))&&(decide (i<(ab.length:Int))) then
   (ab[(i:Int).toNat]?).bind fun x3=>
   bif (decide (0≤j))&&(decide (j<((ab.set ((i:Int).toNat) (.agg [.int .i64 ((x1.cell 0).toInt),.int .i64 ((x1.cell 1).toInt),.int .i64 ((x1.cell 2).toInt)])).length:Int))) then
    ((ab.set ((i:Int).toNat) (.agg [.int .i64 ((x1.cell 0).toInt),.int .i64 ((x1.cell 1).toInt),.int .i64 ((x1.cell 2).toInt)]))[(j:Int).toNat]?).bind fun x4=>
    kn (IntKind.wrap .i64 (i+1),IntKind.wrap .i64 (j-1),(ab.set ((i:Int).toNat) (.agg [.int .i64 ((x1.cell 0).toInt),.int .i64 ((x1.cell 1).toInt),.int .i64 ((x1.cell 2).toInt)])).set ((j:Int).toNat) (.agg [.int .i64 ((x2.cell 0).toInt),.int .i64 ((x2.cell 1).toInt),.int .i64 ((x2.cell 2).toInt)]))
   else none
   else none
  else none
  else none
 else
  kr (i,j,decide ((i:Int)<j),ab)
noncomputable def EG (C:ae):(Int × Int × (List V))→Option ((Int × Int × (List V)) ⊕ (Int × Int × Bool × (List V))):=un fun i=>un fun j ab=>Ah C i j ab (fun y=>some (.inl y)) (fun r=>some (.inr r))
noncomputable def aah (C:ae):cl:=fun β n ds k=>
 bif Nat.beq n 33 then bt Ph [true,true,true] [[0,0,0,0]] (@Ah C) ds k else
 none
abbrev akj (C:ae) (b:ch):Prop:=cj Tryd.prog au C (aah C) 179 (cH Tryd.prog (au.aU 179)) (au.sin 179).aZ.length b
theorem akk (C:ae):akj C (.loop (aq [1,1,0,0] aag)):=
 bA Ph [true,true,true] [[0,0,0,0]] (@Ah C) (by kernel_rfl) (aK (bs:=[]) (by kernel_rfl) ar) (fun ds=>by kernel_rfl) (fun i x=>by kernel_rfl) (fun i x β k=>by kernel_rfl) (fun β ds k=>by kernel_rfl)
noncomputable def aai (C:ae) (a b':Int) (ab:List V):Option (List V):=
 (Loop (EG C) (a,IntKind.wrap .i64 (b'-1),ab)).bind (un fun (i_5:Int)=>un fun (j_6:Int)=>un fun (pj:Bool) (Qn:List V)=>
  some [.list ak Qn])
theorem akl {a b':Int} {ab:List V} {r:Option (List V)} (h:aai CC a b' ab=r):CC Nl [.int .i64 a,.int .i64 b',.list ak ab]=r:=
 bp (key:=179) (L:=aah CC) (bs:=[.loop (aq [1,1,0,0] aag)]) (by kernel_rfl) (aY (akk CC) ar) (bn (by kernel_rfl) h)
end Go.AM
set_option maxRecDepth 100000
set_option maxHeartbeats 4000000
namespace Go.AM.SL
open Go.AM Go.Proofs Go.Sort
def ai (a b:Ed):Bool:=decide (aR a b<0)
theorem ll (a b:Ed):(ai a b=true)=(aR a b<0):=by unfold ai;rw[dx]
theorem ka (a b:Ed):((!ai a b)=true)= ¬(aR a b<0):=by unfold ai;simp
abbrev eA (d:Array Ed):List V:=pw Ed.enc d
theorem Qo (a j:Nat) (d:Array Ed):insInner ai a (j+1) d=if j+1>a then (if aR d[j+1]! d[j]! <0 then insInner ai a j (swp d (j+1) j) else d) else d:=by
 rw[Qf]
 by_cases h1:j+1>a
 ·rw[ag h1];simp only[h1,pE,qs,ll]
 ·rw[ah h1,ah (by simp[h1])]
theorem xt (hi first root:Nat) (d:Array Ed):siftDown ai hi first root d=
  if 2*root+1≥hi then d else
   if 2*root+2<hi then
    (if aR d[first+(2*root+1)]! d[first+(2*root+2)]! <0 then
     (if aR d[first+root]! d[first+(2*root+2)]! <0 then siftDown ai hi first (2*root+2) (swp d (first+root) (first+(2*root+2))) else d)
    else (if aR d[first+root]! d[first+(2*root+1)]! <0 then siftDown ai hi first (2*root+1) (swp d (first+root) (first+(2*root+1))) else d))
   else (if aR d[first+root]! d[first+(2*root+1)]! <0 then siftDown ai hi first (2*root+1) (swp d (first+root) (first+(2*root+1))) else d):=by
 rw[siftDown]
 by_cases h1:2*root+1≥hi
 ·rw[nH h1,ag h1]
 rw[dif_neg h1,ah h1]
 by_cases h2:2*root+2<hi
 ·rw[ag h2]
  by_cases h3:aR d[first+(2*root+1)]! d[first+(2*root+2)]! <0
  ·rw[ag h3,ag (by simp only[aL,dx,ll];exact ⟨h2,h3⟩)]
   simp only[ka]
   by_cases h4:aR d[first+root]! d[first+(2*root+2)]! <0
   ·rw[ah (jI h4),nH h2,ag h4]
   ·rw[ag h4,ah h4]
  ·rw[ah h3,ah (by simp only[aL,dx,ll];exact fun h=>h3 h.2)]
   simp only[ka]
   by_cases h4:aR d[first+root]! d[first+(2*root+1)]! <0
   ·rw[ah (jI h4),ag h4]
   ·rw[ag h4,ah h4]
 ·rw[ah h2,ah (by simp only[aL,dx,ll];exact fun h=>h2 h.1)]
  simp only[ka]
  by_cases h4:aR d[first+root]! d[first+(2*root+1)]! <0
  ·rw[ah (jI h4),ag h4]
  ·rw[ag h4,ah h4]
theorem EH {a b i:Nat}: ∀(j:Nat) (d:Array Ed),j<d.size→d.size<1152921504606846976→
  ∃j' t,Loop (Af CC a b i) ((j:Int),eA d)=some (j',t,eA (insInner ai a j d))
 | 0,d,hj,hs=>⟨(0:Nat),false,bd (by
   simp (disch:=omega) only[Af,Ae,un,aw,ah]
   rfl)⟩
 | j+1,d,hj,hs=>by
  obtain ⟨j',t,ih⟩:=EH (a:=a) (b:=b) (i:=i) j (swp d (j+1) j) (by rw[size_swp];omega) (by rw[size_swp];omega)
  rw[Qo]
  by_cases h1:j+1>a
  ·rw[ag h1]
   have e:Af CC a b i (((j+1:Nat):Int),eA d)=if aR d[j+1]! d[j]! <0 then some (.inl ((j:Int),eA (swp d (j+1) j))) else some (.inr (((j+1:Nat):Int),decide (aR d[j+1]! d[j]! <0),eA d)):=by
    simp (disch:=omega) only[Af,Ae,un,aw,cE,dF,ag,ah,wrap64,bU,db,Int.toNat_natCast,Option.bind_some,c9,dd,Ed.b7,Ed.b8,Ed.b9,Ed.re,da,dN,dE,iM,V.bz,V.toInt_int,cond_true,cond_false,nC]
    rfl
   by_cases h2:aR d[j+1]! d[j]! <0
   ·rw[ag h2] at e⊢
    exact ⟨j',t,(cM e).trans ih⟩
   ·rw[ah h2] at e⊢
    exact ⟨_,_,bd e⟩
  ·rw[ah h1]
   exact ⟨((j+1:Nat):Int),false,bd (by
    simp (disch:=omega) only[Af,Ae,un,aw,ah])⟩
theorem Qp {a b:Nat}: ∀(n i:Nat) (d:Array Ed),b-i=n→b≤d.size→d.size<1152921504606846976→
  ∃j' t,Loop (Kh CC a b) ((i:Int),eA d)=some (j',t,eA (insOuter ai a b i d)):=by
 intro n
 induction n with
 | zero=>
  intro i d hn hb hs
  rw[insOuter,ah (by omega)]
  exact ⟨(i:Int),false,bd (by
   simp (disch:=omega) only[Kh,ED,un,mc,cond_false])⟩
 | succ n ih=>
  intro i d hn hb hs
  obtain ⟨j1,t1,h1⟩:=EH (a:=a) (b:=b) (i:=i) i d (by omega) hs
  obtain ⟨j',t,h2⟩:=ih (i+1) (insInner ai a i d) (by omega) (by rw[Ey];omega) (by rw[Ey];omega)
  rw[insOuter,ag (by omega)]
  refine ⟨j',t,(cM ?_).trans h2⟩
  simp (disch:=omega) only[Kh,ED,un,aw,ag,h1,Option.bind_some,bU,wrap64]
theorem EI {a b:Nat} {d:Array Ed} (hb:b≤d.size) (hs:d.size<1152921504606846976) (ha:a<1152921504606846976):
  CC IN [.int .i64 (a:Int),.int .i64 (b:Int),.list ak (eA d)]=some [.list ak (eA (insertionSort ai d a b))]:=by
 refine aj7 ?_
 unfold Z9
 obtain ⟨j',t,h⟩:=Qp (a:=a) (b:=b) _ (a+1) d rfl hb hs
 simp (disch:=omega) only[bU,wrap64]
 rw[h]
 rfl
theorem Qq (hi first:Nat): ∀(n root:Nat) (d:Array Ed),hi-root≤n→root<1152921504606846976→first+hi≤d.size→d.size<1152921504606846976→
  (∃x y z,Loop (qj CC hi first) ((root:Int),eA d)=some (.inl (x,y,z,eA (siftDown ai hi first root d))))∨
  (∃x y z,Loop (qj CC hi first) ((root:Int),eA d)=some (.inr (x,y,z,eA (siftDown ai hi first root d)))):=by
 intro n
 induction n with
 | zero=>
  intro root d hn hr hb hs
  rw[xt,ag (by omega)]
  exact .inl ⟨(root:Int),((root*2+1:Nat):Int),true,bd (by
   simp (disch:=omega) only[qj,vg,un,rE,bU,wrap64];rw[ic (by omega)];rfl)⟩
 | succ n ih=>
  intro root d hn hr hb hs
  by_cases h1:2*root+1≥hi
  ·rw[xt,ag h1]
   exact .inl ⟨(root:Int),((root*2+1:Nat):Int),true,bd (by
    simp (disch:=omega) only[qj,vg,un,rE,bU,wrap64];rw[ic (by omega)];rfl)⟩
  ·have go: ∀c:Nat,c<hi→root<c→(qj CC hi first ((root:Int),eA d)=
      if aR d[first+root]! d[first+c]! <0 then some (.inl ((c:Int),eA (swp d (first+root) (first+c)))) else some (.inr (.inr ((root:Int),(c:Int),true,eA d))))→
     siftDown ai hi first root d=(if aR d[first+root]! d[first+c]! <0 then siftDown ai hi first c (swp d (first+root) (first+c)) else d)→
     ((∃x y z,Loop (qj CC hi first) ((root:Int),eA d)=some (.inl (x,y,z,eA (siftDown ai hi first root d))))∨
     (∃x y z,Loop (qj CC hi first) ((root:Int),eA d)=some (.inr (x,y,z,eA (siftDown ai hi first root d))))):=by
    intro c hc hrc e1 e2
    rw[e2]
    by_cases h3:aR d[first+root]! d[first+c]! <0
    ·rw[ag h3] at e1
     rw[ag h3,cM e1]
     exact ih c _ (by omega) (by omega) (by rw[size_swp];omega) (by rw[size_swp];omega)
    ·rw[ah h3] at e1
     rw[ah h3,bd e1]
     exact .inr ⟨_,_,_,rfl⟩
   have e0:=xt hi first root d
   rw[ah h1] at e0
   by_cases h2:2*root+2<hi
   ·rw[ag h2] at e0
    by_cases h3:aR d[first+(2*root+1)]! d[first+(2*root+2)]! <0
    ·rw[ag h3] at e0
     refine go (2*root+2) (by omega) (by omega) ?_ e0
     rw[gz 2 root] at h3
     simp (disch:=omega) only[qj,vg,un,rE,bU,db,wrap64]
     rw[aw,ah (by omega),aw,ag (by omega)]
     simp (disch:=omega) only[xr,aw,cE,dF,ag,ah,wrap64,bU,db,Int.toNat_natCast,Option.bind_some,c9,dd,Ed.b7,Ed.b8,Ed.b9,Ed.re,da,dN,dE,iM,V.bz,V.toInt_int,cond_true,cond_false,gz 2 root,ic]
     by_cases h4:aR d[first+root]! d[first+(root*2+2)]! <0
     ·simp only[h4,gy];rfl
     ·simp only[h4,iP];rfl
    ·rw[ah h3] at e0
     refine go (2*root+1) (by omega) (by omega) ?_ e0
     rw[gz 2 root] at h3
     simp (disch:=omega) only[qj,vg,un,rE,bU,db,wrap64]
     rw[aw,ah (by omega),aw,ag (by omega)]
     simp (disch:=omega) only[xr,aw,cE,dF,ag,ah,wrap64,bU,db,Int.toNat_natCast,Option.bind_some,c9,dd,Ed.b7,Ed.b8,Ed.b9,Ed.re,da,dN,dE,iM,V.bz,V.toInt_int,cond_true,cond_false,gz 2 root,mc]
     by_cases h4:aR d[first+root]! d[first+(root*2+1)]! <0
     ·simp only[h4,gy];rfl
     ·simp only[h4,iP];rfl
   ·rw[ah h2] at e0
    refine go (2*root+1) (by omega) (by omega) ?_ e0
    simp (disch:=omega) only[qj,vg,un,rE,bU,db,wrap64]
    rw[aw,ah (by omega),aw,ah (by omega)]
    simp (disch:=omega) only[xr,aw,cE,dF,ag,ah,wrap64,bU,db,Int.toNat_natCast,Option.bind_some,c9,dd,Ed.b7,Ed.b8,Ed.b9,Ed.re,da,dN,dE,iM,V.bz,V.toInt_int,cond_true,cond_false,gz 2 root]
    by_cases h4:aR d[first+root]! d[first+(root*2+1)]! <0
    ·simp only[h4,gy];rfl
    ·simp only[h4,iP];rfl
theorem EJ {lo hi first:Nat} {d:Array Ed} (hl:lo<1152921504606846976) (hb:first+hi≤d.size) (hs:d.size<1152921504606846976):
  CC IT [.int .i64 (lo:Int),.int .i64 (hi:Int),.int .i64 (first:Int),.list ak (eA d)]=some [.list ak (eA (siftDown ai hi first lo d))]:=by
 refine ake ?_
 unfold aac
 rcases Qq hi first _ lo d (aE _) hl hb hs with ⟨x,y,z,h⟩|⟨x,y,z,h⟩
 ·rw[h];rfl
 ·rw[h];rfl
theorem EK {hi first:Nat}: ∀(k:Nat) (d:Array Ed),k<1152921504606846976→first+hi≤d.size→d.size<1152921504606846976→
  ∃x y,Loop (Kj CC first 0 hi) ((k:Int)-1,eA d)=some (x,y,eA (heapBuild ai hi first k d))
 | 0,d,hk,hb,hs=>⟨-1,false,bd (by
   simp (disch:=omega) only[Kj,EE,un,aw,ah]
   rfl)⟩
 | k+1,d,hk,hb,hs=>by
  obtain ⟨x,y,ih⟩:=EK (hi:=hi) (first:=first) k (siftDown ai hi first k d) (by omega) (by rw[tE _ _ _ _ _ (aE _)];omega) (by rw[tE _ _ _ _ _ (aE _)];omega)
  refine ⟨x,y,(cM ?_).trans ih⟩
  simp (disch:=omega) only[Kj,EE,un,aw,ag,nC,EJ,Option.bind_some,V.bz,V.la,wrap64]
theorem EL {first:Nat}: ∀(k:Nat) (d:Array Ed),k<1152921504606846976→first+k≤d.size→d.size<1152921504606846976→
  ∃x y,Loop (Kk CC first 0) ((k:Int)-1,eA d)=some (x,y,eA (heapPop ai first k d))
 | 0,d,hk,hb,hs=>⟨-1,false,bd (by
   simp (disch:=omega) only[Kk,EF,un,aw,ah]
   rfl)⟩
 | k+1,d,hk,hb,hs=>by
  obtain ⟨x,y,ih⟩:=EL (first:=first) k (siftDown ai k first 0 (swp d first (first+k))) (by omega) (by rw[tE _ _ _ _ _ (aE _),size_swp];omega) (by rw[tE _ _ _ _ _ (aE _),size_swp];omega)
  refine ⟨x,y,(cM ?_).trans ih⟩
  have jV:=EJ (lo:=0) (hi:=k) (first:=first) (d:=swp d first (first+k)) (by omega) (by rw[size_swp];omega) (by rw[size_swp];omega)
  unfold swp at jV⊢
  rw[show ((0:Nat):Int)=0 from rfl] at jV
  simp (disch:=omega) only[Kk,EF,un,nC,aw,cE,dF,ag,ah,wrap64,bU,db,Int.toNat_natCast,Option.bind_some,c9,dd,Ed.b7,Ed.b8,Ed.b9,Ed.re,da,dN,dE,iM,V.bz,V.toInt_int,cond_true,cond_false]
  rw[jV]
  simp (disch:=omega) only[Option.bind_some,V.bz,V.la,wrap64]
theorem Qr {a b:Nat} {d:Array Ed} (cY:a<b) (hb:b≤d.size) (hs:d.size<1152921504606846976):
  CC IP [.int .i64 (a:Int),.int .i64 (b:Int),.list ak (eA d)]=some [.list ak (eA (heapSort ai d a b))]:=by
 refine aki ?_
 unfold aaf
 obtain ⟨x,y,h1⟩:=EK (hi:=b-a) (first:=a) ((b-a-1)/2+1) d (by omega) (by omega) hs
 obtain ⟨x2,y2,h2⟩:=EL (first:=a) (b-a) (heapBuild ai (b-a) a ((b-a-1)/2+1) d) (by omega) (by rw[Ez];omega) (by rw[Ez];omega)
 have e1:((((b-a-1)/2+1:Nat):Int)-1)=Int.tdiv (((b-a:Nat):Int)-1) 2:=by
  rw[Int.tdiv_eq_ediv_of_nonneg (by omega)]
  omega
 rw[e1] at h1
 simp (disch:=omega) only[gv,wrap64]
 rw[h1]
 simp only[Option.bind_some,un]
 rw[h2]
 rfl
theorem Qs: ∀(n i j:Nat) (d:Array Ed),j-i≤n→j<d.size→d.size<1152921504606846976→
  ∃x y z,Loop (EG CC) ((i:Int),(j:Int),eA d)=some (x,y,z,eA (reverseLoop i j d)):=by
 intro n
 induction n with
 | zero=>
  intro i j d hn hj hs
  rw[reverseLoop,ah (by omega)]
  exact ⟨(i:Int),(j:Int),false,bd (by
   simp (disch:=omega) only[EG,Ah,un,mc,cond_false])⟩
 | succ n ih=>
  intro i j d hn hj hs
  rw[reverseLoop]
  by_cases h:i<j
  ·rw[ag h]
   obtain ⟨x,y,z,h2⟩:=ih (i+1) (j-1) (swp d i j) (by omega) (by rw[size_swp];omega) (by rw[size_swp];omega)
   refine ⟨x,y,z,(cM ?_).trans h2⟩
   simp (disch:=omega) only[EG,Ah,un,aw,cE,dF,ag,ah,wrap64,bU,db,Int.toNat_natCast,Option.bind_some,c9,dd,Ed.b7,Ed.b8,Ed.b9,Ed.re,da,dN,dE,iM,V.bz,V.toInt_int,cond_true,cond_false,fl]
   rfl
  ·rw[ah h]
   exact ⟨(i:Int),(j:Int),false,bd (by
    simp (disch:=omega) only[EG,Ah,un,mc,cond_false])⟩
theorem Qt {a b:Nat} {d:Array Ed} (cY:a<b) (hb:b≤d.size) (hs:d.size<1152921504606846976):
  CC Nl [.int .i64 (a:Int),.int .i64 (b:Int),.list ak (eA d)]=some [.list ak (eA (reverseRange d a b))]:=by
 refine akl ?_
 unfold aai
 obtain ⟨x,y,z,h⟩:=Qs _ a (b-1) d (aE _) (by omega) hs
 simp (disch:=omega) only[fl,wrap64]
 rw[h]
 rfl
end Go.AM.SL
set_option maxRecDepth 100000
namespace Go.AM
open Go.Proofs
noncomputable abbrev rF:Code:=cA Tryd.prog (au.aU 181)
noncomputable def EM (C:ae) (a j:Int) (ab:List V) (i:Int) {β:Type} (kn:Int→Option β) (kr:(Int × Bool)→Option β):Option β:=
 bif decide ((i:Int)≤j) then
  bif (decide (0≤i))&&(decide (i<(ab.length:Int))) then
  (ab[(i:Int).toNat]?).bind fun x5=>
  bif (decide (0≤a))&&(decide (a<(ab.length:Int))) then
   (ab[(a:Int).toNat]?).bind fun x6=>
   (C bD [.int .i64 ((x5.cell 0).toInt),.int .i64 ((x5.cell 1).toInt),.int .i64 ((x5.cell 2).toInt),.int .i64 ((x6.cell 0).toInt),.int .i64 ((x6.cell 1).toInt),.int .i64 ((x6.cell 2).toInt)]).bind fun r7=>
   bif decide ((((V.nth r7 0).toInt):Int)<0) then
   kn (IntKind.wrap .i64 (i+1))
   else
   kr (i,decide ((((V.nth r7 0).toInt):Int)<0))
  else none
  else none
 else
  kr (i,false)
noncomputable def EN (C:ae) (a j:Int) (ab:List V):(Int)→Option ((Int) ⊕ (Int × Bool)):=fun i=>EM C a j ab i (fun y=>some (.inl y)) (fun r=>some (.inr r))
noncomputable def Ai (C:ae) (a i:Int) (ab:List V) (j:Int) {β:Type} (kn:Int→Option β) (kr:(Int × Bool)→Option β):Option β:=
 bif decide ((i:Int)≤j) then
  bif (decide (0≤j))&&(decide (j<(ab.length:Int))) then
  (ab[(j:Int).toNat]?).bind fun fu=>
  bif (decide (0≤a))&&(decide (a<(ab.length:Int))) then
   (ab[(a:Int).toNat]?).bind fun eo=>
   (C bD [.int .i64 ((fu.cell 0).toInt),.int .i64 ((fu.cell 1).toInt),.int .i64 ((fu.cell 2).toInt),.int .i64 ((eo.cell 0).toInt),.int .i64 ((eo.cell 1).toInt),.int .i64 ((eo.cell 2).toInt)]).bind fun ep=>
   bif !(decide ((((V.nth ep 0).toInt):Int)<0)) then
   kn (IntKind.wrap .i64 (j-1))
   else
   kr (j,!(decide ((((V.nth ep 0).toInt):Int)<0)))
  else none
  else none
 else
  kr (j,false)
noncomputable def Aj (C:ae) (a i:Int) (ab:List V):(Int)→Option ((Int) ⊕ (Int × Bool)):=fun j=>Ai C a i ab j (fun y=>some (.inl y)) (fun r=>some (.inr r))
noncomputable def EO (C:ae) (a j:Int) (ab:List V) (i:Int) {β:Type} (kn:Int→Option β) (kr:(Int × Bool)→Option β):Option β:=
 bif decide ((i:Int)≤j) then
  bif (decide (0≤i))&&(decide (i<(ab.length:Int))) then
  (ab[(i:Int).toNat]?).bind fun fZ=>
  bif (decide (0≤a))&&(decide (a<(ab.length:Int))) then
   (ab[(a:Int).toNat]?).bind fun mJ=>
   (C bD [.int .i64 ((fZ.cell 0).toInt),.int .i64 ((fZ.cell 1).toInt),.int .i64 ((fZ.cell 2).toInt),.int .i64 ((mJ.cell 0).toInt),.int .i64 ((mJ.cell 1).toInt),.int .i64 ((mJ.cell 2).toInt)]).bind fun EP=>
   bif decide ((((V.nth EP 0).toInt):Int)<0) then
   kn (IntKind.wrap .i64 (i+1))
   else
   kr (i,decide ((((V.nth EP 0).toInt):Int)<0))
  else none
  else none
 else
  kr (i,false)
noncomputable def ER (C:ae) (a j:Int) (ab:List V):(Int)→Option ((Int) ⊕ (Int × Bool)):=fun i=>EO C a j ab i (fun y=>some (.inl y)) (fun r=>some (.inr r))
noncomputable def Ak (C:ae) (a i:Int) (ab:List V) (j:Int) {β:Type} (kn:Int→Option β) (kr:(Int × Bool)→Option β):Option β:=
 bif decide ((i:Int)≤j) then
  bif (decide (0≤j))&&(decide (j<(ab.length:Int))) then
  (ab[(j:Int).toNat]?).bind fun mK=>
  bif (decide (0≤a))&&(decide (a<(ab.length:Int))) then
   (ab[(a:Int).toNat]?).bind fun mL=>
   (C bD [.int .i64 ((mK.cell 0).toInt),.int .i64 ((mK.cell 1).toInt),.int .i64 ((mK.cell 2).toInt),.int .i64 ((mL.cell 0).toInt),.int .i64 ((mL.cell 1).toInt),.int .i64 ((mL.cell 2).toInt)]).bind fun tG=>
   bif !(decide ((((V.nth tG 0).toInt):Int)<0)) then
   kn (IntKind.wrap .i64 (j-1))
   else
   kr (j,!(decide ((((V.nth tG 0).toInt):Int)<0)))
  else none
  else none
 else
  kr (j,false)
noncomputable def Al (C:ae) (a i:Int) (ab:List V):(Int)→Option ((Int) ⊕ (Int × Bool)):=fun j=>Ak C a i ab j (fun y=>some (.inl y)) (fun r=>some (.inr r))
noncomputable def ES (C:ae) (a i j:Int) (ab:List V) {β:Type} (kn:(Int × Int × (List V))→Option β) (kr:(Int × Int × Bool × (List V))→Option β):Option β:=
 (Loop (ER C a j ab) i).bind (un fun (fB:Int) (YR:Bool)=>
  (Loop (Al C a fB ab) j).bind (un fun (iC:Int) (akm:Bool)=>
   bif decide ((fB:Int)>iC) then
    kr (fB,iC,decide ((fB:Int)>iC),ab)
   else
    bif (decide (0≤iC))&&(decide (iC<(ab.length:Int))) then
    (ab[(iC:Int).toNat]?).bind fun kb=>
    bif (decide (0≤fB))&&(decide (fB<(ab.length:Int))) then
     (ab[(fB:Int).toNat]?).bind fun xu=>
     bif (decide (0≤fB))&&(decide (fB<(ab.length:Int))) then
     (ab[(fB:Int).toNat]?).bind fun x35=>
     bif (decide (0≤iC))&&(decide (iC<((ab.set ((fB:Int).toNat) (.agg [.int .i64 ((kb.cell 0).toInt),.int .i64 ((kb.cell 1).toInt),.int .i64 ((kb.cell 2).toInt)])).length:Int))) then
      ((ab.set ((fB:Int).toNat) (.agg [.int .i64 ((kb.cell 0).toInt),.int .i64 ((kb.cell 1).toInt),.int .i64 ((kb.cell 2).toInt)]))[(iC:Int).toNat]?).bind fun x36=>
      kn (IntKind.wrap .i64 (fB+1),IntKind.wrap .i64 (iC-1),(ab.set ((fB:Int).toNat) (.agg [.int .i64 ((kb.cell 0).toInt),.int .i64 ((kb.cell 1).toInt),.int .i64 ((kb.cell 2).toInt)])).set ((iC:Int).toNat) (.agg [.int .i64 ((xu.cell 0).toInt),.int .i64 ((xu.cell 1).toInt),.int .i64 ((xu.cell 2).toInt)]))
     else none
     else none
    else none
    else none))
noncomputable def Am (C:ae) (a:Int):(Int × Int × (List V))→Option ((Int × Int × (List V)) ⊕ (Int × Int × Bool × (List V))):=un fun i=>un fun j ab=>ES C a i j ab (fun y=>some (.inl y)) (fun r=>some (.inr r))
noncomputable def aaj (C:ae):cl:=fun β n ds k=>
 bif Nat.beq n 49 then bt Po [false,true,false,false] [[1,0,3,0,4]] (@EM C) ds k else
 bif Nat.beq n 81 then bt Pp [false,false,true,false] [[1,2,0,0,4]] (@Ai C) ds k else
 bif Nat.beq n 209 then bt Pq [false,true,false,false] [[1,0,3,0,4]] (@EO C) ds k else
 bif Nat.beq n 241 then bt Pr [false,false,true,false] [[1,2,0,0,4]] (@Ak C) ds k else
 bif Nat.beq n 210 then bt Ps [false,true,true,true] [[1,0,0,0,0]] (@ES C) ds k else
 none
abbrev ET (C:ae) (b:ch):Prop:=cj Tryd.prog au C (aaj C) 181 (cH Tryd.prog (au.aU 181)) (au.sin 181).aZ.length b
theorem akn (C:ae):ET C (.loop (aq [1,1,1,0,0,0] rF)):=
 bA Po [false,true,false,false] [[1,0,3,0,4]] (@EM C) (by kernel_rfl) (aK (bs:=[]) (by kernel_rfl) ar) (fun ds=>by kernel_rfl) (fun i x=>by kernel_rfl) (fun i x β k=>by kernel_rfl) (fun β ds k=>by kernel_rfl)
theorem ako (C:ae):ET C (.loop (aq [1,1,1,1,0,0,0] rF)):=
 bA Pp [false,false,true,false] [[1,2,0,0,4]] (@Ai C) (by kernel_rfl) (aK (bs:=[]) (by kernel_rfl) ar) (fun ds=>by kernel_rfl) (fun i x=>by kernel_rfl) (fun i x β k=>by kernel_rfl) (fun β ds k=>by kernel_rfl)
theorem akp (C:ae):ET C (.loop (aq [1,1,1,1,1,1,1,1,1,0,0,0,0,0,0,0] rF)):=
 bA Pq [false,true,false,false] [[1,0,3,0,4]] (@EO C) (by kernel_rfl) (aK (bs:=[]) (by kernel_rfl) ar) (fun ds=>by kernel_rfl) (fun i x=>by kernel_rfl) (fun i x β k=>by kernel_rfl) (fun β ds k=>by kernel_rfl)
theorem akq (C:ae):ET C (.loop (aq [1,1,1,1,1,1,1,1,1,0,0,0,0,1,0,0,0] rF)):=
 bA Pr [false,false,true,false] [[1,2,0,0,4]] (@Ak C) (by kernel_rfl) (aK (bs:=[]) (by kernel_rfl) ar) (fun ds=>by kernel_rfl) (fun i x=>by kernel_rfl) (fun i x β k=>by kernel_rfl) (fun β ds k=>by kernel_rfl)
theorem akr (C:ae):ET C (.loop (aq [1,1,1,1,1,1,1,1,1,0,0,0] rF)):=
 bA Ps [false,true,true,true] [[1,0,0,0,0]] (@ES C) (by kernel_rfl) (aK (bs:=[.loop (aq [1,1,1,1,1,1,1,1,1,0,0,0,0,0,0,0] rF),.loop (aq [1,1,1,1,1,1,1,1,1,0,0,0,0,1,0,0,0] rF)]) (by kernel_rfl) (aY (akp C) (aY (akq C) ar))) (fun ds=>by kernel_rfl) (fun i x=>by kernel_rfl) (fun i x β k=>by kernel_rfl) (fun β ds k=>by kernel_rfl)
noncomputable def aak (C:ae) (a b' pivot:Int) (ab:List V):Option (List V):=
 bif (decide (0≤pivot))&&(decide (pivot<(ab.length:Int))) then
  (ab[(pivot:Int).toNat]?).bind fun x1=>
  bif (decide (0≤a))&&(decide (a<(ab.length:Int))) then
  (ab[(a:Int).toNat]?).bind fun x2=>
  bif (decide (0≤a))&&(decide (a<(ab.length:Int))) then
   (ab[(a:Int).toNat]?).bind fun x3=>
   bif (decide (0≤pivot))&&(decide (pivot<((ab.set ((a:Int).toNat) (.agg [.int .i64 ((x1.cell 0).toInt),.int .i64 ((x1.cell 1).toInt),.int .i64 ((x1.cell 2).toInt)])).length:Int))) then
   ((ab.set ((a:Int).toNat) (.agg [.int .i64 ((x1.cell 0).toInt),.int .i64 ((x1.cell 1).toInt),.int .i64 ((x1.cell 2).toInt)]))[(pivot:Int).toNat]?).bind fun x4=>
   (Loop (EN C a (IntKind.wrap .i64 (b'-1)) ((ab.set ((a:Int).toNat) (.agg [.int .i64 ((x1.cell 0).toInt),.int .i64 ((x1.cell 1).toInt),.int .i64 ((x1.cell 2).toInt)])).set ((pivot:Int).toNat) (.agg [.int .i64 ((x2.cell 0).toInt),.int .i64 ((x2.cell 1).toInt),.int .i64 ((x2.cell 2).toInt)]))) (IntKind.wrap .i64 (a+1))).bind (un fun (cF:Int) (pq:Bool)=>
    (Loop (Aj C a cF ((ab.set ((a:Int).toNat) (.agg [.int .i64 ((x1.cell 0).toInt),.int .i64 ((x1.cell 1).toInt),.int .i64 ((x1.cell 2).toInt)])).set ((pivot:Int).toNat) (.agg [.int .i64 ((x2.cell 0).toInt),.int .i64 ((x2.cell 1).toInt),.int .i64 ((x2.cell 2).toInt)]))) (IntKind.wrap .i64 (b'-1))).bind (un fun (ca:Int) (xf:Bool)=>
     bif decide ((cF:Int)>ca) then
      bif (decide (0≤a))&&(decide (a<(((ab.set ((a:Int).toNat) (.agg [.int .i64 ((x1.cell 0).toInt),.int .i64 ((x1.cell 1).toInt),.int .i64 ((x1.cell 2).toInt)])).set ((pivot:Int).toNat) (.agg [.int .i64 ((x2.cell 0).toInt),.int .i64 ((x2.cell 1).toInt),.int .i64 ((x2.cell 2).toInt)])).length:Int))) then
      (((ab.set ((a:Int).toNat) (.agg [.int .i64 ((x1.cell 0).toInt),.int .i64 ((x1.cell 1).toInt),.int .i64 ((x1.cell 2).toInt)])).set ((pivot:Int).toNat) (.agg [.int .i64 ((x2.cell 0).toInt),.int .i64 ((x2.cell 1).toInt),.int .i64 ((x2.cell 2).toInt)]))[(a:Int).toNat]?).bind fun cX=>
      bif (decide (0≤ca))&&(decide (ca<(((ab.set ((a:Int).toNat) (.agg [.int .i64 ((x1.cell 0).toInt),.int .i64 ((x1.cell 1).toInt),.int .i64 ((x1.cell 2).toInt)])).set ((pivot:Int).toNat) (.agg [.int .i64 ((x2.cell 0).toInt),.int .i64 ((x2.cell 1).toInt),.int .i64 ((x2.cell 2).toInt)])).length:Int))) then
       (((ab.set ((a:Int).toNat) (.agg [.int .i64 ((x1.cell 0).toInt),.int .i64 ((x1.cell 1).toInt),.int .i64 ((x1.cell 2).toInt)])).set ((pivot:Int).toNat) (.agg [.int .i64 ((x2.cell 0).toInt),.int .i64 ((x2.cell 1).toInt),.int .i64 ((x2.cell 2).toInt)]))[(ca:Int).toNat]?).bind fun dp=>
       bif (decide (0≤ca))&&(decide (ca<(((ab.set ((a:Int).toNat) (.agg [.int .i64 ((x1.cell 0).toInt),.int .i64 ((x1.cell 1).toInt),.int .i64 ((x1.cell 2).toInt)])).set ((pivot:Int).toNat) (.agg [.int .i64 ((x2.cell 0).toInt),.int .i64 ((x2.cell 1).toInt),.int .i64 ((x2.cell 2).toInt)])).length:Int))) then
       (((ab.set ((a:Int).toNat) (.agg [.int .i64 ((x1.cell 0).toInt),.int .i64 ((x1.cell 1).toInt),.int .i64 ((x1.cell 2).toInt)])).set ((pivot:Int).toNat) (.agg [.int .i64 ((x2.cell 0).toInt),.int .i64 ((x2.cell 1).toInt),.int .i64 ((x2.cell 2).toInt)]))[(ca:Int).toNat]?).bind fun mb=>
       bif (decide (0≤a))&&(decide (a<((((ab.set ((a:Int).toNat) (.agg [.int .i64 ((x1.cell 0).toInt),.int .i64 ((x1.cell 1).toInt),.int .i64 ((x1.cell 2).toInt)])).set ((pivot:Int).toNat) (.agg [.int .i64 ((x2.cell 0).toInt),.int .i64 ((x2.cell 1).toInt),.int .i64 ((x2.cell 2).toInt)])).set ((ca:Int).toNat) (.agg [.int .i64 ((cX.cell 0).toInt),.int .i64 ((cX.cell 1).toInt),.int .i64 ((cX.cell 2).toInt)])).length:Int))) then
        ((((ab.set ((a:Int).toNat) (.agg [.int .i64 ((x1.cell 0).toInt),.int .i64 ((x1.cell 1).toInt),.int .i64 ((x1.cell 2).toInt)])).set ((pivot:Int).toNat) (.agg [.int .i64 ((x2.cell 0).toInt),.int .i64 ((x2.cell 1).toInt),.int .i64 ((x2.cell 2).toInt)])).set ((ca:Int).toNat) (.agg [.int .i64 ((cX.cell 0).toInt),.int .i64 ((cX.cell 1).toInt),.int .i64 ((cX.cell 2).toInt)]))[(a:Int).toNat]?).bind fun z0=>
        some [.int .i64 ca,.bool true,.list ak ((((ab.set ((a:Int).toNat) (.agg [.int .i64 ((x1.cell 0).toInt),.int .i64 ((x1.cell 1).toInt),.int .i64 ((x1.cell 2).toInt)])).set ((pivot:Int).toNat) (.agg [.int .i64 ((x2.cell 0).toInt),.int .i64 ((x2.cell 1).toInt),.int .i64 ((x2.cell 2).toInt)])).set ((ca:Int).toNat) (.agg [.int .i64 ((cX.cell 0).toInt),.int .i64 ((cX.cell 1).toInt),.int .i64 ((cX.cell 2).toInt)])).set ((a:Int).toNat) (.agg [.int .i64 ((dp.cell 0).toInt),.int .i64 ((dp.cell 1).toInt),.int .i64 ((dp.cell 2).toInt)]))]
       else none
       else none
      else none
      else none
     else
      bif (decide (0≤ca))&&(decide (ca<(((ab.set ((a:Int).toNat) (.agg [.int .i64 ((x1.cell 0).toInt),.int .i64 ((x1.cell 1).toInt),.int .i64 ((x1.cell 2).toInt)])).set ((pivot:Int).toNat) (.agg [.int .i64 ((x2.cell 0).toInt),.int .i64 ((x2.cell 1).toInt),.int .i64 ((x2.cell 2).toInt)])).length:Int))) then
      (((ab.set ((a:Int).toNat) (.agg [.int .i64 ((x1.cell 0).toInt),.int .i64 ((x1.cell 1).toInt),.int .i64 ((x1.cell 2).toInt)])).set ((pivot:Int).toNat) (.agg [.int .i64 ((x2.cell 0).toInt),.int .i64 ((x2.cell 1).toInt),.int .i64 ((x2.cell 2).toInt)]))[(ca:Int).toNat]?).bind fun gK=>
      bif (decide (0≤cF))&&(decide (cF<(((ab.set ((a:Int).toNat) (.agg [.int .i64 ((x1.cell 0).toInt),.int .i64 ((x1.cell 1).toInt),.int .i64 ((x1.cell 2).toInt)])).set ((pivot:Int).toNat) (.agg [.int .i64 ((x2.cell 0).toInt),.int .i64 ((x2.cell 1).toInt),.int .i64 ((x2.cell 2).toInt)])).length:Int))) then
       (((ab.set ((a:Int).toNat) (.agg [.int .i64 ((x1.cell 0).toInt),.int .i64 ((x1.cell 1).toInt),.int .i64 ((x1.cell 2).toInt)])).set ((pivot:Int).toNat) (.agg [.int .i64 ((x2.cell 0).toInt),.int .i64 ((x2.cell 1).toInt),.int .i64 ((x2.cell 2).toInt)]))[(cF:Int).toNat]?).bind fun lh=>
       bif (decide (0≤cF))&&(decide (cF<(((ab.set ((a:Int).toNat) (.agg [.int .i64 ((x1.cell 0).toInt),.int .i64 ((x1.cell 1).toInt),.int .i64 ((x1.cell 2).toInt)])).set ((pivot:Int).toNat) (.agg [.int .i64 ((x2.cell 0).toInt),.int .i64 ((x2.cell 1).toInt),.int .i64 ((x2.cell 2).toInt)])).length:Int))) then
       (((ab.set ((a:Int).toNat) (.agg [.int .i64 ((x1.cell 0).toInt),.int .i64 ((x1.cell 1).toInt),.int .i64 ((x1.cell 2).toInt)])).set ((pivot:Int).toNat) (.agg [.int .i64 ((x2.cell 0).toInt),.int .i64 ((x2.cell 1).toInt),.int .i64 ((x2.cell 2).toInt)]))[(cF:Int).toNat]?).bind fun rD=>
       bif (decide (0≤ca))&&(decide (ca<((((ab.set ((a:Int).toNat) (.agg [.int .i64 ((x1.cell 0).toInt),.int .i64 ((x1.cell 1).toInt),.int .i64 ((x1.cell 2).toInt)])).set ((pivot:Int).toNat) (.agg [.int .i64 ((x2.cell 0).toInt),.int .i64 ((x2.cell 1).toInt),.int .i64 ((x2.cell 2).toInt)])).set ((cF:Int).toNat) (.agg [.int .i64 ((gK.cell 0).toInt),.int .i64 ((gK.cell 1).toInt),.int .i64 ((gK.cell 2).toInt)])).length:Int))) then
        ((((ab.set ((a:Int).toNat) (.agg [.int .i64 ((x1.cell 0).toInt),.int .i64 ((x1.cell 1).toInt),.int .i64 ((x1.cell 2).toInt)])).set ((pivot:Int).toNat) (.agg [.int .i64 ((x2.cell 0).toInt),.int .i64 ((x2.cell 1).toInt),.int .i64 ((x2.cell 2).toInt)])).set ((cF:Int).toNat) (.agg [.int .i64 ((gK.cell 0).toInt),.int .i64 ((gK.cell 1).toInt),.int .i64 ((gK.cell 2).toInt)]))[(ca:Int).toNat]?).bind fun Y8=>
        (Loop (Am C a) (IntKind.wrap .i64 (cF+1),IntKind.wrap .i64 (ca-1),(((ab.set ((a:Int).toNat) (.agg [.int .i64 ((x1.cell 0).toInt),.int .i64 ((x1.cell 1).toInt),.int .i64 ((x1.cell 2).toInt)])).set ((pivot:Int).toNat) (.agg [.int .i64 ((x2.cell 0).toInt),.int .i64 ((x2.cell 1).toInt),.int .i64 ((x2.cell 2).toInt)])).set ((cF:Int).toNat) (.agg [.int .i64 ((gK.cell 0).toInt),.int .i64 ((gK.cell 1).toInt),.int .i64 ((gK.cell 2).toInt)])).set ((ca:Int).toNat) (.agg [.int .i64 ((lh.cell 0).toInt),.int .i64 ((lh.cell 1).toInt),.int .i64 ((lh.cell 2).toInt)]))).bind (un fun (aks:Int)=>un fun (jf:Int)=>un fun (akt:Bool) (eQ:List V)=>
         bif (decide (0≤a))&&(decide (a<(eQ.length:Int))) then
         (eQ[(a:Int).toNat]?).bind fun gk=>
         bif (decide (0≤jf))&&(decide (jf<(eQ.length:Int))) then
          (eQ[(jf:Int).toNat]?).bind fun mM=>
          bif (decide (0≤jf))&&(decide (jf<(eQ.length:Int))) then
          (eQ[(jf:Int).toNat]?).bind fun x43=>
          bif (decide (0≤a))&&(decide (a<((eQ.set ((jf:Int).toNat) (.agg [.int .i64 ((gk.cell 0).toInt),.int .i64 ((gk.cell 1).toInt),.int .i64 ((gk.cell 2).toInt)])).length:Int))) then
           ((eQ.set ((jf:Int).toNat) (.agg [.int .i64 ((gk.cell 0).toInt),.int .i64 ((gk.cell 1).toInt),.int .i64 ((gk.cell 2).toInt)]))[(a:Int).toNat]?).bind fun x44=>
           some [.int .i64 jf,.bool false,.list ak ((eQ.set ((jf:Int).toNat) (.agg [.int .i64 ((gk.cell 0).toInt),.int .i64 ((gk.cell 1).toInt),.int .i64 ((gk.cell 2).toInt)])).set ((a:Int).toNat) (.agg [.int .i64 ((mM.cell 0).toInt),.int .i64 ((mM.cell 1).toInt),.int .i64 ((mM.cell 2).toInt)]))]
          else none
          else none
         else none
         else none)
       else none
       else none
      else none
      else none))
   else none
  else none
  else none
 else none
theorem aku {a b' pivot:Int} {ab:List V} {r:Option (List V)} (h:aak CC a b' pivot ab=r):CC qb [.int .i64 a,.int .i64 b',.int .i64 pivot,.list ak ab]=r:=
 bp (key:=181) (L:=aaj CC) (bs:=[.loop (aq [1,1,1,0,0,0] rF),.loop (aq [1,1,1,1,0,0,0] rF),.loop (aq [1,1,1,1,1,1,1,1,1,0,0,0] rF)]) (by kernel_rfl) (aY (akn CC) (aY (ako CC) (aY (akr CC) ar))) (bn (by kernel_rfl) h)
noncomputable abbrev An:Code:=cA Tryd.prog (au.aU 182)
noncomputable def EU (C:ae) (a j:Int) (ab:List V) (i:Int) {β:Type} (kn:Int→Option β) (kr:(Int × Bool)→Option β):Option β:=
 bif decide ((i:Int)≤j) then
  bif (decide (0≤a))&&(decide (a<(ab.length:Int))) then
  (ab[(a:Int).toNat]?).bind fun x5=>
  bif (decide (0≤i))&&(decide (i<(ab.length:Int))) then
   (ab[(i:Int).toNat]?).bind fun x6=>
   (C bD [.int .i64 ((x5.cell 0).toInt),.int .i64 ((x5.cell 1).toInt),.int .i64 ((x5.cell 2).toInt),.int .i64 ((x6.cell 0).toInt),.int .i64 ((x6.cell 1).toInt),.int .i64 ((x6.cell 2).toInt)]).bind fun r7=>
   bif !(decide ((((V.nth r7 0).toInt):Int)<0)) then
   kn (IntKind.wrap .i64 (i+1))
   else
   kr (i,!(decide ((((V.nth r7 0).toInt):Int)<0)))
  else none
  else none
 else
  kr (i,false)
noncomputable def EV (C:ae) (a j:Int) (ab:List V):(Int)→Option ((Int) ⊕ (Int × Bool)):=fun i=>EU C a j ab i (fun y=>some (.inl y)) (fun r=>some (.inr r))
noncomputable def Ao (C:ae) (a i:Int) (ab:List V) (j:Int) {β:Type} (kn:Int→Option β) (kr:(Int × Bool)→Option β):Option β:=
 bif decide ((i:Int)≤j) then
  bif (decide (0≤a))&&(decide (a<(ab.length:Int))) then
  (ab[(a:Int).toNat]?).bind fun fu=>
  bif (decide (0≤j))&&(decide (j<(ab.length:Int))) then
   (ab[(j:Int).toNat]?).bind fun eo=>
   (C bD [.int .i64 ((fu.cell 0).toInt),.int .i64 ((fu.cell 1).toInt),.int .i64 ((fu.cell 2).toInt),.int .i64 ((eo.cell 0).toInt),.int .i64 ((eo.cell 1).toInt),.int .i64 ((eo.cell 2).toInt)]).bind fun ep=>
   bif decide ((((V.nth ep 0).toInt):Int)<0) then
   kn (IntKind.wrap .i64 (j-1))
   else
   kr (j,decide ((((V.nth ep 0).toInt):Int)<0))
  else none
  else none
 else
  kr (j,false)
noncomputable def Ap (C:ae) (a i:Int) (ab:List V):(Int)→Option ((Int) ⊕ (Int × Bool)):=fun j=>Ao C a i ab j (fun y=>some (.inl y)) (fun r=>some (.inr r))
noncomputable def EW (C:ae) (a i j:Int) (ab:List V) {β:Type} (kn:(Int × Int × (List V))→Option β) (kr:(Int × Int × Bool × (List V))→Option β):Option β:=
 (Loop (EV C a j ab) i).bind (un fun (cF:Int) (pq:Bool)=>
  (Loop (Ap C a cF ab) j).bind (un fun (ca:Int) (xf:Bool)=>
   bif decide ((cF:Int)>ca) then
    kr (cF,ca,decide ((cF:Int)>ca),ab)
   else
    bif (decide (0≤ca))&&(decide (ca<(ab.length:Int))) then
    (ab[(ca:Int).toNat]?).bind fun cX=>
    bif (decide (0≤cF))&&(decide (cF<(ab.length:Int))) then
     (ab[(cF:Int).toNat]?).bind fun dp=>
     bif (decide (0≤cF))&&(decide (cF<(ab.length:Int))) then
     (ab[(cF:Int).toNat]?).bind fun mb=>
     bif (decide (0≤ca))&&(decide (ca<((ab.set ((cF:Int).toNat) (.agg [.int .i64 ((cX.cell 0).toInt),.int .i64 ((cX.cell 1).toInt),.int .i64 ((cX.cell 2).toInt)])).length:Int))) then
      ((ab.set ((cF:Int).toNat) (.agg [.int .i64 ((cX.cell 0).toInt),.int .i64 ((cX.cell 1).toInt),.int .i64 ((cX.cell 2).toInt)]))[(ca:Int).toNat]?).bind fun z0=>
      kn (IntKind.wrap .i64 (cF+1),IntKind.wrap .i64 (ca-1),(ab.set ((cF:Int).toNat) (.agg [.int .i64 ((cX.cell 0).toInt),.int .i64 ((cX.cell 1).toInt),.int .i64 ((cX.cell 2).toInt)])).set ((ca:Int).toNat) (.agg [.int .i64 ((dp.cell 0).toInt),.int .i64 ((dp.cell 1).toInt),.int .i64 ((dp.cell 2).toInt)]))
     else none
     else none
    else none
    else none))
noncomputable def Aq (C:ae) (a:Int):(Int × Int × (List V))→Option ((Int × Int × (List V)) ⊕ (Int × Int × Bool × (List V))):=un fun i=>un fun j ab=>EW C a i j ab (fun y=>some (.inl y)) (fun r=>some (.inr r))
noncomputable def aal (C:ae):cl:=fun β n ds k=>
 bif Nat.beq n 49 then bt Pt [false,true,false,false] [[1,0,3,0,4]] (@EU C) ds k else
 bif Nat.beq n 81 then bt Pu [false,false,true,false] [[1,2,0,0,4]] (@Ao C) ds k else
 bif Nat.beq n 50 then bt Pv [false,true,true,true] [[1,0,0,0,0]] (@EW C) ds k else
 none
abbrev Qu (C:ae) (b:ch):Prop:=cj Tryd.prog au C (aal C) 182 (cH Tryd.prog (au.aU 182)) (au.sin 182).aZ.length b
theorem akv (C:ae):Qu C (.loop (aq [1,1,1,0,0,0,0,0,0,0] An)):=
 bA Pt [false,true,false,false] [[1,0,3,0,4]] (@EU C) (by kernel_rfl) (aK (bs:=[]) (by kernel_rfl) ar) (fun ds=>by kernel_rfl) (fun i x=>by kernel_rfl) (fun i x β k=>by kernel_rfl) (fun β ds k=>by kernel_rfl)
theorem akw (C:ae):Qu C (.loop (aq [1,1,1,0,0,0,0,1,0,0,0] An)):=
 bA Pu [false,false,true,false] [[1,2,0,0,4]] (@Ao C) (by kernel_rfl) (aK (bs:=[]) (by kernel_rfl) ar) (fun ds=>by kernel_rfl) (fun i x=>by kernel_rfl) (fun i x β k=>by kernel_rfl) (fun β ds k=>by kernel_rfl)
theorem akx (C:ae):Qu C (.loop (aq [1,1,1,0,0,0] An)):=
 bA Pv [false,true,true,true] [[1,0,0,0,0]] (@EW C) (by kernel_rfl) (aK (bs:=[.loop (aq [1,1,1,0,0,0,0,0,0,0] An),.loop (aq [1,1,1,0,0,0,0,1,0,0,0] An)]) (by kernel_rfl) (aY (akv C) (aY (akw C) ar))) (fun ds=>by kernel_rfl) (fun i x=>by kernel_rfl) (fun i x β k=>by kernel_rfl) (fun β ds k=>by kernel_rfl)
noncomputable def aam (C:ae) (a b' pivot:Int) (ab:List V):Option (List V):=
 bif (decide (0≤pivot))&&(decide (pivot<(ab.length:Int))) then
  (ab[(pivot:Int).toNat]?).bind fun x1=>
  bif (decide (0≤a))&&(decide (a<(ab.length:Int))) then
  (ab[(a:Int).toNat]?).bind fun x2=>
  bif (decide (0≤a))&&(decide (a<(ab.length:Int))) then
   (ab[(a:Int).toNat]?).bind fun x3=>
   bif (decide (0≤pivot))&&(decide (pivot<((ab.set ((a:Int).toNat) (.agg [.int .i64 ((x1.cell 0).toInt),.int .i64 ((x1.cell 1).toInt),.int .i64 ((x1.cell 2).toInt)])).length:Int))) then
   ((ab.set ((a:Int).toNat) (.agg [.int .i64 ((x1.cell 0).toInt),.int .i64 ((x1.cell 1).toInt),.int .i64 ((x1.cell 2).toInt)]))[(pivot:Int).toNat]?).bind fun x4=>
   (Loop (Aq C a) (IntKind.wrap .i64 (a+1),IntKind.wrap .i64 (b'-1),(ab.set ((a:Int).toNat) (.agg [.int .i64 ((x1.cell 0).toInt),.int .i64 ((x1.cell 1).toInt),.int .i64 ((x1.cell 2).toInt)])).set ((pivot:Int).toNat) (.agg [.int .i64 ((x2.cell 0).toInt),.int .i64 ((x2.cell 1).toInt),.int .i64 ((x2.cell 2).toInt)]))).bind (un fun (Qv:Int)=>un fun (aky:Int)=>un fun (akz:Bool) (Qw:List V)=>
    some [.int .i64 Qv,.list ak Qw])
   else none
  else none
  else none
 else none
theorem akA {a b' pivot:Int} {ab:List V} {r:Option (List V)} (h:aam CC a b' pivot ab=r):CC zx [.int .i64 a,.int .i64 b',.int .i64 pivot,.list ak ab]=r:=
 bp (key:=182) (L:=aal CC) (bs:=[.loop (aq [1,1,1,0,0,0] An)]) (by kernel_rfl) (aY (akx CC) ar) (bn (by kernel_rfl) h)
noncomputable abbrev pz:Code:=cA Tryd.prog (au.aU 180)
noncomputable def EX (C:ae) (a b' j:Int) (ab:List V) (i:Int) {β:Type} (kn:Int→Option β) (kr:(Int × Bool)→Option β):Option β:=
 bif decide ((i:Int)<b') then
  bif (decide (0≤i))&&(decide (i<(ab.length:Int))) then
  (ab[(i:Int).toNat]?).bind fun x1=>
  bif (decide (0≤(IntKind.wrap .i64 (i-1))))&&(decide ((IntKind.wrap .i64 (i-1))<(ab.length:Int))) then
   (ab[(IntKind.wrap .i64 (i-1):Int).toNat]?).bind fun x2=>
   (C bD [.int .i64 ((x1.cell 0).toInt),.int .i64 ((x1.cell 1).toInt),.int .i64 ((x1.cell 2).toInt),.int .i64 ((x2.cell 0).toInt),.int .i64 ((x2.cell 1).toInt),.int .i64 ((x2.cell 2).toInt)]).bind fun r3=>
   bif !(decide ((((V.nth r3 0).toInt):Int)<0)) then
   kn (IntKind.wrap .i64 (i+1))
   else
   kr (i,!(decide ((((V.nth r3 0).toInt):Int)<0)))
  else none
  else none
 else
  kr (i,false)
noncomputable def EY (C:ae) (a b' j:Int) (ab:List V):(Int)→Option ((Int) ⊕ (Int × Bool)):=fun i=>EX C a b' j ab i (fun y=>some (.inl y)) (fun r=>some (.inr r))
noncomputable def EZ (C:ae) (a b' i j j':Int) (ab:List V) {β:Type} (kn:(Int × (List V))→Option β) (kr:(Int × (List V))→Option β):Option β:=
 bif decide ((j':Int)≥1) then
  bif (decide (0≤j'))&&(decide (j'<(ab.length:Int))) then
  (ab[(j':Int).toNat]?).bind fun fu=>
  bif (decide (0≤(IntKind.wrap .i64 (j'-1))))&&(decide ((IntKind.wrap .i64 (j'-1))<(ab.length:Int))) then
   (ab[(IntKind.wrap .i64 (j'-1):Int).toNat]?).bind fun eo=>
   (C bD [.int .i64 ((fu.cell 0).toInt),.int .i64 ((fu.cell 1).toInt),.int .i64 ((fu.cell 2).toInt),.int .i64 ((eo.cell 0).toInt),.int .i64 ((eo.cell 1).toInt),.int .i64 ((eo.cell 2).toInt)]).bind fun ep=>
   bif !(decide ((((V.nth ep 0).toInt):Int)<0)) then
   kr (j',ab)
   else
   bif (decide (0≤(IntKind.wrap .i64 (j'-1))))&&(decide ((IntKind.wrap .i64 (j'-1))<(ab.length:Int))) then
    (ab[(IntKind.wrap .i64 (j'-1):Int).toNat]?).bind fun eP=>
    bif (decide (0≤j'))&&(decide (j'<(ab.length:Int))) then
    (ab[(j':Int).toNat]?).bind fun iB=>
    bif (decide (0≤j'))&&(decide (j'<(ab.length:Int))) then
     (ab[(j':Int).toNat]?).bind fun cX=>
     bif (decide (0≤(IntKind.wrap .i64 (j'-1))))&&(decide ((IntKind.wrap .i64 (j'-1))<((ab.set ((j':Int).toNat) (.agg [.int .i64 ((eP.cell 0).toInt),.int .i64 ((eP.cell 1).toInt),.int .i64 ((eP.cell 2).toInt)])).length:Int))) then
     ((ab.set ((j':Int).toNat) (.agg [.int .i64 ((eP.cell 0).toInt),.int .i64 ((eP.cell 1).toInt),.int .i64 ((eP.cell 2).toInt)]))[(IntKind.wrap .i64 (j'-1):Int).toNat]?).bind fun dp=>
     kn (IntKind.wrap .i64 (j'-1),(ab.set ((j':Int).toNat) (.agg [.int .i64 ((eP.cell 0).toInt),.int .i64 ((eP.cell 1).toInt),.int .i64 ((eP.cell 2).toInt)])).set ((IntKind.wrap .i64 (j'-1):Int).toNat) (.agg [.int .i64 ((iB.cell 0).toInt),.int .i64 ((iB.cell 1).toInt),.int .i64 ((iB.cell 2).toInt)]))
     else none
    else none
    else none
   else none
  else none
  else none
 else
  kr (j',ab)
noncomputable def E0 (C:ae) (a b' i j:Int):(Int × (List V))→Option ((Int × (List V)) ⊕ (Int × (List V))):=un fun j' ab=>EZ C a b' i j j' ab (fun y=>some (.inl y)) (fun r=>some (.inr r))
noncomputable def Kl (C:ae) (a b' i j:Int) (t65:Bool) (ab:List V) {β:Type} (kr:(List V)→Option β):Option β:=
 bif t65 then
  (Loop (E0 C a b' i j) (IntKind.wrap .i64 (i-1),ab)).bind (un fun (akB:Int) (Qx:List V)=>
   kr Qx)
 else
  kr ab
noncomputable def E1 (C:ae) (a b' i j j':Int) (ab:List V) {β:Type} (kn:(Int × (List V))→Option β) (kr:(Int × (List V))→Option β):Option β:=
 bif decide ((j':Int)<b') then
  bif (decide (0≤j'))&&(decide (j'<(ab.length:Int))) then
  (ab[(j':Int).toNat]?).bind fun lh=>
  bif (decide (0≤(IntKind.wrap .i64 (j'-1))))&&(decide ((IntKind.wrap .i64 (j'-1))<(ab.length:Int))) then
   (ab[(IntKind.wrap .i64 (j'-1):Int).toNat]?).bind fun rD=>
   (C bD [.int .i64 ((lh.cell 0).toInt),.int .i64 ((lh.cell 1).toInt),.int .i64 ((lh.cell 2).toInt),.int .i64 ((rD.cell 0).toInt),.int .i64 ((rD.cell 1).toInt),.int .i64 ((rD.cell 2).toInt)]).bind fun fa=>
   bif !(decide ((((V.nth fa 0).toInt):Int)<0)) then
   kr (j',ab)
   else
   bif (decide (0≤(IntKind.wrap .i64 (j'-1))))&&(decide ((IntKind.wrap .i64 (j'-1))<(ab.length:Int))) then
    (ab[(IntKind.wrap .i64 (j'-1):Int).toNat]?).bind fun fZ=>
    bif (decide (0≤j'))&&(decide (j'<(ab.length:Int))) then
    (ab[(j':Int).toNat]?).bind fun mJ=>
    bif (decide (0≤j'))&&(decide (j'<(ab.length:Int))) then
     (ab[(j':Int).toNat]?).bind fun x25=>
     bif (decide (0≤(IntKind.wrap .i64 (j'-1))))&&(decide ((IntKind.wrap .i64 (j'-1))<((ab.set ((j':Int).toNat) (.agg [.int .i64 ((fZ.cell 0).toInt),.int .i64 ((fZ.cell 1).toInt),.int .i64 ((fZ.cell 2).toInt)])).length:Int))) then
     ((ab.set ((j':Int).toNat) (.agg [.int .i64 ((fZ.cell 0).toInt),.int .i64 ((fZ.cell 1).toInt),.int .i64 ((fZ.cell 2).toInt)]))[(IntKind.wrap .i64 (j'-1):Int).toNat]?).bind fun x26=>
     kn (IntKind.wrap .i64 (j'+1),(ab.set ((j':Int).toNat) (.agg [.int .i64 ((fZ.cell 0).toInt),.int .i64 ((fZ.cell 1).toInt),.int .i64 ((fZ.cell 2).toInt)])).set ((IntKind.wrap .i64 (j'-1):Int).toNat) (.agg [.int .i64 ((mJ.cell 0).toInt),.int .i64 ((mJ.cell 1).toInt),.int .i64 ((mJ.cell 2).toInt)]))
     else none
    else none
    else none
   else none
  else none
  else none
 else
  kr (j',ab)
noncomputable def E2 (C:ae) (a b' i j:Int):(Int × (List V))→Option ((Int × (List V)) ⊕ (Int × (List V))):=un fun j' ab=>E1 C a b' i j j' ab (fun y=>some (.inl y)) (fun r=>some (.inr r))
noncomputable def E3 (C:ae) (a b' i j:Int) (ab:List V) {β:Type} (kn:(Int × Int × (List V))→Option β) (kr:((Bool × (List V)) ⊕ (Int × Int × Bool × (List V)))→Option β):Option β:=
 bif decide ((j:Int)<5) then
  (Loop (EY C a b' j ab) i).bind (un fun (cL:Int) (nn:Bool)=>
   bif (cL:Int)==b' then
   kr (.inl (true,ab))
   else
   bif decide (((IntKind.wrap .i64 (b'-a)):Int)<50) then
    kr (.inl (false,ab))
   else
    bif (decide (0≤(IntKind.wrap .i64 (cL-1))))&&(decide ((IntKind.wrap .i64 (cL-1))<(ab.length:Int))) then
    (ab[(IntKind.wrap .i64 (cL-1):Int).toNat]?).bind fun x6=>
    bif (decide (0≤cL))&&(decide (cL<(ab.length:Int))) then
     (ab[(cL:Int).toNat]?).bind fun x7=>
     bif (decide (0≤cL))&&(decide (cL<(ab.length:Int))) then
     (ab[(cL:Int).toNat]?).bind fun x8=>
     bif (decide (0≤(IntKind.wrap .i64 (cL-1))))&&(decide ((IntKind.wrap .i64 (cL-1))<((ab.set ((cL:Int).toNat) (.agg [.int .i64 ((x6.cell 0).toInt),.int .i64 ((x6.cell 1).toInt),.int .i64 ((x6.cell 2).toInt)])).length:Int))) then
      ((ab.set ((cL:Int).toNat) (.agg [.int .i64 ((x6.cell 0).toInt),.int .i64 ((x6.cell 1).toInt),.int .i64 ((x6.cell 2).toInt)]))[(IntKind.wrap .i64 (cL-1):Int).toNat]?).bind fun x9=>
      Kl C a b' cL j (decide (((IntKind.wrap .i64 (cL-a)):Int)≥2)) ((ab.set ((cL:Int).toNat) (.agg [.int .i64 ((x6.cell 0).toInt),.int .i64 ((x6.cell 1).toInt),.int .i64 ((x6.cell 2).toInt)])).set ((IntKind.wrap .i64 (cL-1):Int).toNat) (.agg [.int .i64 ((x7.cell 0).toInt),.int .i64 ((x7.cell 1).toInt),.int .i64 ((x7.cell 2).toInt)])) (fun (E4:List V)=>
       bif decide (((IntKind.wrap .i64 (b'-cL)):Int)≥2) then
       (Loop (E2 C a b' cL j) (IntKind.wrap .i64 (cL+1),E4)).bind (un fun (akC:Int) (Qy:List V)=>
        kn (cL,IntKind.wrap .i64 (j+1),Qy))
       else
       kn (cL,IntKind.wrap .i64 (j+1),E4))
     else none
     else none
    else none
    else none)
 else
  kr (.inr (i,j,decide ((j:Int)<5),ab))
noncomputable def vh (C:ae) (a b':Int):(Int × Int × (List V))→Option ((Int × Int × (List V)) ⊕ ((Bool × (List V)) ⊕ (Int × Int × Bool × (List V)))):=un fun i=>un fun j ab=>E3 C a b' i j ab (fun y=>some (.inl y)) (fun r=>some (.inr r))
noncomputable def aan (C:ae):cl:=fun β n ds k=>
 bif Nat.beq n 81 then bt Pj [false,false,true,false,false] [[1,2,0,4,0,5]] (@EX C) ds k else
 bif Nat.beq n 225 then bt Pk [false,false,false,false,true,true] [[1,2,3,4,0,0]] (@EZ C) ds k else
 bif Nat.beq n 1055 then jb Pl [[1,2,3,4,0]] (@Kl C) ds k else
 bif Nat.beq n 321 then bt Pm [false,false,false,false,true,true] [[1,2,3,4,0,0]] (@E1 C) ds k else
 bif Nat.beq n 49 then bt Pn [false,false,true,true,true] [[0,0],[1,2,0,0,0,0]] (@E3 C) ds k else
 none
abbrev E5 (C:ae) (b:ch):Prop:=cj Tryd.prog au C (aan C) 180 (cH Tryd.prog (au.aU 180)) (au.sin 180).aZ.length b
theorem akD (C:ae):E5 C (.loop (aq [1,1,0,1,0,0,1,0,0,0,0,0] pz)):=
 bA Pj [false,false,true,false,false] [[1,2,0,4,0,5]] (@EX C) (by kernel_rfl) (aK (bs:=[]) (by kernel_rfl) ar) (fun ds=>by kernel_rfl) (fun i x=>by kernel_rfl) (fun i x β k=>by kernel_rfl) (fun β ds k=>by kernel_rfl)
theorem akE (C:ae):E5 C (.loop (aq [1,1,0,1,0,0,1,0,0,1,1,1,1,0,1,0,1,0,0] pz)):=
 bA Pk [false,false,false,false,true,true] [[1,2,3,4,0,0]] (@EZ C) (by kernel_rfl) (aK (bs:=[]) (by kernel_rfl) ar) (fun ds=>by kernel_rfl) (fun i x=>by kernel_rfl) (fun i x β k=>by kernel_rfl) (fun β ds k=>by kernel_rfl)
theorem akF (C:ae):E5 C (.cond 65 (aq [1,1,0,1,0,0,1,0,0,1,1,1,1,0,1,0] pz) (aq [1,1,0,1,0,0,1,0,0,1,1,1,1,0,1,1] pz)):=
 jy Pl [[1,2,3,4,0]] (@Kl C) (by kernel_rfl) (aK (bs:=[.loop (aq [1,1,0,1,0,0,1,0,0,1,1,1,1,0,1,0,1,0,0] pz)]) (by kernel_rfl) (aY (akE C) ar)) (aK (bs:=[]) (by kernel_rfl) ar) (fun ds=>by kernel_rfl) (fun i β k=>by kernel_rfl) (fun β ds k=>by kernel_rfl)
theorem akG (C:ae):E5 C (.loop (aq [1,1,0,1,0,0,1,0,0,1,1,1,1,1,1,0,1,0,0] pz)):=
 bA Pm [false,false,false,false,true,true] [[1,2,3,4,0,0]] (@E1 C) (by kernel_rfl) (aK (bs:=[]) (by kernel_rfl) ar) (fun ds=>by kernel_rfl) (fun i x=>by kernel_rfl) (fun i x β k=>by kernel_rfl) (fun β ds k=>by kernel_rfl)
theorem akH (C:ae):E5 C (.loop (aq [1,1,0,1,0,0] pz)):=
 bA Pn [false,false,true,true,true] [[0,0],[1,2,0,0,0,0]] (@E3 C) (by kernel_rfl) (aK (bs:=[.loop (aq [1,1,0,1,0,0,1,0,0,0,0,0] pz),.cond 65 (aq [1,1,0,1,0,0,1,0,0,1,1,1,1,0,1,0] pz) (aq [1,1,0,1,0,0,1,0,0,1,1,1,1,0,1,1] pz),.loop (aq [1,1,0,1,0,0,1,0,0,1,1,1,1,1,1,0,1,0,0] pz)]) (by kernel_rfl) (aY (akD C) (aY (akF C) (aY (akG C) ar)))) (fun ds=>by kernel_rfl) (fun i x=>by kernel_rfl) (fun i x β k=>by kernel_rfl) (fun β ds k=>by kernel_rfl)
noncomputable def aao (C:ae) (a b':Int) (ab:List V):Option (List V):=
 (Loop (vh C a b') (IntKind.wrap .i64 (a+1),0,ab)).bind (dm (un fun (Qz:Bool) (QA:List V)=>
  some [.bool Qz,.list ak QA]) (un fun (akI:Int)=>un fun (akJ:Int)=>un fun (akK:Bool) (QB:List V)=>
  some [.bool false,.list ak QB]))
theorem akL {a b':Int} {ab:List V} {r:Option (List V)} (h:aao CC a b' ab=r):CC Nm [.int .i64 a,.int .i64 b',.list ak ab]=r:=
 bp (key:=180) (L:=aan CC) (bs:=[.loop (aq [1,1,0,1,0,0] pz)]) (by kernel_rfl) (aY (akH CC) ar) (bn (by kernel_rfl) h)
end Go.AM
