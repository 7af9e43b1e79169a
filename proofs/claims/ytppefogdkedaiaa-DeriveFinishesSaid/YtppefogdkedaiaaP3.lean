/-
  Functions of the program, lifted to plain data.
-/
import Derived.Conc.MuLone
import Derived.Defers
import Derived.Carry
import Derived.OpenShut
import Derived.Deep.Slices
import Derived.Test.YtppefogdkedaiaaP2
set_option linter.unusedVariables false
set_option linter.unusedSimpArgs false
namespace Go.AM
section
variable {P:Program} {A:cA} {w w':World} {I I' I2:Nat→Prop} {μ β β' bP:Nat→Option Nat} {hp hp' hp0 bm:Nat→Option an} {C:ag} {B:Nat} {M:Nat→Prop} {w0:Start}
structure kF (w:World) (I:Nat→Prop) (β:Nat→Option Nat) (hp:Nat→Option an) (w':World) (I':Nat→Prop) (β':Nat→Option Nat) (hp':Nat→Option an):Prop where
 c9: ∀b,I b→I' b
 b6: ∀b,I b→w'.heap[b]? =w.heap[b]?
 blk: ∀id blk,hp id=some blk→∃blk',hp' id=some blk'∧blk.le blk'∧(blk'≠ .dead→β' id=β id)
 size: ∀id blk blk' b,hp id=some blk→hp' id=some blk'→blk'≠ .dead→β id=some b→bsize w' b=bsize w b
theorem Le.Dn (h:Le P w I β hp w' I' β' hp'):kF w I β hp w' I' β' hp':=⟨h.c9,h.b6,h.blk,h.size⟩
theorem kF.trans {yL:World} {yM:Nat→Prop} {yN:Nat→Option Nat} {yO:Nat→Option an} (h1:kF w I β hp w' I' β' hp') (U:kF w' I' β' hp' yL yM yN yO):kF w I β hp yL yM yN yO:=by
 refine ⟨fun b h=>U.c9 b (h1.c9 b h),fun b h=>(U.b6 b (h1.c9 b h)).trans (h1.b6 b h),fun id blk h=> ?_,fun id blk s6 b h rE hd hb=> ?_⟩
 ·obtain ⟨blk',e',l',b'⟩:=h1.blk id blk h
  obtain ⟨s6,dq,pZ,GM⟩:=U.blk id blk' e'
  refine ⟨s6,dq,an.le_trans l' pZ,fun hd=> ?_⟩
  have ek:blk'≠ .dead:=fun e=>hd (an.oP (e▸pZ))
  exact (GM hd).trans (b' ek)
 ·obtain ⟨blk',e',l',b'⟩:=h1.blk id blk h
  obtain ⟨gB,e3,l3,b3⟩:=U.blk id blk' e'
  obtain rfl:gB=s6:=by rw[e3] at rE;exact cY rE
  have ek:blk'≠ .dead:=fun e=>hd (an.oP (e▸l3))
  rw[U.size id blk' gB b e' e3 hd ((b' ek).trans hb),h1.size id blk blk' b h e' ek hb]
def nZ (P:Program) (w:World) (μ:Nat→Option Nat) (hp0:Nat→Option an) (b:Nat):Prop:= ∃j blk,hp0 j=some blk∧bt P w (μ j) blk b
structure XO (P:Program) (A:cA) (key:Nat) (w:World) (I:Nat→Prop) (μ:Nat→Option Nat) (ds es:List V) (w':World) (v:Value) (I2:Nat→Prop) (bP:Nat→Option Nat):Prop where
 vW:aE P w' I2 bP (bj (A.so key es) (A.lv key es)).hp w.heap.size (nZ P w μ (bj (A.sin key) ds).hp) ⟨w,I⟩
 le:kF w I μ (bj (A.sin key) ds).hp w' I2 bP (bj (A.so key es) (A.lv key es)).hp
 res:ao P w' I2 bP (bj (A.so key es) (A.lv key es)).hp v (oN (eT (A.so key es).bJ (A.lv key es)))
def kG (P:Program) (A:cA) (C:ag):Prop:=
 ∀key ds es,C key ds=some es→∃fn c,P.funcs[A.aX key]? =some fn∧fn.body=some c∧
  ∀(w:World) (I:Nat→Prop) (μ:Nat→Option Nat) (vals:List Value),
   s5 P w I μ (bj (A.sin key) ds).hp w.heap.size (nZ P w μ (bj (A.sin key) ds).hp)→fR P A.aD w I→
   vals.length=(A.sin key).bJ.length→(∀(j:Nat) v x,vals[j]? =some v→(e8 ((A.sin key).bJ.map (·.2)) ds)[j]? =some x→ao P w I μ (bj (A.sin key) ds).hp v x)→
   Calls P (A.aX key) vals.toArray w fun e w'=> ∃v I2 bP,e= .returned v∧XO P A key w I μ ds es w' v I2 bP
theorem dL.tE {p:Place} {o:Option Nat} {blk:an} {b:Nat} (h:dL P w β hp p o blk) (ho:bt P w o blk b):
  ∃qp,hp p.id=some qp∧bt P w (β p.id) qp b∧∀e es,qp≠ .arr e es true:=by
 cases h with
 | var h=>exact ⟨_,h,.root (by simp) (ho.flat (by simp)),by simp⟩
 | arr h=>exact ⟨_,h,.root (by simp) (ho.flat (by simp)),by simp⟩
 | map h=>exact ⟨_,h,.root (by simp) (ho.flat (by simp)),by simp⟩
 | nest h=>
  refine ⟨_,h,?_,by simp⟩
  cases ho with
  | root _ hb=>exact .root (by simp) hb
  | row hb ha=>exact .row hb ha
 | row h hb ha _ _ _ _ _=>
  have:=ho.flat (by simp)
  cases this
  exact ⟨_,h,.row hb ha,by simp⟩
theorem aE.XP (S:aE P w I β hp B M w0) {id b:Nat} {blk:an} (ab:hp id=some blk) (ho:bt P w (β id) blk b) (hf: ∀e es,blk≠ .arr e es true): ¬I b:=by
 have hr:=S.h.rel id blk ab
 generalize β id=o at hr ho
 cases hr with
 | var hb _ _ hI _ _=>have:=ho.flat (by simp);rw[hb] at this;cases this;exact hI
 | dv hb=>have:=ho.flat (by simp);rw[hb] at this;cases this
 | @arr e es fz _ _ _ hb _ _ _ dR _=>
  have:=ho.flat (by simp)
  rw[hb] at this;cases this
  cases fz with
  | true=>exact absurd rfl (hf e es)
  | false=>exact dR rfl
 | dead=>exact absurd rfl ho.alive
 | map _ hb _ _ hI _ _=>have:=ho.flat (by simp);rw[hb] at this;cases this;exact hI
 | nest hb hr _=>
  cases ho with
  | root _ az=>rw[hb] at az;cases az;exact (hr _ _ _ _ .here).nI
  | row az ha=>rw[hb] at az;cases az;exact (hr _ _ _ _ ha).nI
theorem Dp {a b:List Nat} (h:vd a b=false) {x:Nat} (ha:x∈a):x∉b:=by
 intro hb
 unfold vd at h
 rw[List.any_eq_false] at h
 exact h x ha (vG hb)
theorem XQ (S:aE P w I β hp B M w0) {pl:List Place} {upd:List (Nat × an)} {o:Nat→Option Nat} (j4:(pl.map Place.id).Nodup) (Dq:vd (upd.map (·.1)) (pl.map Place.id)=false)
  (hl: ∀j blk,hp0 j=some blk→∃p,dP pl j=some p∧dL P w β hp p (o j) blk)
  (cC:(∀j blk,hp0 j=some blk→∀b,bt P w (o j) blk b→¬iz P w I β hp upd b)→∀j blk,hp0 j=some blk→dI P w (iz P w I β hp upd) o hp0 (o j) blk) (aO: ∀b,iz P w I β hp upd b→b<w.heap.size):
  s5 P w (iz P w I β hp upd) o hp0 w.heap.size (nZ P w o hp0):=by
 have cJ: ∀j blk,hp0 j=some blk→∀b,bt P w (o j) blk b→¬iz P w I β hp upd b:=by
  intro j blk hj b ho hI
  obtain ⟨p,bm,gC⟩:=hl j blk hj
  obtain ⟨qp,k1,k2,k3⟩:=gC.tE ho
  rcases hI with hI|⟨q,hq,bO,q1,q2⟩
  ·exact S.XP k1 k2 k3 hI
  ·have:=S.h.inj _ _ _ _ b q1 k1 q2 k2
   refine Dp Dq (gx.2 ⟨q,hq,rfl⟩) ?_
   rw[this]
   rw[lj] at bm
   exact gx.2 ⟨p,jm bm,rfl⟩
 refine ⟨cC cJ,fun j1 j2 b1 b2 b h1 U o1 o2=> ?_,fun j blk b h1 o1=> .inl ⟨j,blk,h1,o1⟩,aO⟩
 obtain ⟨p1,q1,q2⟩:=hl j1 b1 h1
 obtain ⟨p2,r1,r2⟩:=hl j2 b2 U
 obtain ⟨c1,x1,x2,_⟩:=q2.tE o1
 obtain ⟨c2,y1,y2,_⟩:=r2.tE o2
 have ab:=S.h.inj _ _ _ _ b x1 y1 x2 y2
 rw[lj] at q1 r1
 have m1:(pl.map Place.id)[j1]? =some p1.id:=by rw[fH,q1];rfl
 have m2:(pl.map Place.id)[j2]? =some p2.id:=by rw[fH,r1];rfl
 rw[←ab] at m2
 obtain ⟨z1,z2⟩:=br.1 m1
 obtain ⟨z3,z4⟩:=br.1 m2
 exact (List.getElem_inj j4).1 (z2.trans z4.symm)
def NB:V→Prop
 | .list .. =>False
 | .pref .. =>False
 | .agg _=>False
 | .bc _=>False
 | .fn .. =>False
 | _=>True
theorem ao.free {v:Value} {x:V} (h:ao P w I β hp v x) (hx:NB x):ao P w I' β hp v x:=by
 cases h with
 | undef=>exact .undef
 | int=>exact .int
 | bool=>exact .bool
 | str h=>exact .str h
 | list h=>exact hx.elim
 | nilS=>exact .nilS
 | agg=>exact hx.elim
 | bc=>exact hx.elim
 | c8=>exact .c8
 | fn=>exact hx.elim
 | pref=>exact hx.elim
 | dQ h=>exact .dQ h
 | fJ h=>exact .fJ h
 | jT h=>exact .jT h
 | dt h hb=>exact .dt h hb
 | whole h hb a b c=>exact .whole h hb a b c
 | dZ h hb a b c=>exact .dZ h hb a b c
 | fu h hb=>exact .fu h hb
 | sub h hb a b c=>exact .sub h hb a b c
 | ptr h hd hb=>exact .ptr h hd hb
 | jq h qk=>exact .jq h qk
 | jr h qk=>exact .jr h qk
 | row h hb a b c d=>exact .row h hb a b c d
 | cz h hb a b c d e=>exact .cz h hb a b c d e
 | dh=>exact .dh
 | gZ h=>exact .gZ h
 | cp h hb=>exact .cp h hb
theorem zo {l:LS} {ds:List V} (hs:l.safe=true):NB (im l ds):=by
 cases l<;>simp only[LS.safe] at hs<;>first|(cases hs;done)|trivial
theorem zp: ∀{ls:List LS} {ds:List V} {j:Nat} {y:V},(gT ls ds)[j]? =some y→∃l eX,l∈ls∧y=im l eX
 | [],ds,j,y,h=>by simp[gT] at h
 | l::ls,ds,j,y,h=>by
  simp only[gT] at h
  cases j with
  | zero=>simp at h;exact ⟨l,ds,rm ..,h.symm⟩
  | succ j=>
   obtain ⟨l',eX,h1,U⟩:=zp (j:=j) (by simpa using h)
   exact ⟨l',eX,kR _ h1,U⟩
theorem NC: ∀{ls:List VS} {ds:List V} {j:Nat} {y:V},(e8 ls ds)[j]? =some y→∃l eX,l∈ls∧y=ku l eX
 | [],ds,j,y,h=>by simp[e8] at h
 | l::ls,ds,j,y,h=>by
  simp only[e8] at h
  cases j with
  | zero=>simp at h;exact ⟨l,ds,rm ..,h.symm⟩
  | succ j=>
   obtain ⟨l',eX,h1,U⟩:=NC (j:=j) (by simpa using h)
   exact ⟨l',eX,kR _ h1,U⟩
theorem ND {s:VS} {ds:List V} {v:Value} (h:ao P w I β hp v (ku s ds)) (hs:s.safe=true):ao P w I' β hp v (ku s ds):=by
 cases s with
 | one l=>exact h.free (zo hs)
 | agg ls=>
  simp only[ku] at h⊢
  obtain ⟨cs,rfl,e1,e2⟩:=h.kB
  refine .agg e1 fun j v x hj hx=> ?_
  obtain ⟨l,eX,k1,rfl⟩:=zp hx
  exact (e2 j v _ hj hx).free (zo (e6.1 hs l k1))
 | bc ls=>
  simp only[ku] at h⊢
  obtain ⟨cs,rfl,e1,e2⟩:=h.te
  refine .bc e1 fun j v x hj hx=> ?_
  obtain ⟨l,eX,k1,rfl⟩:=zp hx
  exact (e2 j v _ hj hx).free (zo (e6.1 hs l k1))
 | fn f a b=>
  simp only[VS.safe,aI] at hs
  simp only[ku] at h⊢
  cases h with
  | fn a1 a2 b1 b2=>
   refine .fn a1 (fun j v x hj hx=> ?_) b1 (fun j v x hj hx=> ?_)
   ·obtain ⟨l,eX,k1,rfl⟩:=zp hx
    exact (a2 j v _ hj hx).free (zo (e6.1 hs.1 l k1))
   ·obtain ⟨l,eX,k1,rfl⟩:=zp hx
    exact (b2 j v _ hj hx).free (zo (e6.1 hs.2 l k1))
 | pref ts ls=>cases hs
theorem Pure.scalar {t:TypeId} {v:Value} {x:V} (h:Pure P w I t v x) (hn: ∀e,P.underlying t≠some (.slice e)):Pure P w I' t v x:=by
 cases h with
 | int h=>exact .int h
 | bool h=>exact .bool h
 | str h hl=>exact .str h hl
 | nil h=>exact absurd h (hn _)
 | emp h=>exact absurd h (hn _)
 | list g h=>exact absurd h (hn _)
theorem XR {e t:TypeId} {j:Nat} (h:yw P e=true) (ht:(aS P e)[j]? =some t) (e':TypeId):P.underlying t≠some (.slice e'):=by
 intro hu
 have U:=e6.1 h t (jm ht)
 rw[hu] at U
 cases U
theorem XS {o:Option Nat} {b:BS} {ds:List V} (h:dI P w I2 β hp o (fp b ds)) (hs:b.safe P=true) (hi: ∀b,I b→I2 b):dI P w I β hp o (fp b ds):=by
 cases b with
 | dead=>exact .dead
 | var T0 ls=>
  simp only[fp] at h⊢
  cases h with
  | var hb hh aU hI hx fL=>
   refine .var hb hh aU (fun h=>hI (hi _ h)) (fun j v x hj cu=> ?_) fL
   obtain ⟨l,eX,k1,rfl⟩:=NC cu
   exact ND (hx j v _ hj cu) (e6.1 hs l k1)
 | arr e fz=>
  simp only[BS.safe,aI,ki] at hs
  obtain ⟨rfl,zn⟩:=hs
  simp only[fp] at h⊢
  generalize (V.nth ds 0).toList=es at h⊢
  cases h with
  | dv hb=>exact .dv hb
  | arr a1 a2 a3 a4 a5 a6 a7=>
   refine .arr a1 a2 a3 a4 (fun h=>by cases h) (fun _ h=>a6 rfl (hi _ h)) fun i j x t' y1 y2 y3=> ?_
   obtain ⟨v,z1,z2⟩:=a7 i j x t' y1 y2 y3
   exact ⟨v,z1,z2.scalar (XR zn y2)⟩
 | nest e=>
  simp only[fp] at h⊢
  generalize (V.nth ds 0).toList=es at h⊢
  cases h with
  | nest hb cD nS=>
   refine .nest hb (fun q b' e1 m1 hq=> ?_) nS
   obtain ⟨ok,⟨Ca,c1,c2,c3⟩,nI⟩:=cD q b' e1 m1 hq
   refine ⟨ok,⟨Ca,c1,c2,fun i j x t' y1 y2 y3=> ?_⟩,fun h=>nI (hi _ h)⟩
   obtain ⟨v,z1,z2⟩:=c3 i j x t' y1 y2 y3
   refine ⟨v,z1,?_⟩
   generalize bH P e1 x j=y at z2⊢
   cases z2 with
   | ft a p=>
    refine .ft a (p.scalar fun e hu=> ?_)
    unfold fm at a
    rw[hu] at a
    cases a
   | emp a b=>exact .emp a b
   | row a b c d e=>exact .row a b c d e
 | map t=>
  simp only[fp] at h⊢
  cases h with
  | map a1 a2 a3 a4 a5 a6 a7=>exact .map a1 a2 a3 a4 (fun h=>a5 (hi _ h)) a6 a7
theorem HV: ∀{l:List BS} {ds:List V} {j:Nat} {y:an},(ej l ds)[j]? =some y→∃b eX,l[j]? =some b∧y=fp b eX
 | [],ds,j,y,h=>by simp[ej] at h
 | b::l,ds,j,y,h=>by
  simp only[ej] at h
  cases j with
  | zero=>simp at h;exact ⟨b,ds,rfl,h.symm⟩
  | succ j=>
   obtain ⟨b',eX,h1,U⟩:=HV (j:=j) (by simpa using h)
   exact ⟨b',eX,by simpa using h1,U⟩
theorem NF: ∀{l:List (Nat × VS)} {ds:List V} {q:Nat × V},q∈eT l ds→∃s eX,(q.1,s)∈l∧q.2=ku s eX
 | [],ds,q,h=>by simp[eT] at h
 | (k,s)::l,ds,q,h=>by
  simp only[eT,df] at h
  rcases h with h|h
  ·subst h;exact ⟨s,ds,rm ..,rfl⟩
  ·obtain ⟨s',eX,h1,U⟩:=NF h
   exact ⟨s',eX,kR _ h1,U⟩
theorem XT {S:Shape} {es:List V} (hs:S.safe P=true) (hi: ∀b,I b→I2 b) {N:Nat→Prop} {st:Start} (h:aE P w' I2 bP (bj S es).hp B N st) (h0: ∀b,I b→st.I b):
  aE P w' I bP (bj S es).hp B N st∧∀v,ao P w' I2 bP (bj S es).hp v (oN (eT S.bJ es))→ao P w' I bP (bj S es).hp v (oN (eT S.bJ es)):=by
 unfold Shape.safe at hs
 simp only[aI] at hs
 obtain ⟨iy,mQ⟩:=hs
 have one: ∀q∈eT S.bJ es,∀v,ao P w' I2 bP (bj S es).hp v q.2→ao P w' I bP (bj S es).hp v q.2:=by
  intro q hq v hv
  obtain ⟨s,eX,k1,k2⟩:=NF hq
  rw[k2] at hv⊢
  exact ND hv (e6.1 iy _ k1)
 refine ⟨⟨⟨fun j blk hj=> ?_,h.h.inj,h.h.own,fun b hb=>h.h.js b (hi b hb)⟩,h.b6,h.size,fun b hb=> .inl (h0 b hb),h.io⟩,fun v hv=> ?_⟩
 ·have hr:=h.h.rel j blk hj
  have fZ:=hj
  simp only[bj,mk,gJ] at fZ
  obtain ⟨b,eX,k1,rfl⟩:=HV fZ
  exact XS hr (e6.1 mQ _ (jm k1)) hi
 ·generalize eT S.bJ es=l at one hv⊢
  match l,one,hv with
  | [],_,hv=>
   simp only[oN,gy] at hv⊢
   obtain ⟨cs,rfl,e1,e2⟩:=hv.te
   exact .bc e1 fun j v x _ hx=>by simp at hx
  | [q],one,hv=>exact one q (dW.2 rfl) v hv
  | q::q2::l,one,hv=>
   simp only[oN] at hv⊢
   obtain ⟨cs,rfl,e1,e2⟩:=hv.te
   refine .bc e1 fun j v x hj hx=> ?_
   obtain ⟨y,hy,rfl⟩:=gx.1 (jm hx)
   exact one y hy v (e2 j v _ hj hx)
end
section
variable {P:Program} {A:cA} {w w':World} {I I' I2:Nat→Prop} {μ β β' bP:Nat→Option Nat} {hp hp' hp0 bm:Nat→Option an} {C:ag} {B:Nat} {M:Nat→Prop} {w0:Start}
inductive fP (σ:List Place):an→an→Prop
 | dead:fP σ .dead .dead
 | var {T:TypeId} {cs:List V}:fP σ (.var T cs) (.var T (cs.map (Cn σ)))
 | arr {e:TypeId} {es:List V} {fz:Bool}:fP σ (.arr e es fz) (.arr e es fz)
 | nest {e:TypeId} {es:List V} {v1 v2:List Nat}:fP σ (.nest e es v1) (.nest e es v2)
 | map {t:TypeId} {es:List V}:fP σ (.map t es) (.map t es)
theorem fP.of (σ:List Place) (b:an):fP σ b (sV σ b):=by
 cases b with
 | dead=>exact .dead
 | var T cs=>exact .var
 | arr e es fz=>exact .arr
 | nest e es v=>exact .nest
 | map t es=>exact .map
theorem NG {σ:List Place}: ∀{pl:List Place} {bs:List an} {acc:List (Nat × an)} {k:List (Nat × an)→Rd R} {r:R} {rd:List Nat},(pR σ pl bs acc k).run C hp=some (r,rd)→
  pl.length≤bs.length∧∃bk eG,(k bk).run C hp=some (r,eG)∧(∀q∈bk,q∈acc∨∃(j:Nat) (b:an),pl[j]? =some (.blk q.1)∧bs[j]? =some b∧fP σ b q.2∧((∃e es v2,q.2= .nest e es v2)→∃e es aq e' aH,hp q.1=some (.nest e es aq)∧q.2= .nest e' aH (aq.map (· +1))))∧
   (∀q∈acc,q∈bk)∧∀(j:Nat) p,pl[j]? =some p→∃id b,p= .blk id∧(id,b)∈bk
 | [],bs,acc,k,r,rd,h=>⟨kh _,acc,rd,by simpa only[pR] using h,fun q hq=> .inl hq,fun q hq=>hq,fun j p hp=>by simp at hp⟩
 | .row _ _ _::pl,bs,acc,k,r,rd,h=>by
  cases bs<;>(simp only[pR] at h;cases h)
 | .blk id::pl,[],acc,k,r,rd,h=>by simp only[pR] at h;cases h
 | .blk id::pl,b::bs,acc,k,r,rd,h=>by
  have fin: ∀{b2:an} {iZ:List Nat},(pR σ pl bs ((id,b2)::acc) k).run C hp=some (r,iZ)→fP σ b b2→((∃e es v2,b2= .nest e es v2)→∃e es aq e' aH,hp id=some (.nest e es aq)∧b2= .nest e' aH (aq.map (· +1)))→
    (Place.blk id::pl).length≤(b::bs).length∧∃bk eG,(k bk).run C hp=some (r,eG)∧(∀q∈bk,q∈acc∨∃(j:Nat) (b':an),(Place.blk id::pl)[j]? =some (.blk q.1)∧(b::bs)[j]? =some b'∧fP σ b' q.2∧((∃e es v2,q.2= .nest e es v2)→∃e es aq e' aH,hp q.1=some (.nest e es aq)∧q.2= .nest e' aH (aq.map (· +1))))∧
     (∀q∈acc,q∈bk)∧∀(j:Nat) p,(Place.blk id::pl)[j]? =some p→∃id b,p= .blk id∧(id,b)∈bk:=by
   intro b2 iZ h1 hb hn
   obtain ⟨a0,bk,eG,a1,a2,a3,a4⟩:=NG h1
   refine ⟨by simp only[List.length_cons];omega,bk,eG,a1,fun q hq=> ?_,fun q hq=>a3 q (kR _ hq),fun j p hj=> ?_⟩
   ·rcases a2 q hq with h|⟨j,b',k1,k2,k3,k4⟩
    ·rcases df.1 h with e|h
     ·subst e;exact .inr ⟨0,b,rfl,rfl,hb,hn⟩
     ·exact .inl h
    ·exact .inr ⟨j+1,b',by simpa using k1,by simpa using k2,k3,k4⟩
   ·cases j with
    | zero=>simp at hj;subst hj;exact ⟨id,b2,rfl,a3 _ (rm ..)⟩
    | succ j=>exact a4 j p (by simpa using hj)
  cases b with
  | nest e es v=>
   simp only[pR] at h
   obtain ⟨l,h⟩:=run_get h
   cases ab:hp id with
   | none=>rw[ab] at h;cases h
   | some blk=>
    rw[ab] at h
    cases blk with
    | nest e0 GN aq=>exact fin h .nest fun _=>⟨e0,GN,aq,e,es,ab,rfl⟩
    | _=>cases h
  | dead=>exact fin h (.of σ _) fun ⟨_,_,_,h⟩=>by cases h
  | var T cs=>exact fin h (.of σ _) fun ⟨_,_,_,h⟩=>by cases h
  | arr e es fz=>exact fin h (.of σ _) fun ⟨_,_,_,h⟩=>by cases h
  | map t es=>exact fin h (.of σ _) fun ⟨_,_,_,h⟩=>by cases h
theorem NH {σ:List Place}: ∀{bs:List an} {n:Nat} {q:Nat × an},q∈pS σ n bs→∃i b,bs[i]? =some b∧q=(n+i,sV σ b)
 | [],n,q,h=>by simp[pS] at h
 | b::bs,n,q,h=>by
  simp only[pS,df] at h
  rcases h with h|h
  ·exact ⟨0,b,rfl,h⟩
  ·obtain ⟨i,b',h1,U⟩:=NH h
   exact ⟨i+1,b',by simpa using h1,by rw[U];congr 1;omega⟩
theorem NI {σ:List Place}: ∀{bs:List an} {n i:Nat} {b:an},bs[i]? =some b→(n+i,sV σ b)∈pS σ n bs
 | [],n,i,b,h=>by simp at h
 | b0::bs,n,i,b,h=>by
  simp only[pS,df]
  cases i with
  | zero=>simp at h;subst h;exact .inl rfl
  | succ i=>exact .inr (by rw[show n+(i+1)=n+1+i by omega];exact NI (by simpa using h))
theorem Dr: ∀{k n i:Nat},i<k→(rC n k)[i]? =some (.blk (n+i))
 | 0,n,i,h=>by omega
 | k+1,n,0,h=>rfl
 | k+1,n,i+1,h=>by
  simp only[rC,List.getElem?_cons_succ]
  rw[Dr (by omega)]
  congr 2
  omega
theorem HW: ∀{k n:Nat},(rC n k).length=k
 | 0,_=>rfl
 | k+1,n=>by simp[rC,HW]
theorem NJ: ∀{bs:List (Nat × an)} {k:Rd R} {r:R} {rd:List Nat},(Co bs k).run C hp=some (r,rd)→(∀q∈bs,hp q.1=none)∧∃eG,k.run C hp=some (r,eG)
 | [],k,r,rd,h=>⟨by simp,rd,h⟩
 | (id,b)::l,k,r,rd,h=>by
  simp only[Co] at h
  obtain ⟨l1,h⟩:=run_get h
  cases ab:hp id with
  | some blk=>rw[ab] at h;cases h
  | none=>
   rw[ab] at h
   obtain ⟨h1,U⟩:=NJ h
   refine ⟨fun q hq=> ?_,U⟩
   rcases df.1 hq with e|hq
   ·subst e;exact ab
   ·exact h1 q hq
structure o0 (σ:List Place) (bP:Nat→Option Nat) (bm:Nat→Option an) (β':Nat→Option Nat) (hp':Nat→Option an):Prop where
 blk: ∀j b,bm j=some b→∃id b',dP σ j=some (.blk id)∧hp' id=some b'∧fP σ b b'∧(b≠ .dead→β' id=bP j)
 none: ∀j,bm j=none→dP σ j=none
 ahq: ∀j id ver path,dP σ j≠some (.row id ver path)
theorem o0.leaf {σ:List Place} (T:o0 σ bP bm β' hp') {v:Value} {x:V} (h:ao P w I bP bm v x):ao P w I β' hp' v (jR σ x):=by
 have look: ∀{j b},bm j=some b→∃id b',dP σ j=some (.blk id)∧hp' id=some b'∧fP σ b b'∧(b≠ .dead→β' id=bP j):=fun h=>T.blk _ _ h
 cases h with
 | undef=>exact .undef
 | int=>exact .int
 | bool=>exact .bool
 | str h=>exact .str h
 | list h=>exact .list h
 | nilS=>exact .nilS
 | agg=>exact .undef
 | bc=>exact .undef
 | c8=>exact .c8
 | fn=>exact .undef
 | pref a b c=>exact .pref a b c
 | @dQ _ e j h=>
  obtain ⟨id,b',k1,k2,k3,k4⟩:=look h
  simp only[jR,k1]
  cases k3
  exact .dQ k2
 | @fJ _ e j _ _ h=>
  obtain ⟨id,b',k1,k2,k3,k4⟩:=look h
  simp only[jR,k1]
  cases k3
  exact .fJ k2
 | @jT _ j _ _ h=>
  obtain ⟨id,b',k1,k2,k3,k4⟩:=look h
  simp only[jR,k1]
  cases k3
  exact .jT k2
 | @dt e j fz _ h hb=>
  obtain ⟨id,b',k1,k2,k3,k4⟩:=look h
  simp only[jR,k1]
  cases k3
  exact .dt k2 ((k4 (by simp)).trans hb)
 | @whole e j es fz b cap h hb a1 a2 a3=>
  obtain ⟨id,b',k1,k2,k3,k4⟩:=look h
  simp only[jR,k1]
  cases k3
  exact .whole k2 ((k4 (by simp)).trans hb) a1 a2 a3
 | @dZ e j es aq b cap h hb a1 a2 a3=>
  obtain ⟨id,b',k1,k2,k3,k4⟩:=look h
  simp only[jR,k1]
  cases k3
  exact .dZ k2 ((k4 (by simp)).trans hb) a1 a2 a3
 | @fu e j fz _ h hb=>
  obtain ⟨id,b',k1,k2,k3,k4⟩:=look h
  simp only[jR,k1]
  cases k3
  exact .fu k2 ((k4 (by simp)).trans hb)
 | @sub e j off len es fz b o cap h hb a1 a2 a3=>
  obtain ⟨id,b',k1,k2,k3,k4⟩:=look h
  simp only[jR,k1]
  cases k3
  exact .sub k2 ((k4 (by simp)).trans hb) a1 a2 a3
 | @ptr j i c b blk h hd hb=>
  obtain ⟨id,b',k1,k2,k3,k4⟩:=look h
  simp only[jR,k1]
  have hs:blk.sz P=b'.sz P:=by cases k3<;>rfl
  rw[hs]
  exact .ptr k2 (by intro e;subst e;cases k3;exact hd rfl) ((k4 hd).trans hb)
 | jq=>exact .undef
 | jr=>exact .undef
 | row=>exact .undef
 | cz=>exact .undef
 | dh=>exact .dh
 | @gZ _ t j h=>
  obtain ⟨id,b',k1,k2,k3,k4⟩:=look h
  simp only[jR,k1]
  cases k3
  exact .gZ k2
 | @cp t j b es h hb=>
  obtain ⟨id,b',k1,k2,k3,k4⟩:=look h
  simp only[jR,k1]
  cases k3
  exact .cp k2 ((k4 (by simp)).trans hb)
theorem o0.one {σ:List Place} (T:o0 σ bP bm β' hp') {v:Value} {x:V} (h:ao P w I bP bm v x):ao P w I β' hp' v (GB σ x):=by
 cases x with
 | agg xs=>
  obtain ⟨cs,rfl,e1,e2⟩:=h.kB
  exact .agg (by simpa using e1) fun j v y hj hy=>by
   rw[fH] at hy
   cases hx:xs[j]? with
   | none=>rw[hx] at hy;cases hy
   | some x=>rw[hx] at hy;cases hy;exact T.leaf (e2 j v x hj hx)
 | fn f a b=>
  cases h with
  | fn a1 a2 b1 b2=>
   refine .fn (by simpa using a1) (fun j v y hj hy=> ?_) (by simpa using b1) (fun j v y hj hy=> ?_)
   ·rw[fH] at hy
    cases hx:a[j]? with
    | none=>rw[hx] at hy;cases hy
    | some x=>rw[hx] at hy;cases hy;exact T.leaf (a2 j v x hj hx)
   ·rw[fH] at hy
    cases hx:b[j]? with
    | none=>rw[hx] at hy;cases hy
    | some x=>rw[hx] at hy;cases hy;exact T.leaf (b2 j v x hj hx)
 | _=>exact T.leaf h
theorem o0.val {σ:List Place} (T:o0 σ bP bm β' hp') {v:Value} {x:V} (h:ao P w I bP bm v x):ao P w I β' hp' v (Cn σ x):=by
 cases x with
 | bc xs=>
  obtain ⟨cs,rfl,e1,e2⟩:=h.te
  exact .bc (by simpa using e1) fun j v y hj hy=>by
   rw[fH] at hy
   cases hx:xs[j]? with
   | none=>rw[hx] at hy;cases hy
   | some x=>rw[hx] at hy;cases hy;exact T.one (e2 j v x hj hx)
 | _=>exact T.one h
theorem o0.NK {σ:List Place} (T:o0 σ bP bm β' hp') {o:Option Nat} {b b':an} (h:dI P w I bP bm o b) (hb:fP σ b b'):dI P w I β' hp' o b':=by
 cases hb with
 | dead=>exact .dead
 | var=>
  cases h with
  | var a1 a2 a3 a4 a5 a6=>
   refine .var a1 a2 (by simpa using a3) a4 (fun j v y hj hy=> ?_) a6
   rw[fH] at hy
   cases hx:(_:List V)[j]? with
   | none=>rw[hx] at hy;cases hy
   | some x=>rw[hx] at hy;cases hy;exact T.val (a5 j v x hj hx)
 | arr=>
  cases h with
  | dv hb=>exact .dv hb
  | arr a1 a2 a3 a4 a5 a6 a7=>exact .arr a1 a2 a3 a4 a5 a6 a7
 | nest=>
  cases h with
  | nest a1 a2 a3=>exact .nest a1 a2 a3
 | map=>
  cases h with
  | map a1 a2 a3 a4 a5 a6 a7=>exact .map a1 a2 a3 a4 a5 a6 a7
theorem fP.tE {σ:List Place} {o:Option Nat} {b b':an} (h:fP σ b b') {m:Nat} (ho:bt P w o b' m):bt P w o b m:=by
 cases h with
 | dead=>exact absurd rfl ho.alive
 | var=>exact .root (by simp) (ho.flat (by simp))
 | arr=>exact .root (by simp) (ho.flat (by simp))
 | map=>exact .root (by simp) (ho.flat (by simp))
 | nest=>
  cases ho with
  | root _ hb=>exact .root (by simp) hb
  | row hb ha=>exact .row hb ha
theorem fP.NL {σ:List Place} {b b':an} (h:fP σ b b'):b'≠ .dead→b≠ .dead:=by
 intro h1 U;subst U;cases h;exact h1 rfl
end
section
variable {P:Program} {A:cA} {w w':World} {I I' I2:Nat→Prop} {μ β β' bP:Nat→Option Nat} {hp hp' hp0 bm:Nat→Option an} {C:ag} {B:Nat} {M:Nat→Prop} {w0:Start}
theorem NM: ∀{vs:List Nat} {k:Nat},k<vs.length→bA (vs.map (· +1)) k=bA vs k+1
 | [],k,h=>by simp at h
 | v::vs,0,h=>rfl
 | v::vs,k+1,h=>by simp only[cO,bA];exact NM (by simpa using h)
theorem NN: ∀{vs:List Nat} {k:Nat},bA vs k≤bA (vs.map (· +1)) k
 | [],k=>by simp[bA]
 | v::vs,0=>by simp[bA]
 | v::vs,k+1=>by simp only[cO,bA];exact NN
def zq (hp:Nat→Option an) (q:Nat × an):Prop:=(∃e es v2,q.2= .nest e es v2)→∃e es aq e' aH,hp q.1=some (.nest e es aq)∧q.2= .nest e' aH (aq.map (· +1))
theorem dL.HX {id:Nat} {o:Option Nat} {blk:an} (h:dL P w β hp (.blk id) o blk):o=β id∧∃b0,hp id=some b0∧b0≠ .dead:=by
 cases h with
 | var h=>exact ⟨rfl,_,h,by simp⟩
 | arr h=>exact ⟨rfl,_,h,by simp⟩
 | nest h=>exact ⟨rfl,_,h,by simp⟩
 | map h=>exact ⟨rfl,_,h,by simp⟩
theorem dL.XU {id:Nat} {o:Option Nat} {c b b' b0:an} {σ:List Place} (h:dL P w β hp (.blk id) o c) (h0:hp id=some b0) (hle:c.le b) (hb:fP σ b b') (hn:zq hp (id,b')):b0.le b':=by
 cases h with
 | var h=>
  rw[h] at h0;cases h0
  cases hb with
  | dead=>trivial
  | var=>trivial
  | arr=>exact hle.elim
  | nest=>exact hle.elim
  | map=>exact hle.elim
 | arr h=>
  rw[h] at h0;cases h0
  cases hb with
  | dead=>trivial
  | var=>exact hle.elim
  | arr=>exact hle
  | nest=>exact hle.elim
  | map=>exact hle.elim
 | map h=>
  rw[h] at h0;cases h0
  cases hb with
  | dead=>trivial
  | map=>exact hle
  | _=>exact hle.elim
 | nest h=>
  rw[h] at h0;cases h0
  cases hb with
  | dead=>trivial
  | var=>exact hle.elim
  | arr=>exact hle
  | map=>exact hle.elim
  | @nest e es v1 v2=>
   obtain ⟨e1,cg,tF,e2,bS,k1,k2⟩:=hn ⟨_,_,_,rfl⟩
   cases k2
   change hp id=_ at k1
   rw[h] at k1;cases k1
   exact ⟨hle.1,hle.2.1,by simp,fun k=>NN⟩
theorem dL.other {p:Place} {o:Option Nat} {blk:an} (h:dL P w β hp p o blk) (he:hp' p.id=hp p.id):dL P w β hp' p o blk:=by
 cases h with
 | var h=>exact .var (he.trans h)
 | arr h=>exact .arr (he.trans h)
 | nest h=>exact .nest (he.trans h)
 | map h=>exact .map (he.trans h)
 | row h a b c d e f g=>exact .row (he.trans h) a b c d e f g
open Classical in
theorem NO (S:aE P w I β hp B M w0) {pl:List Place} {o:Nat→Option Nat} {bs:List an} {nb:Nat} {bk fr:List (Nat × an)} {σ:List Place} (qq:σ=pl++rC nb (bs.length-pl.length)) (zr:fr=pS σ nb (bs.drop pl.length))
  (j4:(pl.map Place.id).Nodup) (qa:pl.length≤bs.length)
  (o4: ∀(j:Nat) p,pl[j]? =some p→∃id b,p= .blk id∧(id,b)∈bk) (Ds: ∀q∈bk,∃(j:Nat) (b:an),pl[j]? =some (.blk q.1)∧bs[j]? =some b∧fP σ b q.2∧zq hp q)
  (hl: ∀j blk,hp0 j=some blk→∃p,dP pl j=some p∧dL P w β hp p (o j) blk) (hd: ∀j,j<pl.length→∃blk,hp0 j=some blk)
  (Sc:aE P w' I2 bP (jn bs) w.heap.size (nZ P w o hp0) ⟨w,I⟩) (vX:kF w I o hp0 w' I2 bP (jn bs)) (rS: ∀q∈fr,hp q.1=none):
  ∃β',Le P w I β hp w' I2 β' (bE hp (fr++bk))∧aE P w' I2 β' (bE hp (fr++bk)) B M w0∧o0 σ bP (jn bs) β' (bE hp (fr++bk)):=by
 generalize HY:bE hp (fr++bk)=gC
 let β':Nat→Option Nat:=fun n=>if∃q∈fr,q.1=n then bP (pl.length+(n-nb)) else β n
 have NP: ∀(j:Nat) id,pl[j]? =some (.blk id)→∃c,hp0 j=some c∧dL P w β hp (.blk id) (o j) c:=by
  intro j id hj
  obtain ⟨c,hc⟩:=hd j (br.1 hj).1
  obtain ⟨p,h1,U⟩:=hl j c hc
  rw[lj,hj] at h1
  cases h1
  exact ⟨c,hc,U⟩
 have uniq: ∀(j1 j2:Nat) id,pl[j1]? =some (.blk id)→pl[j2]? =some (.blk id)→j1=j2:=by
  intro j1 j2 id h1 U
  have m1:(pl.map Place.id)[j1]? =some id:=by rw[fH,h1];rfl
  have m2:(pl.map Place.id)[j2]? =some id:=by rw[fH,U];rfl
  obtain ⟨z1,z2⟩:=br.1 m1
  obtain ⟨z3,z4⟩:=br.1 m2
  exact (List.getElem_inj j4).1 (z2.trans z4.symm)
 have cls: ∀id,(∃i b,id=nb+i∧bs[pl.length+i]? =some b∧gC id=some (sV σ b)∧hp id=none∧β' id=bP (pl.length+i))∨
   (∃(j:Nat) (b b' c b0:an),pl[j]? =some (.blk id)∧bs[j]? =some b∧hp0 j=some c∧dL P w β hp (.blk id) (o j) c∧hp id=some b0∧b0.le b'∧gC id=some b'∧fP σ b b'∧zq hp (id,b')∧β' id=β id∧c.le b∧(b≠ .dead→bP j=β id))∨
   (gC id=hp id∧(∀j:Nat,pl[j]? ≠some (.blk id))∧β' id=β id):=by
  intro id
  by_cases hm: ∃b,(id,b)∈fr++bk
  ·obtain ⟨b,hm⟩:=hm
   obtain ⟨b',CB,he⟩:=Cy (hp:=hp) hm
   rw[HY] at he
   rcases eh.1 CB with h|h
   ·have h0:=rS _ h
    have n0:β' id=bP (pl.length+(id-nb)):=aj ⟨_,h,rfl⟩
    rw[zr] at h
    obtain ⟨i,b1,k1,k2⟩:=NH h
    rw[gQ] at k1
    cases k2
    exact .inl ⟨i,b1,rfl,k1,he,h0,by rw[n0];congr 2;omega⟩
   ·obtain ⟨j,b1,q1,q2,q3,q4⟩:=Ds _ h
    obtain ⟨c,c1,c2⟩:=NP j id q1
    obtain ⟨c3,b0,c4,c5⟩:=c2.HX
    obtain ⟨b2,d1,d2,d3⟩:=vX.blk j c c1
    rw[gJ,q2] at d1
    cases d1
    refine .inr (.inl ⟨j,b1,b',c,b0,q1,q2,c1,c2,c4,c2.XU c4 d2 q3 q4,he,q3,q4,ai ?_,d2,fun h=>(d3 h).trans c3⟩)
    rintro ⟨q,hq,XV⟩
    rw[←XV,rS q hq] at c4
    cases c4
  ·refine .inr (.inr ⟨?_,fun j hj=> ?_,ai ?_⟩)
   ·rcases ta (hp:=hp) (l:=fr++bk) (id:=id) with h|⟨b,hb,_⟩
    ·rw[HY] at h;exact h
    ·exact absurd ⟨b,hb⟩ hm
   ·obtain ⟨aC,b,e,hb⟩:=o4 j _ hj
    cases e
    exact hm ⟨b,eh.2 (.inr hb)⟩
   ·rintro ⟨q,hq,rfl⟩
    exact hm ⟨q.2,eh.2 (.inl hq)⟩
 have NQ: ∀b,nZ P w o hp0 b→∃(j id:Nat) (b1:an),pl[j]? =some (.blk id)∧hp id=some b1∧bt P w (β id) b1 b∧∀e es,b1≠ .arr e es true:=by
  rintro b ⟨j,c,hc,ho⟩
  obtain ⟨p,h1,U⟩:=hl j c hc
  rw[lj] at h1
  obtain ⟨id,b2,rfl,_⟩:=o4 j p h1
  obtain ⟨b1,k1,k2,k3⟩:=U.tE ho
  exact ⟨j,id,b1,h1,k1,k2,k3⟩
 have other: ∀id blk b,hp id=some blk→bt P w (β id) blk b→(∀j:Nat,pl[j]? ≠some (.blk id))→¬nZ P w o hp0 b∧w'.heap[b]? =w.heap[b]? ∧(I2 b→I b):=by
  intro id blk b e1 e3 e4
  have lW: ¬nZ P w o hp0 b:=by
   intro hx
   obtain ⟨j,aC,b1,i1,i2,i3,_⟩:=NQ b hx
   have:=S.h.inj id aC _ _ b e1 i2 e3 i3
   subst this
   exact e4 j i1
  have aO:=S.h.lt e1 e3
  refine ⟨lW,Sc.b6 b aO lW,fun h=> ?_⟩
  rcases Sc.new b h with h|h|h
  ·exact h
  ·exact absurd h lW
  ·omega
 have rN:o0 σ bP (jn bs) β' gC:=by
  refine ⟨fun j b hj=> ?_,fun j hj=> ?_,fun j id ver path hj=> ?_⟩
  ·rw[gJ] at hj
   by_cases b8:j<pl.length
   ·obtain ⟨id,b1,e,lg⟩:=o4 j _ (bx b8)
    have Dt:pl[j]? =some (.blk id):=by rw[bx b8,e]
    have HZ:dP σ j=some (.blk id):=by rw[qq];exact nY (by rw[lj];exact Dt)
    rcases cls id with ⟨i,b2,c1,c2,c3,c4,c5⟩|⟨j',b2,b',c,b0,q1,q2,q3,q4,q5,q6,q7,q8,q9,o5,vY,qs⟩|⟨c1,c2,c3⟩
    ·obtain ⟨c,d1,d2⟩:=NP j id Dt
     obtain ⟨_,b0,d3,_⟩:=d2.HX
     rw[d3] at c4;cases c4
    ·obtain rfl:=uniq _ _ _ q1 Dt
     rw[hj] at q2;cases q2
     exact ⟨id,b',HZ,q7,q8,fun h=>o5.trans (qs h).symm⟩
    ·exact absurd Dt (c2 j)
   ·have NR:=(br.1 hj).1
    have HZ:dP σ j=some (.blk (nb+(j-pl.length))):=by
     rw[qq,lj,ik (by omega)]
     exact Dr (by omega)
    have hm:(nb+(j-pl.length),sV σ b)∈fr:=by
     rw[zr]
     refine NI ?_
     rw[gQ,show pl.length+(j-pl.length)=j by omega]
     exact hj
    rcases cls (nb+(j-pl.length)) with ⟨i,b2,c1,c2,c3,c4,c5⟩|⟨j',b2,b',c,b0,q1,q2,q3,q4,q5,q6,q7,q8,q9,o5,vY,qs⟩|⟨c1,c2,c3⟩
    ·have hi:i=j-pl.length:=by omega
     subst hi
     rw[show pl.length+(j-pl.length)=j by omega] at c2 c5
     rw[hj] at c2;cases c2
     exact ⟨_,_,HZ,c3,.of σ _,fun _=>c5⟩
    ·rw[rS _ hm] at q5;cases q5
    ·obtain ⟨b',CB,he⟩:=Cy (hp:=hp) (l:=fr++bk) (eh.2 (.inl hm))
     rw[HY,c1,rS _ hm] at he
     cases he
  ·rw[gJ] at hj
   have:=List.getElem?_eq_none_iff.1 hj
   rw[qq,lj,List.getElem?_eq_none_iff,cv,HW]
   omega
  ·rw[qq,lj] at hj
   by_cases b8:j<pl.length
   ·rw[ij b8] at hj
    obtain ⟨aC,b1,e,_⟩:=o4 j _ hj
    cases e
   ·have NR:j-pl.length<bs.length-pl.length:=by
     have:=(br.1 hj).1
     rw[cv,HW] at this
     omega
    rw[ik (by omega),Dr NR] at hj
    cases hj
 have hle:Le P w I β hp w' I2 β' gC:=by
  refine ⟨vX.c9,vX.b6,fun id blk ab=> ?_,fun id blk blk' b ab bB qt hb=> ?_,fun id e es aq e' aH vers' b q i c t v e1 l ab bB hb aO hv ht hc=> ?_⟩
  ·rcases cls id with ⟨i,b2,c1,c2,c3,c4,c5⟩|⟨j',b2,b',c,b0,q1,q2,q3,q4,q5,q6,q7,q8,q9,o5,vY,qs⟩|⟨c1,c2,c3⟩
   ·rw[ab] at c4;cases c4
   ·rw[ab] at q5;cases q5
    exact ⟨b',q7,q6,fun _=>o5⟩
   ·exact ⟨blk,c1.trans ab,an.le_refl _,fun _=>c3⟩
  ·rcases cls id with ⟨i,b2,c1,c2,c3,c4,c5⟩|⟨j',b2,b',c,b0,q1,q2,q3,q4,q5,q6,q7,q8,q9,o5,vY,qs⟩|⟨c1,c2,c3⟩
   ·rw[ab] at c4;cases c4
   ·rw[q7] at bB;cases bB
    exact vX.size j' c b2 b q3 (by rw[gJ];exact q2) (q8.NL qt) (q4.HX.1.trans hb)
   ·rw[c1,ab] at bB
    cases bB
    simp only[bsize,(other id blk b ab (.root qt hb) c2).2.1]
  ·rcases cls id with ⟨i2,b2,c1,c2,c3,c4,c5⟩|⟨j',b2,b',c',b0,q1,q2,q3,q4,q5,q6,q7,q8,q9,o5,vY,qs⟩|⟨c1,c2,c3⟩
   ·rw[ab] at c4;cases c4
   ·rw[q7] at bB;cases bB
    obtain ⟨_,_,tF,_,_,k1,k2⟩:=q9 ⟨_,_,_,rfl⟩
    change hp id=_ at k1
    rw[ab] at k1;cases k1
    cases k2
    rw[NM aO] at hv
    omega
   ·rw[c1,ab] at bB
    cases bB
    exact ⟨l,rfl,hc.mono fun _ _ _ _ h=>(other id _ _ ab (.row hb h) c2).2.1⟩
 have place: ∀id blk b,gC id=some blk→bt P w' (β' id) blk b→(∃j c,jn bs j=some c∧bt P w' (bP j) c b∧dP σ j=some (.blk id))∨(b<w.heap.size∧¬nZ P w o hp0 b∧hp id=some blk∧bt P w (β id) blk b):=by
  intro id blk b e1 e3
  rcases cls id with ⟨i,b2,c1,c2,c3,c4,c5⟩|⟨j',b2,b',c,b0,q1,q2,q3,q4,q5,q6,q7,q8,q9,o5,vY,qs⟩|⟨c1,c2,c3⟩
  ·rw[c3] at e1;cases e1
   rw[c5] at e3
   refine .inl ⟨pl.length+i,b2,by rw[gJ];exact c2,(fP.of σ b2).tE e3,?_⟩
   have:=(br.1 c2).1
   rw[qq,lj,ik (by omega),Dr (by omega),c1]
   congr 3
   omega
  ·rw[q7] at e1;cases e1
   have qt:b2≠ .dead:=q8.NL e3.alive
   rw[o5,←qs qt] at e3
   exact .inl ⟨j',b2,by rw[gJ];exact q2,q8.tE e3,by rw[qq];exact nY (by rw[lj];exact q1)⟩
  ·rw[c1] at e1
   rw[c3] at e3
   have:=e3.mono (w:=w) fun b hb=>(other id blk b e1 hb c2).2.1
   exact .inr ⟨S.h.lt e1 this,(other id blk b e1 this c2).1,e1,this⟩
 have rG: ∀b,nZ P w o hp0 b∨w.heap.size≤b→M b∨B≤b:=by
  rintro b (h|h)
  ·obtain ⟨j,id,b1,i1,i2,i3,_⟩:=NQ b h
   exact S.h.own id b1 b i2 i3
  ·exact .inr (lE S.size h)
 have H0: ∀j c b,jn bs j=some c→bt P w' (bP j) c b→nZ P w o hp0 b∨w.heap.size≤b:=fun j c b h1 U=>Sc.h.own j c b h1 U
 refine ⟨β',hle,⟨⟨fun id blk ab=> ?_,fun i1 i2 b1 b2 b e1 e2 f1 f2=> ?_,fun id blk b ab hb=> ?_,Sc.h.js⟩,fun b hb hM=> ?_,lE S.size Sc.size,fun b hb=> ?_,⟨Sc.io.1.trans S.io.1,Sc.io.2.trans S.io.2⟩⟩,rN⟩
 ·rcases cls id with ⟨i,b2,c1,c2,c3,c4,c5⟩|⟨j',b2,b',c,b0,q1,q2,q3,q4,q5,q6,q7,q8,q9,o5,vY,qs⟩|⟨c1,c2,c3⟩
  ·rw[c3] at ab;cases ab
   rw[c5]
   exact rN.NK (Sc.h.rel _ b2 (by rw[gJ];exact c2)) (.of σ b2)
  ·rw[q7] at ab;cases ab
   have:=rN.NK (Sc.h.rel j' b2 (by rw[gJ];exact q2)) q8
   by_cases qt:b2= .dead
   ·subst qt
    cases q8
    exact .dead
   ·rw[o5,←qs qt]
    exact this
  ·rw[c1] at ab
   rw[c3]
   exact (S.h.rel id blk ab).mono hle fun b hb=>(other id blk b ab hb c2).2
 ·rcases place i1 b1 b e1 f1 with ⟨j1,c1,g1,g2,g3⟩|⟨g1,g2,g3,g4⟩<;>rcases place i2 b2 b e2 f2 with ⟨j2,c2,k1,k2,k3⟩|⟨k1,k2,k3,k4⟩
  ·have:=Sc.h.inj j1 j2 c1 c2 b g1 k1 g2 k2
   subst this
   rw[g3] at k3
   cases k3
   rfl
  ·rcases H0 j1 c1 b g1 g2 with h|h
   ·exact absurd h k2
   ·omega
  ·rcases H0 j2 c2 b k1 k2 with h|h
   ·exact absurd h g2
   ·omega
  ·exact S.h.inj i1 i2 _ _ b g3 k3 g4 k4
 ·rcases place id blk b ab hb with ⟨j1,c1,g1,g2,g3⟩|⟨g1,g2,g3,g4⟩
  ·exact rG b (H0 j1 c1 b g1 g2)
  ·exact S.h.own id blk b g3 g4
 ·refine (Sc.b6 b (rf hb S.size) fun hx=> ?_).trans (S.b6 b hb hM)
  rcases rG b (.inl hx) with h|h
  ·exact hM h
  ·omega
 ·rcases Sc.new b hb with h|h|h
  ·exact S.new b h
  ·exact .inr (rG b (.inl h))
  ·exact .inr (rG b (.inr h))
end
section
variable {P:Program} {A:cA} {w w':World} {I I' I2:Nat→Prop} {μ β β' bP:Nat→Option Nat} {hp hp' hp0 bm:Nat→Option an} {C:ag} {B:Nat} {M:Nat→Prop} {w0:Start}
theorem NS (hp:Nat→Option an): ∀(a b:List (Nat × an)),bE hp (a++b)=bE (bE hp b) a
 | [],b=>rfl
 | (i,x)::a,b=>by simp only[List.cons_append,bE,NS hp a b]
theorem vZ {hp:Nat→Option an} {l:List (Nat × an)} {id:Nat} (h: ∀q∈l,q.1≠id):bE hp l id=hp id:=by
 rcases ta (hp:=hp) (l:=l) (id:=id) with h1|⟨b,hb,_⟩
 ·exact h1
 ·exact absurd rfl (h _ hb)
def xX (P : Program) : Prop := ∀ (f : Nat) fn, P.funcs[f]? = some fn → (fn.name == "runtime.NumGoroutine") = false
def NT (P:Program) (f:FuncId) (e:TypeId):Prop:=
 (∀args w,(callFunc f args).run P w= .ok (.enter f args) w)∧∃t,P.underlying t=some (.slice e)∧
  ∀(s:Value) (w:World) (Q:Ending→World→Prop),(s= .slice none 0 0→Q (.returned (.slice none 0 0)) w)→
   (∀a n c,s= .slice (some a) n c→∃v w',(Builtin.append_ #[t,t] t #[.slice (some ⟨w.heap.size,0,none⟩) 0 0,s]).run P (w.alloc (.cells #[] e))= .ok v w'∧Q (.returned v) w')→
   (s= .slice none 0 0∨∃a n c,s= .slice (some a) n c)→Calls P f #[s] w Q
structure iG (P:Program) (A:cA):Prop where
 count:xX P
 ext: ∀f T,A.ext f=some T→∀(b:Nat) (C:Array Value) (w:World),w.heap[b]? =some (.cells C T (0,0))→C.size=P.cellsOf T→(C[0]? =some (.pointer none)∨C[0]? =some (.pointer (some ⟨b,0,none⟩)))→
  (callFunc f #[.pointer (some ⟨b,0,none⟩)]).run P w= .ok (.enter f #[.pointer (some ⟨b,0,none⟩)]) w∧
  Calls P f #[.pointer (some ⟨b,0,none⟩)] w fun e w'=>e= .returned (.tuple #[])∧(w'=w∨w'=w.setCell ⟨b,0,none⟩ (.pointer (some ⟨b,0,none⟩)))
 idle: ∀f,A.idle f=true→(∀args w,(callFunc f args).run P w= .ok (.enter f args) w)∧
  ∀args w,CallsD P f args .returning w fun e u' w'=>(∃v,e= .returned v)∧u'= .returning∧w'=w
 nG: ∀f e,A.nG f=some e→NT P f e
theorem iG.here {P:Program} {A:cA} (h:iG P A) (f id:Nat):iG P (A.here f id):=⟨h.count,h.ext,h.idle,h.nG⟩
def zt (E:FuncId→Bool) (d:Deferred):Prop:= ∃f cap,d.target= .fn (.func f) cap∧E f=true
theorem H2 {P:Program} {A:cA} (hP:iG P A) {fn:Func} {tmps:Array Value} {R:Ending→World→Prop} {w:World} {v:Value} (hv:(results fn tmps).run P w= .ok v w) (hR:R (.returned v) w):
  ∀ds:List Deferred,(∀d∈ds,zt A.idle d)→Leaves P fn tmps R ds .returning w
 | [],_=>⟨v,hv,hR⟩
 | d::ds,h=>by
  obtain ⟨f,cap,ht,hf⟩:=h d (by simp)
  obtain ⟨k1,k2⟩:=hP.idle f hf
  obtain ⟨t,NU⟩:=d
  simp only at ht
  subst ht
  refine leaves_cons (f:=f) (args:=NU++cap) (by simp) ?_ ?_
  ·simp only[invoke];exact k1 _ w
  ·refine (k2 (NU++cap) w).mono fun e u' w' hr=> ?_
   obtain ⟨⟨v',rfl⟩,rfl,rfl⟩:=hr
   exact H2 hP hv hR ds fun d hd=>h d (kR _ hd)
def zu (P:Program) (A:cA) (o:Oper) (a:Act) (w:World) (I:Nat→Prop) (β:Nat→Option Nat) (hp:Nat→Option an) (B:Nat) (M:Nat→Prop) (w0:Start) (r:R):Prop:=
 ∀(next:Act→World→Prop) (Q:Exit→Act→World→Prop),
  (∀v w' I' β' ds,Le P w I β hp w' I' β' (bE hp r.upd)→aE P w' I' β' (bE hp r.upd) B M w0→ao P w' I' β' (bE hp r.upd) v r.v→(∀d∈ds,d∈a.defers∨zt A.idle d)→next ({a with defers:=ds}.put o.dst v) w')→o.wp P a w next Q
theorem oQ.step {o:Oper} {a:Act} {r:R} (h:oQ P ((execOp a.eval o).run P w) w I β hp B M w0 r):zu P A o a w I β hp B M w0 r:=by
 obtain ⟨v,w',I',β',h1,U,h3,h4⟩:=h
 intro next Q hn
 unfold Oper.wp
 rcases h1 with h1|⟨h1,rfl⟩
 ·rw[h1];exact hn v w' I' β' a.defers U h3 h4 fun d hd=> .inl hd
 ·rw[h1];exact hn _ w' I' β' a.defers U h3 h4 fun d hd=> .inl hd
theorem NV: ∀(l:List (Nat × VS)),nJ l=rB (l.map (·.2))
 | []=>rfl
 | (_,s)::l=>by simp only[nJ,cO,rB,NV l]
theorem XW (hC:kG P A C) (S:aE P w I β hp B M w0) (hg:fR P A.aD w I) {vals:List Value} {args:List V} {nb key:Nat} {f:FuncId} {r:R} {rd:List Nat} (hlen:vals.length=args.length)
  (cC: ∀(j:Nat) v x,vals[j]? =some v→args[j]? =some x→ao P w I β hp v x) (h:(yE P A nb key f args).run C hp=some (r,rd)):
  ∃fn c,P.funcs[f]? =some fn∧fn.body=some c∧Calls P f vals.toArray w fun e w'=> ∃v I' β',e= .returned v∧Le P w I β hp w' I' β' (bE hp r.upd)∧aE P w' I' β' (bE hp r.upd) B M w0∧ao P w' I' β' (bE hp r.upd) v r.v:=by
 unfold yE at h
 obtain ⟨NW,h0⟩:=aF h
 clear h
 rw[aQ] at NW
 subst NW
 obtain ⟨h1,iZ,d1,u1,a1,a2,a3,a5,a4⟩:=HT S h0 hlen cC
 obtain ⟨U,rR,d2,u2,b1,b2,b3,b4⟩:=Ny S a1
 clear h0 a1
 obtain ⟨hc,h3⟩:=aF b1
 clear b1
 simp only[aI,aQ,ki] at hc
 obtain ⟨b7,Dq⟩:=hc
 have rT:=a2.trans b2
 have kP:U.ds=d1++d2:=by have:=rT.ds;simpa using this
 have Du:U.upd=u1++u2:=by have:=rT.upd;simpa using this
 have j4:(U.pl.map Place.id).Nodup:=rT.nodup (by simp)
 obtain ⟨c1,o,c2,c3⟩:=b4 []
 simp only[dH] at c1 c2 c3
 cases zw:C key U.ds with
 | none=>
  simp only[Rd.run,zw] at h3
  cases h3
 | some es=>
  have p7: ∃eG,(yD P (A.so key es) nb U (A.lv key es)).run C hp=some (r,eG):=by
   obtain ⟨x,hx,e⟩:=bind_some h3
   rw[zw] at hx
   cases hx
   unfold cA.so cA.lv
   cases ca:A.alt key with
   | none=>rw[ca] at e;exact ⟨_,e⟩
   | some S2=>
    rw[ca] at e
    simp only[Rd.run] at e
    cases hb:(V.nth es 0).toBool<;>(rw[hb] at e;exact ⟨_,e⟩)
  clear h3
  obtain ⟨eG,h3⟩:=p7
  unfold yD at h3
  simp only at h3
  generalize gD:ej (A.so key es).a8 ((A.lv key es).drop (nJ (A.so key es).bJ))=bs at h3
  generalize qq:U.pl++rC nb (bs.length-U.pl.length)=σ at h3
  generalize zr:pS σ nb (bs.drop U.pl.length)=fr at h3
  obtain ⟨p0,bk,rd4,p1,p2,_,p3⟩:=NG h3
  obtain ⟨rS,rd5,p4⟩:=NJ p1
  obtain rfl:=aL p4
  have qa:U.pl.length≤bs.length:=by rw[fj] at p0;omega
  have Ds: ∀q∈bk,∃(j:Nat) (b:an),U.pl[j]? =some (.blk q.1)∧bs[j]? =some b∧fP σ b q.2∧zq hp q:=by
   intro q hq
   rcases p2 q hq with hx|⟨j,b,k1,k2,k3,k4⟩
   ·simp at hx
   ·have hj:=(br.1 k1).1
    rw[eJ hj] at k2
    exact ⟨j,b,k1,k2,k3,k4⟩
  obtain ⟨fn,c,hf,hb,H3⟩:=hC key U.ds es zw
  refine ⟨fn,c,hf,hb,?_⟩
  have XX:ej (A.sin key).a8 (U.ds.drop (nJ (A.sin key).bJ))=ej (A.sin key).a8 d2:=by
   rw[kP,NV,mR a3]
  have H4:(bj (A.sin key) U.ds).hp=jn (ej (A.sin key).a8 d2):=by
   simp only[bj,mk,XX]
  have hl: ∀j blk,(bj (A.sin key) U.ds).hp j=some blk→∃p,dP U.pl j=some p∧dL P w β hp p (o j) blk:=by
   intro j blk hj
   rw[H4,gJ] at hj
   obtain ⟨p,k1,k2⟩:=c2 j blk hj
   rw[fS] at k1
   exact ⟨p,k1,k2⟩
  have hd: ∀j,j<U.pl.length→∃blk,(bj (A.sin key) U.ds).hp j=some blk:=by
   intro j hj
   rw[H4,gJ]
   exact ⟨_,bx (by rw[c1,←b7];exact hj)⟩
  have NX:zl P w β hp U.pl o (bj (A.sin key) U.ds).hp:=by
   intro j p hj
   obtain ⟨blk,k1⟩:=hd j (by rw[lj] at hj;exact (br.1 hj).1)
   obtain ⟨p',k2,k3⟩:=hl j blk k1
   rw[hj] at k2
   cases k2
   exact ⟨blk,k1,k3⟩
  obtain ⟨qh,S1⟩:=yT S rT.Dj
  rw[←Du] at qh S1
  have i1: ∀b,I b→iz P w I β hp U.upd b:=fun b h=> .inl h
  have entry:=XQ (hp0:=(bj (A.sin key) U.ds).hp) S j4 Dq hl (fun cJ j blk hj=>by
   have fZ:=hj
   rw[H4,gJ] at fZ
   exact c3 (iz P w I β hp U.upd) o _ i1 (fun q hq b hb=> .inr ⟨q,by rw[Du];exact eh.2 (.inr hq),hb⟩) U.pl [] (by simp) NX j blk fZ (cJ j blk hj)) S1.h.js
  have XY:vals.length=(A.sin key).bJ.length:=by rw[hlen,←a5];simp
  have ha:=H3 w (iz P w I β hp U.upd) o vals entry (hg.mono i1 fun _ _=>rfl) XY fun j v x hj hx=>by
   rw[kP] at hx
   exact (((a4.zm b2) (iz P w I β hp U.upd) o _ i1 (fun q hq b hb=> .inr ⟨q,by rw[Du];exact hq,hb⟩) U.pl [] (by simp) NX) d2).2 j v x hj hx
  refine ha.mono fun e w' zx=> ?_
  obtain ⟨v,I2,bP,rfl,ha⟩:=zx
  have v5:(bj (A.so key es) (A.lv key es)).hp=jn bs:=by simp only[bj,mk,gD]
  cases XZ:(A.so key es).safe P with
  | true=>
   simp only[cond_true,dH]
   have gG: ∀b,I b→I2 b:=fun b h=>ha.le.c9 b (i1 b h)
   obtain ⟨s1,s2⟩:=XT XZ gG ha.vW i1
   have vX:kF w I o (bj (A.sin key) U.ds).hp w' I bP (jn bs):=by
    rw[←v5]
    exact ⟨fun _ h=>h,fun b h=>ha.le.b6 b (i1 b h),ha.le.blk,ha.le.size⟩
   obtain ⟨β',k1,k2,k3⟩:=NO S qq.symm zr.symm j4 qa p3 Ds hl hd (by rw[←v5];exact ⟨s1.h,s1.b6,s1.size,fun b h=> .inl h,s1.io⟩) vX rS
   exact ⟨v,I,β',rfl,k1,k2,k3.val (by have:=s2 v ha.res;rw[v5] at this;exact this)⟩
  | false=>
   simp only[cond_false]
   rw[←cm,NS]
   have lW: ∀p∈U.pl,bE hp U.upd p.id=hp p.id:=fun p hp=>vZ fun q hq e=>
    Dp Dq (gx.2 ⟨q,hq,rfl⟩) (e▸gx.2 ⟨p,hp,rfl⟩)
   have X0: ∀q∈bk,∃(j:Nat) (b:an),U.pl[j]? =some (.blk q.1)∧bs[j]? =some b∧fP σ b q.2∧zq (bE hp U.upd) q:=by
    intro q hq
    obtain ⟨j,b,k1,k2,k3,k4⟩:=Ds q hq
    refine ⟨j,b,k1,k2,k3,fun hn=> ?_⟩
    have:=lW _ (jm k1)
    simp only[Place.id] at this
    rw[this]
    exact k4 hn
   have vq: ∀j blk,(bj (A.sin key) U.ds).hp j=some blk→∃p,dP U.pl j=some p∧dL P w β (bE hp U.upd) p (o j) blk:=by
    intro j blk hj
    obtain ⟨p,k1,k2⟩:=hl j blk hj
    exact ⟨p,k1,k2.other (lW p (by rw[lj] at k1;exact jm k1))⟩
   have X1: ∀q∈fr,bE hp U.upd q.1=none:=by
    intro q hq
    rw[vZ fun q' zy e=> ?_]
    ·exact rS q hq
    ·obtain ⟨e1,cg,_,h5⟩:=rT.Dj q' (Du▸zy)
     rw[e,rS q hq] at h5
     rcases h5 with ⟨_,h5⟩|⟨_,h5⟩<;>cases h5
   obtain ⟨β',k1,k2,k3⟩:=NO S1 qq.symm zr.symm j4 qa p3 X0 vq hd (by rw[←v5];exact ha.vW) (by rw[←v5];exact ha.le) X1
   exact ⟨v,I2,β',rfl,qh.trans k1,k2,k3.val (by have:=ha.res;rw[v5] at this;exact this)⟩
theorem NY (hC:kG P A C) (hP:iG P A) (S:aE P w I β hp B M w0) (hg:fR P A.aD w I) {a:Act} {nb key:Nat} {o:Oper} {f:FuncId} {vals:List Value} {args:List V} (hlen:vals.length=args.length)
  (cC: ∀(j:Nat) v x,vals[j]? =some v→args[j]? =some x→ao P w I β hp v x) {r:R} {rd:List Nat} (h:(yE P A nb key f args).run C hp=some (r,rd))
  (hex:(execOp a.eval o).run P w=(callFunc f vals.toArray).run P w):zu P A o a w I β hp B M w0 r:=by
 intro next Q hn
 obtain ⟨fn,c,hf,hb,H3⟩:=XW hC S hg hlen cC h
 unfold Oper.wp
 rw[hex,MuLone.run_callFunc_enter hf (hP.count f _ hf) hb,Oper.upon_enter]
 refine H3.mono fun e w' zx=> ?_
 obtain ⟨v,I2,bP,rfl,k1,k2,k3⟩:=zx
 exact hn v w' I2 bP a.defers k1 k2 k3 fun d hd=> .inl hd
theorem kz.args {a:Act} {sl:Nat→V} (hs:kz P w I β hp a sl) (hg:fR P A.aD w I) {args:Array Operand} {ts:Array TypeId} (aU:args.size=ts.size):
  (args.map a.eval).toList.length=((args.toList.zip ts.toList).map fun p=>aM P A.aD p.2 sl p.1).length∧
  ∀(j:Nat) v x,(args.map a.eval).toList[j]? =some v→((args.toList.zip ts.toList).map fun p=>aM P A.aD p.2 sl p.1)[j]? =some x→ao P w I β hp v x:=by
 refine ⟨by simp;omega,fun j v x hv hx=> ?_⟩
 simp only[Array.toList_map,fH,List.getElem?_zip_eq_some,yh] at hv hx
 obtain ⟨x1,zz,rfl⟩:=hv
 obtain ⟨⟨y1,t1⟩,⟨NZ,_⟩,rfl⟩:=hx
 rw[zz] at NZ
 cases NZ
 exact hs.ev hg t1 _
theorem N0 {vs us:List Value} {xs ys:List V} (h1:vs.length=xs.length) (U: ∀(j:Nat) v x,vs[j]? =some v→xs[j]? =some x→ao P w I β hp v x)
  (h3: ∀(j:Nat) v x,us[j]? =some v→ys[j]? =some x→ao P w I β hp v x) (j:Nat) (v:Value) (x:V) (hv:(vs++us)[j]? =some v) (hx:(xs++ys)[j]? =some x):ao P w I β hp v x:=by
 by_cases hj:j<vs.length
 ·rw[ij hj] at hv
  rw[ij (by omega)] at hx
  exact U j v x hv hx
 ·rw[ik (by omega)] at hv
  rw[ik (by omega)] at hx
  rw[h1] at hv
  exact h3 _ v x hv hx
theorem X2 (hP:iG P A) (S:aE P w I β hp B M w0) (hg:fR P A.aD w I) {a:Act} {sl:Nat→V} (hs:kz P w I β hp a sl) {dst:Option Tmp} {ty e:TypeId} {pos:String} {after:Array Edge} {guard:Option (Nat × Bool)} {f:FuncId}
  {args:Array Operand} {argTypes:Array TypeId} {nb:Nat} {r:R} {rd:List Nat} (kE:A.nG f=some e)
  (h:((match args.toList with
    | [x]=> .aA (cK P e) (rz e (aM P A.aD ty sl x) fun xs=> .aA (Nat.ble (xs.length*P.bytesOf e) cI) (iR nb (.arr e xs false) (.whole e nb) []))
    | _=> .fail):Rd R).run C hp=some (r,rd)):zu P A (Oper.mk dst (.call (Go.Call.mk (.value (.func f)) args argTypes)) ty pos after guard) a w I β hp B M w0 r:=by
 cases ha:args.toList with
 | nil=>rw[ha] at h;cases h
 | cons x l=>
  rw[ha] at h
  cases l with
  | cons _ _=>cases h
  | nil=>
   simp only at h
   have e1:args= #[x]:=by rw[←Array.toArray_toList (xs:=args),ha]
   subst e1
   have hx:=hs.ev hg ty x
   obtain ⟨au,h⟩:=aF h
   have fin: ∀{w1:World} {Dw:Nat→Option Nat},(∀id blk,hp id=some blk→dI P w1 I Dw hp (Dw id) blk)→ao P w1 I Dw hp (a.eval x) (aM P A.aD ty sl x)→∃xs,(((∃a',a.eval x= .slice a' 0 0)∧xs=[])∨∃a' c news,Row P w1 I e (a.eval x) xs a' c news)∧
     xs.length*P.bytesOf e≤cI∧hp nb=none∧r=⟨.whole e nb,[(nb,.arr e xs false)]⟩:=by
    intro w1 Dw h1 U
    obtain ⟨xs,lh,l,h⟩:=CZ h1 au U h
    obtain ⟨dE,h⟩:=aF h
    rw[dN] at dE
    obtain ⟨hn,rfl⟩:=mM h
    exact ⟨xs,lh,dE,hn,rfl⟩
   obtain ⟨c1,t,hu,c2⟩:=hP.nG f e kE
   intro next Q v7
   unfold Oper.wp
   have e2:(execOp a.eval ⟨dst,.call ⟨.value (.func f),#[x],argTypes⟩,ty,pos,after,guard⟩).run P w= .ok (.enter f #[a.eval x]) w:=by
    have eH:a.eval (.func f)= .func (.func f) #[] #[]:=rfl
    simpa[execOp,resolve,eH,Deferred.ofValue,invoke] using c1 #[a.eval x] w
   rw[e2,Oper.upon_enter]
   refine c2 _ w _ (fun zA=> ?_) (fun b n c qf=> ?_) ?_
   ·obtain ⟨xs,lh,dE,hn,rfl⟩:=fin S.h.rel hx
    have ga:xs=[]:=by
     rcases lh with ⟨_,h⟩|⟨a,c,news,hr⟩
     ·exact h
     ·have:=hr.val.symm.trans zA
      cases this
    subst ga
    obtain ⟨a1,a2⟩:=CD S e hn
    exact v7 _ w I _ a.defers a1 a2 (.dt (cQ _ _ _) (cQ _ _ _)) fun d hd=> .inl hd
   ·obtain ⟨m1,m2⟩:=Vz (w':=w.alloc (.cells #[] e)) S (fun b hb=>heap_alloc_old w _ b hb) (by simp) ⟨rfl,rfl⟩
    obtain ⟨xs,lh,dE,hn,rfl⟩:=fin m2.h.rel (hx.mono m1)
    obtain ⟨v,w',β',a1,a2,a3,a4⟩:=Hl (ty:=t) (a0:=some ⟨w.heap.size,0,none⟩) m2 hu au hn dE lh
    exact ⟨v,w',a1,v7 v w' I β' a.defers (m1.trans a2) a3 a4 fun d hd=> .inl hd⟩
   ·obtain ⟨xs,lh,dE,hn,rfl⟩:=fin S.h.rel hx
    rcases lh with ⟨⟨b,h⟩,_⟩|⟨b,c,news,hr⟩
    ·rw[h]
     cases b with
     | none=>exact .inl rfl
     | some b=>exact .inr ⟨_,_,_,rfl⟩
    ·exact .inr ⟨_,_,_,hr.val⟩
theorem X3 (hP:iG P A) (S:aE P w I β hp B M w0) (hg:fR P A.aD w I) {a:Act} {sl:Nat→V} (hs:kz P w I β hp a sl) {dst:Option Tmp} {ty T0:TypeId} {pos:String} {after:Array Edge} {guard:Option (Nat × Bool)} {f:FuncId}
  {args:Array Operand} {argTypes:Array TypeId} {r:R} {rd:List Nat} (zB:A.ext f=some T0)
  (h:((match args.toList with
   | [x]=>
    match aM P A.aD ty sl x with
    | .ptr id i c=>Rd.get id fun
     | some (.var T cs)=> .aA (Nat.beq T T0&&(oJ P T&&(Nat.beq cs.length (P.cellsOf T)&&(Nat.beq i 0&&Nat.beq c 0)))) (.ret ⟨.bc [],[(id,.var T (.undef::cs.tail))]⟩)
     | _=> .fail
    | _=> .fail
   | _=> .fail):Rd R).run C hp=some (r,rd)):zu P A (Oper.mk dst (.call (Go.Call.mk (.value (.func f)) args argTypes)) ty pos after guard) a w I β hp B M w0 r:=by
 cases ha:args.toList with
 | nil=>rw[ha] at h;cases h
 | cons x l=>
  rw[ha] at h
  cases l with
  | cons _ _=>cases h
  | nil=>
   simp only at h
   have e1:args= #[x]:=by rw[←Array.toArray_toList (xs:=args),ha]
   subst e1
   have hx:=hs.ev hg ty x
   cases eW:aM P A.aD ty sl x<;>rw[eW] at h hx<;>simp only at h<;>first|(cases h;done)|skip
   rename_i id i c
   obtain ⟨l,h1⟩:=run_get h
   cases ab:hp id with
   | none=>rw[ab] at h1;cases h1
   | some blk=>
    rw[ab] at h1
    cases blk<;>simp only at h1<;>first|(cases h1;done)|skip
    rename_i T cs
    obtain ⟨U,h3⟩:=aF h1
    simp only[aI,aQ] at U
    obtain ⟨rfl,b9,v8,rfl,rfl⟩:=U
    obtain rfl:=aL h3
    obtain ⟨b,hb,he⟩:=hx.gE ab (by simp)
    have hr:=S.h.rel id _ ab
    rw[hb] at hr
    cases hr with
    | @var _ b' Ca _ az hh aU hI ga fL=>
     cases az
     have gF:a.eval x= .pointer (some ⟨b,0,none⟩):=by rw[he];simp[an.sz]
     obtain ⟨q1,q2⟩:=hP.ext f T zB b Ca w hh (aU.trans v8) (fL b9)
     have h0:0<Ca.size:=by
      rcases fL b9 with k|k<;>exact (gR.1 k).1
     have nR:(V.undef::cs.tail).length=cs.length:=by
      cases cs with
      | nil=>rw[aU] at h0;simp at h0
      | cons _ _=>rfl
     have rel: ∀(C':Array Value),(∀j,0<j→C'[j]? =Ca[j]?)→∀(j:Nat) v y,C'[j]? =some v→(V.undef::cs.tail)[j]? =some y→ao P w I β hp v y:=by
      intro C' vL j v y hj hy
      cases j with
      | zero=>simp at hy;subst hy;exact .undef
      | succ j=>
       rw[vL _ (by omega)] at hj
       refine ga (j+1) v y hj ?_
       cases cs with
       | nil=>rw[aU] at h0;simp at h0
       | cons _ _=>simpa using hy
     have fin: ∀w' C',(∀b',b'≠b→w'.heap[b']? =w.heap[b']?)→w'.heap[b]? =some (.cells C' T (0,0))→C'.size=Ca.size→w.heap.size≤w'.heap.size→w'.os=w.os∧w'.output=w.output→
       (∀j,0<j→C'[j]? =Ca[j]?)→(C'[0]? =some (.pointer none)∨C'[0]? =some (.pointer (some ⟨b,0,none⟩)))→
       Le P w I β hp w' I β (aG hp id (some (.var T (V.undef::cs.tail))))∧aE P w' I β (aG hp id (some (.var T (V.undef::cs.tail)))) B M w0:=by
      intro w' C' k1 k2 k3 k4 k5 k6 k7
      exact CF (w':=w') (blk':= .var T (V.undef::cs.tail)) S ab (by simp) rfl hb hI (by simp) k1 (by rw[mH k2,mH hh,k3]) k4 k5 fun hle=>
       .var rfl k2 (by rw[k3,aU,nR]) hI (fun j v y hj hy=>(rel C' k6 j v y hj hy).mono hle) fun _=>k7
     intro next Q hn
     unfold Oper.wp
     have e2:(execOp a.eval ⟨dst,.call ⟨.value (.func f),#[x],argTypes⟩,ty,pos,after,guard⟩).run P w= .ok (.enter f #[.pointer (some ⟨b,0,none⟩)]) w:=by
      have eH:a.eval (.func f)= .func (.func f) #[] #[]:=rfl
      simpa[execOp,resolve,eH,Deferred.ofValue,invoke,gF] using q1
     rw[e2,Oper.upon_enter]
     refine q2.mono fun e w' zx=> ?_
     obtain ⟨rfl,hw⟩:=zx
     have N3:Le P w I β hp w' I β (aG hp id (some (.var T (V.undef::cs.tail))))∧aE P w' I β (aG hp id (some (.var T (V.undef::cs.tail)))) B M w0:=by
      rcases hw with rfl|rfl
      ·exact fin w' Ca (fun _ _=>rfl) hh rfl (cf _) ⟨rfl,rfl⟩ (fun _ _=>rfl) (fL b9)
      ·refine fin (w.setCell ⟨b,0,none⟩ (.pointer (some ⟨b,0,none⟩))) (Ca.setIfInBounds 0 (.pointer (some ⟨b,0,none⟩))) (fun b' bu=> ?_) ?_ (by simp) (by simp[World.setCell]) ⟨rfl,rfl⟩ (fun j hj=> ?_) (.inr ?_)
       ·simp only[World.setCell,yg]
        rw[ai (fun e=>bu e.symm)]
       ·simp[World.setCell,yg,hh]
       ·rw[BR (by omega)]
       ·rw[Gj h0]
     exact hn (.tuple #[]) w' I β a.defers N3.1 N3.2 (.bc rfl fun j v y hj _=>by simp at hj) fun d hd=> .inl hd
theorem X4 (hC:kG P A C) (hP:iG P A) (S:aE P w I β hp B M w0) (hg:fR P A.aD w I) {a:Act} {sl:Nat→V} (hs:kz P w I β hp a sl) {ix nb:Nat} {o:Oper} {r:R} {rd:List Nat}
  (h:(e9 P A sl ix nb o).run C hp=some (r,rd)):zu P A o a w I β hp B M w0 r:=by
 cases hc:HK o.op with
 | false=>exact (Xu S hg hs hc h).step
 | true=>
  obtain ⟨dst,op,ty,pos,after,guard⟩:=o
  cases op<;>simp only[HK] at hc<;>first|(cases hc;done)|skip
  case defer c=>
   obtain ⟨callee,args,argTypes⟩:=c
   cases callee with
   | invoke r m=>simp only[e9] at h;cases h
   | builtin b=>simp only[e9] at h;cases h
   | value f=>
   cases f with
   | tmp t=>
    simp only[e9] at h
    cases b9:sl t<;>rw[b9] at h<;>simp only at h<;>first|(cases h;done)|skip
    rename_i f xs ys
    obtain ⟨h1,U⟩:=aF h
    obtain rfl:=aL U
    have hv:=hs t
    rw[b9] at hv
    generalize tw:a.tmps.getD t undef=vt at hv
    cases hv with
    | @fn _ fs cs _ _ q1 q2 q3 q4=>
     intro next Q hn
     unfold Oper.wp
     have eH:a.eval (.tmp t)= .func (.func f) fs cs:=tw
     have e1:(execOp a.eval ⟨dst,.defer ⟨.value (.tmp t),args,argTypes⟩,ty,pos,after,guard⟩).run P w= .ok (.defer {target:= .fn (.func f) cs,args:=fs++args.map a.eval}) w:=by
      simp[execOp,resolve,eH,Deferred.ofValue]
     rw[e1,Oper.upon_defer]
     exact hn undef w I β _ (Le.refl w I β hp) S .undef fun d hd=>by
      rcases df.1 hd with rfl|hd
      ·exact .inr ⟨f,cs,rfl,h1⟩
      ·exact .inl hd
   | func f=>simp only[e9] at h;cases h
   | const _=>simp only[e9] at h;cases h
   | global _=>simp only[e9] at h;cases h
  rename_i c
  obtain ⟨callee,args,argTypes⟩:=c
  cases callee with
  | invoke r m=>cases hc
  | builtin b=>cases hc
  | value f=>
   cases f with
   | func f=>
    simp only[e9] at h
    cases zB:A.ext f with
    | some T0=>
     rw[zB] at h
     simp only at h
     exact X3 hP S hg hs zB h
    | none=>
    rw[zB] at h
    simp only at h
    cases kE:A.nG f with
    | some e0=>
     rw[kE] at h
     simp only at h
     exact X2 hP S hg hs kE h
    | none=>
    rw[kE] at h
    simp only at h
    obtain ⟨h1,U⟩:=aF h
    rw[aQ] at h1
    obtain ⟨k1,k2⟩:=hs.args hg h1
    refine NY hC hP S hg k1 k2 U ?_
    have e1:(args.map a.eval).toList.toArray=args.map a.eval:=Array.toArray_toList
    rw[e1]
    simp[execOp,resolve,Act.eval,Deferred.ofValue,invoke]
   | tmp t=>
    simp only[e9] at h
    cases b9:sl t<;>rw[b9] at h<;>simp only at h<;>first|(cases h;done)|skip
    rename_i f xs ys
    obtain ⟨h1,U⟩:=aF h
    rw[aQ] at h1
    obtain ⟨k1,k2⟩:=hs.args hg h1
    have hv:=hs t
    rw[b9] at hv
    generalize tw:a.tmps.getD t undef=vt at hv
    cases hv with
    | @fn _ fs cs _ _ q1 q2 q3 q4=>
     have l1:fs.toList.length=xs.length:=by simpa using q1
     have l3:cs.toList.length=ys.length:=by simpa using q3
     have r1: ∀(j:Nat) v x,fs.toList[j]? =some v→xs[j]? =some x→ao P w I β hp v x:=fun j v x hj hx=>q2 j v x (by simpa using hj) hx
     have r3: ∀(j:Nat) v x,cs.toList[j]? =some v→ys[j]? =some x→ao P w I β hp v x:=fun j v x hj hx=>q4 j v x (by simpa using hj) hx
     refine NY hC hP S hg (vals:=fs.toList++(args.map a.eval).toList++cs.toList) (args:=xs++((args.toList.zip argTypes.toList).map fun p=>aM P A.aD p.2 sl p.1)++ys) (by simp only[cv];omega) ?_ U ?_
     ·exact N0 (by simp only[cv];omega) (N0 l1 r1 k2) r3
     ·have e1:(fs.toList++(args.map a.eval).toList++cs.toList).toArray=fs++args.map a.eval++cs:=by
       apply Array.toList_inj.1;simp
      rw[e1]
      have eH:a.eval (.tmp t)= .func (.func f) fs cs:=tw
      simp[execOp,resolve,eH,Deferred.ofValue,invoke]
   | _=>cases hc
end
section
variable {P:Program} {A:cA} {w w':World} {I I' I2:Nat→Prop} {μ β β':Nat→Option Nat} {hp hp':Nat→Option an} {C:ag} {B:Nat} {M:Nat→Prop} {w0:Start}
structure iH (P:Program) (E:FuncId→Bool) (G:Nat→V) (w:World) (I:Nat→Prop) (β:Nat→Option Nat) (n:Nat) (a:Act) (st:St):Prop where
 sl:kz P w I β st.hp a st.sl
 size:a.tmps.size=n
 defers: ∀d∈a.defers,zt E d
 aD:fR P G w I
theorem H5 {E:FuncId→Bool} {G:Nat→V} {n:Nat} {a:Act} {st:St} {o:Oper} {v:Value} {x:V} {hp':Nat→Option an} {ds:List Deferred} (h:iH P E G w I β n a st) (hle:Le P w I β st.hp w' I' β' hp') (hd:rD o n=true)
  (hv:ao P w' I' β' hp' v x) (kP: ∀d∈ds,d∈a.defers∨zt E d):iH P E G w' I' β' n ({a with defers:=ds}.put o.dst v) ⟨gU st.sl o.dst x,hp',st.nb⟩:=by
 have N4: ∀d∈ds,zt E d:=fun d hd=>(kP d hd).elim (h.defers d) id
 cases X5:o.dst with
 | none=>exact ⟨fun k=>(h.sl k).mono hle,h.size,N4,h.aD.mono hle.c9 hle.b6⟩
 | some d=>
  have aO:d<a.tmps.size:=by
   unfold rD at hd
   rw[X5] at hd
   rw[h.size]
   simpa using hd
  refine ⟨fun k=> ?_,by simp[Act.put,h.size],N4,h.aD.mono hle.c9 hle.b6⟩
  simp only[Act.put,gU,aG]
  cases hb:Nat.beq k d with
  | true=>
   rw[aQ] at hb
   subst hb
   simpa[aO] using hv
  | false=>
   have bu:d≠k:=fun e=>by rw[e,jl] at hb;cases hb
   have:=(h.sl k).mono hle
   simpa[BR bu] using this
theorem N5 {E:FuncId→Bool} {G:Nat→V} {n:Nat} {a:Act} {st:St} {d:Nat} {b:Bool} (h:iH P E G w I β n a st) (hd:st.sl d= .bool b):a.tmps[d]? =some (.bool b):=by
 have:=h.sl d
 rw[hd] at this
 have:=this.jW
 cases ht:a.tmps[d]? with
 | none=>simp[ht] at this;cases this
 | some v=>simp[ht] at this;rw[this]
theorem X6 {x:V} {b:Bool} (h:kT x=some (some b)):x= .bool b:=by
 cases x with
 | bool c=>simp only[kT] at h;injection h with h;injection h with h;rw[h]
 | bc vs=>cases vs<;>simp[kT] at h
 | _=>simp[kT] at h
theorem X7 {x:V} (h:kT x=some none):x= .bc []:=by
 cases x with
 | bc vs=>cases vs with
  | nil=>rfl
  | cons _ _=>simp[kT] at h
 | bool c=>simp[kT] at h
 | _=>simp[kT] at h
theorem ao.X8 {v:Value} (h:ao P w I β hp v (.bc [])):v= .tuple #[]:=by
 cases h with
 | @bc cs _ hs _=>
  have:cs= #[]:=by
   apply Array.eq_empty_of_size_eq_zero
   simpa using hs
  rw[this]
theorem ao.N6:ao P w I β hp Go.undef (.bc []):= .bc (by rfl) (fun j v x _ hx=>by simp at hx)
theorem N7 (hC:kG P A C) (hP:iG P A) {ops:Array Oper} {n i nb:Nat} {o:Oper} (ho:ops[i]? =some o) {a:Act} {st st':St} {R W:List Nat} (S:aE P w I β st.hp B M w0) (hA:iH P A.idle A.aD w I β n a st)
  (h:gA P A C n ops i o nb st=some (st',R,W)) {K:Act→World→Prop} {Q:Exit→Act→World→Prop}
  (hK: ∀a' w' I' β',Le P w I β st.hp w' I' β' st'.hp→aE P w' I' β' st'.hp B M w0→iH P A.idle A.aD w' I' β' n a' st'→K a' w'):wpOp P ops Q i K a w:=by
 unfold gA at h
 cases hd:rD o n with
 | false=>rw[hd] at h;cases h
 | true=>
  rw[hd] at h
  simp only[cond_true] at h
  have go: ∀{H6:St} {R W:List Nat},(((e9 P A st.sl i (nb+64*i) o).run C st.hp).bind fun r=>some ((⟨gU st.sl o.dst r.1.v,bE st.hp r.1.upd,st.nb⟩:St),pV r.2 r.1.upd,fq st.hp r.1.upd))=some (H6,R,W)→H6=st'→
    o.wp P a w K Q:=by
   intro H6 R W h e
   obtain ⟨⟨r,rd⟩,h1,U⟩:=bind_some h
   cases U
   subst e
   exact X4 hC hP S hA.aD hA.sl h1 K Q fun v w' I' β' ds k1 k2 k3 k4=>hK _ w' I' β' k1 k2 (H5 hA k1 hd k3 k4)
  unfold wpOp
  rw[ho]
  simp only
  cases hg:o.guard with
  | none=>
   rw[hg] at h
   simp only[Region.wanted,hg,dm]
   exact .inl (go h rfl)
  | some gw=>
   obtain ⟨g,want⟩:=gw
   rw[hg] at h
   simp only at h
   cases lk:(ops[g]?).bind (·.dst) with
   | none=>rw[lk] at h;cases h
   | some d=>
    rw[lk] at h
    simp only at h
    cases lX:kT (st.sl d) with
    | none=>rw[lX] at h;cases h
    | some ob=>
    rw[lX] at h
    cases ob with
    | none=>
     have qf:=X7 lX
     have hy:yielded ops a.tmps g=none:=by
      unfold yielded
      rw[lk]
      have:=hA.sl d
      rw[qf] at this
      have hu:=ao.X8 this
      simp only[Option.bind_some]
      cases ht:a.tmps[d]? with
      | none=>rfl
      | some v=>simp[ht] at hu;subst hu;rfl
     simp only[Region.wanted,hg,hy]
     injection h with h
     injection h with h3 h4
     subst h3
     have U:((none:Option Bool)==some want)=false:=rfl
     simp only[U,Bool.false_eq_true,gv]
     exact hK _ w I β (Le.refl w I β st.hp) S (H5 (ds:=a.defers) hA (Le.refl w I β st.hp) hd ao.N6 fun d h=> .inl h)
    | some b=>
    simp only at h
    have qf:=X6 lX
    have hy:yielded ops a.tmps g=some b:=by
     unfold yielded
     rw[lk]
     simp only[Option.bind_some,N5 hA qf]
    simp only[Region.wanted,hg,hy]
    by_cases hb:b=want
    ·subst hb
     simp only[beq_self_eq_true,cond_true] at h
     simp only[beq_self_eq_true,dm]
     exact .inl (go h rfl)
    ·have h1:(b==want)=false:=by simp[hb]
     have U:(some b==some want)=false:=by simp[hb]
     rw[h1] at h
     simp only[cond_false] at h
     injection h with h
     injection h with h3 h4
     subst h3
     simp only[U,Bool.false_eq_true,gv]
     exact hK _ w I β (Le.refl w I β st.hp) S (H5 (ds:=a.defers) hA (Le.refl w I β st.hp) hd ao.N6 fun d h=> .inl h)
def tG (hp hp':Nat→Option an) (c:Nat):Prop:=hp' c=hp c∧(KB≤c→fI (hp' (c-KB))=fI (hp (c-KB)))
theorem tG.symm {c:Nat} (h:tG hp hp' c):tG hp' hp c:=⟨h.1.symm,fun hc=>(h.2 hc).symm⟩
theorem rU {α:Type}: ∀{p:Rd α} {r:α} {rd:List Nat},p.run C hp=some (r,rd)→(∀id∈rd,tG hp hp' id)→p.run C hp'=some (r,rd)
 | .ret a,r,rd,h,_=>h
 | .fail,r,rd,h,_=>by cases h
 | .get id k,r,rd,h,he=>by
  obtain ⟨x,h1,U⟩:=bind_some h
  cases U
  have e1:hp' id=hp id:=(he id (by simp)).1
  have:=rU (p:=k (hp id)) (r:=x.1) (rd:=x.2) h1 (fun i hi=>he i (by simp[hi]))
  simp only[Rd.run,e1,this,Option.bind_some]
 | .live id ok k,r,rd,h,he=>by
  simp only[Rd.run] at h⊢
  cases hk:ok (fI (hp id)) with
  | false=>rw[hk] at h;cases h
  | true=>
   rw[hk] at h
   obtain ⟨x,h1,U⟩:=bind_some h
   cases U
   have e1:fI (hp' id)=fI (hp id):=by
    have:=(he (id+KB) (by simp)).2 (Nat.le_add_left _ _)
    rwa [u4] at this
   have:=rU (p:=k) (r:=x.1) (rd:=x.2) h1 (fun i hi=>he i (by simp[hi]))
   rw[e1,hk,this]
   rfl
 | .opt o k,r,rd,h,he=>by
  obtain ⟨x,h1,U⟩:=bind_some h
  simp only[Rd.run,h1,Option.bind_some]
  exact rU U he
 | .aA b k,r,rd,h,he=>by
  obtain ⟨h1,U⟩:=aF h
  simp only[Rd.run,h1,cond_true]
  exact rU U he
 | .call key ds k,r,rd,h,he=>by
  obtain ⟨x,h1,U⟩:=bind_some h
  simp only[Rd.run,h1,Option.bind_some]
  exact rU U he
 | .alt true x y,r,rd,h,he=>rU (p:=x) h he
 | .alt false x y,r,rd,h,he=>rU (p:=y) h he
theorem X9 {G:Nat→V} {sl sl':Nat→V} {t:TypeId} {x:Operand} (h: ∀k,x= .tmp k→sl k=sl' k):aM P G t sl x=aM P G t sl' x:=by
 cases x with
 | tmp k=>exact h k rfl
 | _=>rfl
theorem Ya {sl sl':Nat→V} {ix nb:Nat} {o:Oper} (h: ∀x∈o.op.operands,∀k,x= .tmp k→sl k=sl' k):e9 P A sl ix nb o=e9 P A sl' ix nb o:=by
 have eH: ∀t x,x∈o.op.operands→aM P A.aD t sl x=aM P A.aD t sl' x:=fun t x hx=>X9 (h x hx)
 obtain ⟨dst,op,ty,pos,after,guard⟩:=o
 have N8: ∀(t:TypeId) (ps:Array (Nat × Operand)),(∀x∈ps.map (·.2),aM P A.aD t sl x=aM P A.aD t sl' x)→
   (ps.toList.map fun p=>(p.1,aM P A.aD t sl p.2))=ps.toList.map fun p=>(p.1,aM P A.aD t sl' p.2):=fun t ps hp=>
  rn fun p hm=>by rw[hp p.2 (Array.mem_map.2 ⟨p,oG.1 hm,rfl⟩)]
 have Yb: ∀(t:TypeId) (ps:Array (Nat × Operand)),(∀x∈ps.map (·.2),aM P A.aD t sl x=aM P A.aD t sl' x)→
   (ps.toList.map fun p=>(aM P A.aD t sl p.2).cells)=ps.toList.map fun p=>(aM P A.aD t sl' p.2).cells:=fun t ps hp=>
  rn fun p hm=>by rw[hp p.2 (Array.mem_map.2 ⟨p,oG.1 hm,rfl⟩)]
 cases op<;>simp only[Op.operands] at eH<;>simp only[e9]
 case pick c x y=>rw[eH ty c (by simp),eH ty x (by simp),eH ty y (by simp)]
 case build t ps=>rw[N8 ty ps fun x hx=>eH ty x (by simpa using hx),Yb ty ps fun x hx=>eH ty x (by simpa using hx)]
 case buildSlice t len ps=>
  split
  ·rename_i e _
   rw[N8 e ps fun x hx=>eH e x (by simpa using hx)]
  ·rfl
 case slice t x lo hi mx=>
  cases mx with
  | some m=>
   have e1:lo.map (aM P A.aD 0 sl)=lo.map (aM P A.aD 0 sl'):=by
    cases lo with
    | none=>rfl
    | some l=>simp only[Option.map_some,eH 0 l (by simp)]
   have e2:hi.map (aM P A.aD 0 sl)=hi.map (aM P A.aD 0 sl'):=by
    cases hi with
    | none=>rfl
    | some l=>simp only[Option.map_some,eH 0 l (by simp)]
   have e3:=eH 0 m (by simp)
   simp only[eH ty x (by simp),e1,e2,e3]
  | none=>
   have e1:lo.map (aM P A.aD 0 sl)=lo.map (aM P A.aD 0 sl'):=by
    cases lo with
    | none=>rfl
    | some l=>simp only[Option.map_some,eH 0 l (by simp)]
   have e2:hi.map (aM P A.aD 0 sl)=hi.map (aM P A.aD 0 sl'):=by
    cases hi with
    | none=>rfl
    | some l=>simp only[Option.map_some,eH 0 l (by simp)]
   simp only[eH ty x (by simp),e1,e2]
 case call c=>
  obtain ⟨callee,args,argTypes⟩:=c
  have tH: ∀t x,x∈args→aM P A.aD t sl x=aM P A.aD t sl' x:=fun t x hx=>eH t x (by simp[Call.operands,hx])
  have hl: ∀t (l:List Operand),(∀x∈l,x∈args)→l.map (aM P A.aD t sl)=l.map (aM P A.aD t sl'):=fun t l hl=>rn fun x hx=>tH t x (hl x hx)
  have hz:((args.toList.zip argTypes.toList).map fun p=>aM P A.aD p.2 sl p.1)=(args.toList.zip argTypes.toList).map fun p=>aM P A.aD p.2 sl' p.1:=
   rn fun p hp=>tH p.2 p.1 (oG.1 (List.of_mem_zip hp).1)
  cases callee with
  | invoke r m=>rfl
  | builtin b=>
   have ca: ∀x∈args.toList,∀t,aM P A.aD t sl x=aM P A.aD t sl' x:=fun x hx t=>tH t x (oG.1 hx)
   have H7: ∀t (l:List Operand),(∀x∈l,∀t,aM P A.aD t sl x=aM P A.aD t sl' x)→l.map (aM P A.aD t sl)=l.map (aM P A.aD t sl'):=fun t l h=>rn fun x hx=>h x hx t
   cases b<;>first|rfl|skip
   case append=>
    dsimp only
    generalize args.toList=al at ca
    match al,ca,argTypes.toList with
    | [s,x],ca,[t,u]=>simp only[ca s (by simp),ca x (by simp)]
    | [],_,_=>rfl
    | [_],_,_=>rfl
    | _::_::_::_,_,_=>rfl
    | [_,_],_,[]=>rfl
    | [_,_],_,[_]=>rfl
    | [_,_],_,_::_::_::_=>rfl
   case copy=>
    dsimp only
    generalize args.toList=al at ca
    match al,ca,argTypes.toList with
    | [s,x],ca,[t,u]=>simp only[ca s (by simp),ca x (by simp)]
    | [],_,_=>rfl
    | [_],_,_=>rfl
    | _::_::_::_,_,_=>rfl
    | [_,_],_,[]=>rfl
    | [_,_],_,[_]=>rfl
    | [_,_],_,_::_::_::_=>rfl
   case len=>
    dsimp only
    generalize args.toList=al at ca
    match al,ca,argTypes.toList with
    | [x],ca,[t]=>simp only[ca x (by simp)]
    | [],_,_=>rfl
    | _::_::_,_,_=>rfl
    | [_],_,[]=>rfl
    | [_],_,_::_::_=>rfl
   case clear=>
    dsimp only
    generalize args.toList=al at ca
    match al,ca,argTypes.toList with
    | [x],ca,[t]=>simp only[ca x (by simp)]
    | [],_,_=>rfl
    | _::_::_,_,_=>rfl
    | [_],_,[]=>rfl
    | [_],_,_::_::_=>rfl
   case unsafeSliceData=>
    dsimp only
    generalize args.toList=al at ca
    match al,ca with
    | [],_=>rfl
    | [x],ca=>simp only[ca x (by simp)]
    | _::_::_,_=>rfl
   case unsafeString=>
    dsimp only
    generalize args.toList=al at ca
    match al,ca,argTypes.toList with
    | [s,x],ca,[t,u]=>simp only[ca s (by simp),ca x (by simp)]
    | [],_,_=>rfl
    | [_],_,_=>rfl
    | _::_::_::_,_,_=>rfl
    | [_,_],_,[]=>rfl
    | [_,_],_,[_]=>rfl
    | [_,_],_,_::_::_::_=>rfl
   case max=>
    dsimp only
    generalize args.toList=al at ca
    match al,ca with
    | [],_=>rfl
    | x::l,ca=>simp only[ca x (by simp),H7 ty l (fun y hy=>ca y (by simp[hy]))]
   case min=>
    dsimp only
    generalize args.toList=al at ca
    match al,ca with
    | [],_=>rfl
    | x::l,ca=>simp only[ca x (by simp),H7 ty l (fun y hy=>ca y (by simp[hy]))]
  | value f=>
   cases f<;>first|rfl|skip
   ·rename_i t
    have ht:sl t=sl' t:=h (.tmp t) (by simp[Op.operands,Call.operands]) t rfl
    simp only[hz,ht]
   ·simp only[hz]
    cases hx:args.toList with
    | nil=>rfl
    | cons x l=>
     cases l with
     | cons _ _=>rfl
     | nil=>simp only[tH ty x (oG.1 (by rw[hx];simp))]
 case defer c=>
  obtain ⟨callee,args,argTypes⟩:=c
  cases callee with
  | invoke r m=>rfl
  | builtin b=>rfl
  | value f=>
   cases f<;>first|rfl|skip
   rename_i t
   have ht:sl t=sl' t:=h (.tmp t) (by simp[Op.operands,Call.operands]) t rfl
   simp only[ht]
 case makeFunc fn a b=>
  cases fn<;>first|rfl|skip
  have e1:a.toList.map (aM P A.aD ty sl)=a.toList.map (aM P A.aD ty sl'):=rn fun x hx=>eH ty x (by simp[oG.1 hx])
  have e2:b.toList.map (aM P A.aD ty sl)=b.toList.map (aM P A.aD ty sl'):=rn fun x hx=>eH ty x (by simp[oG.1 hx])
  dsimp only
  rw[e1,e2]
 case makeMap t r=>cases r<;>rfl
 all_goals first
  | rfl
  | (simp[eH];done)
end
section
variable {P:Program} {A:cA} {w w':World} {I I' I2:Nat→Prop} {μ β β':Nat→Option Nat} {hp hp':Nat→Option an} {C:ag} {B:Nat} {M:Nat→Prop} {w0:Start}
theorem H8 {q:Nat × an} {upd:List (Nat × an)} (h:q∈upd):q.1∈fq hp upd:=by
 unfold fq
 rw[List.mem_flatMap]
 refine ⟨q,h,?_⟩
 cases Nat.beq (fI (hp q.1)) (fI (some q.2))<;>simp
theorem Yc {upd:List (Nat × an)} (h: ∀q∈upd,fI (hp' q.1)=fI (hp q.1)):fq hp' upd=fq hp upd:=by
 unfold fq
 induction upd with
 | nil=>rfl
 | cons q l ih=>
  rw[my,my,ih fun x hx=>h x (kR _ hx),h q (by simp)]
theorem N9 {c:Nat}: ∀{upd:List (Nat × an)},c∉fq hp upd→tG hp (bE hp upd) c:=fun {upd} h=>by
 refine ⟨vZ fun q hq e=>h (e▸H8 hq),fun hc=> ?_⟩
 induction upd with
 | nil=>rfl
 | cons q l ih=>
  have hl:c∉fq hp l:=fun hx=>h (by unfold fq at*;rw[my];exact List.mem_append_right _ hx)
  have hq:fI (hp q.1)=fI (some q.2)∨c≠q.1+KB:=by
   cases hb:Nat.beq (fI (hp q.1)) (fI (some q.2)) with
   | true=>exact .inl (ya hb)
   | false=>
    refine .inr fun e=>h ?_
    unfold fq
    rw[my,hb,e]
    simp
  show fI (aG (bE hp l) q.1 (some q.2) (c-KB))=_
  simp only[aG]
  cases hb:Nat.beq (c-KB) q.1 with
  | false=>exact ih hl
  | true=>
   have e:=ya hb
   rcases hq with hq|hq
   ·rw[cond_true,e];exact hq.symm
   ·exact absurd (by omega) hq
theorem Oa {n i nb:Nat} {ops:Array Oper} {o:Oper} {st st':St} {R W:List Nat} (h:gA P A C n ops i o nb st=some (st',R,W)):
  ∃x upd,st'=⟨gU st.sl o.dst x,bE st.hp upd,st.nb⟩∧W=fq st.hp upd∧∀dM:St,(∀d∈o.looksAt ops,dM.sl d=st.sl d)→(∀id∈R,tG st.hp dM.hp id)→
   gA P A C n ops i o nb dM=some (⟨gU dM.sl o.dst x,bE dM.hp upd,dM.nb⟩,R,W)∧W=fq dM.hp upd:=by
 unfold gA at h
 cases hd:rD o n with
 | false=>rw[hd] at h;cases h
 | true=>
  rw[hd] at h
  simp only[cond_true] at h
  have go:(((e9 P A st.sl i (nb+64*i) o).run C st.hp).bind fun r=>some ((⟨gU st.sl o.dst r.1.v,bE st.hp r.1.upd,st.nb⟩:St),pV r.2 r.1.upd,fq st.hp r.1.upd))=some (st',R,W)→
    ∃x upd,st'=⟨gU st.sl o.dst x,bE st.hp upd,st.nb⟩∧W=fq st.hp upd∧∀dM:St,(∀d∈o.looksAt ops,dM.sl d=st.sl d)→(∀id∈R,tG st.hp dM.hp id)→
     (((e9 P A dM.sl i (nb+64*i) o).run C dM.hp).bind fun r=>some ((⟨gU dM.sl o.dst r.1.v,bE dM.hp r.1.upd,dM.nb⟩:St),pV r.2 r.1.upd,fq dM.hp r.1.upd))=some (⟨gU dM.sl o.dst x,bE dM.hp upd,dM.nb⟩,R,W)∧W=fq dM.hp upd:=by
   intro h
   obtain ⟨⟨r,rd⟩,h1,U⟩:=bind_some h
   cases U
   refine ⟨r.v,r.upd,rfl,rfl,fun dM hs hh=> ?_⟩
   have hw:fq dM.hp r.upd=fq st.hp r.upd:=Yc fun q hq=>by
    have:=(hh (q.1+KB) (List.mem_append_right _ (gx.2 ⟨q,hq,rfl⟩))).2 (Nat.le_add_left _ _)
    rwa [u4] at this
   rw[Ya (sl':=st.sl) fun x hx k hk=> ?_,rU h1 fun c hc=>hh c (List.mem_append_left _ hc)]
   ·refine ⟨?_,hw.symm⟩
    rw[Option.bind_some,hw]
   ·subst hk
    exact hs k (List.mem_append_left _ (List.mem_filterMap.2 ⟨.tmp k,by simpa using hx,rfl⟩))
  cases hg:o.guard with
  | none=>
   rw[hg] at h
   obtain ⟨x,upd,e1,e2,e3⟩:=go h
   refine ⟨x,upd,e1,e2,fun dM hs hh=> ?_⟩
   unfold gA
   simp only[hd,cond_true,hg]
   exact e3 dM hs hh
  | some gw=>
   obtain ⟨g,want⟩:=gw
   rw[hg] at h
   simp only at h
   cases lk:(ops[g]?).bind (·.dst) with
   | none=>rw[lk] at h;cases h
   | some d=>
    rw[lk] at h
    simp only at h
    have H9:d∈o.looksAt ops:=List.mem_append_right _ (by rw[hg];simp[lk])
    cases lX:kT (st.sl d) with
    | none=>rw[lX] at h;cases h
    | some ob=>
    rw[lX] at h
    cases ob with
    | none=>
     injection h with h
     injection h with h3 h4
     injection h4 with h5 h6
     subst h5;subst h6
     refine ⟨.bc [],[],h3.symm,rfl,fun dM hs hh=> ?_⟩
     unfold gA
     simp only[hd,cond_true,hg,lk,hs d H9,lX]
     exact ⟨rfl,rfl⟩
    | some b=>
    simp only at h
    cases hb:b==want with
    | true=>
     rw[hb] at h
     obtain ⟨x,upd,e1,e2,e3⟩:=go h
     refine ⟨x,upd,e1,e2,fun dM hs hh=> ?_⟩
     unfold gA
     simp only[hd,cond_true,hg,lk,hs d H9,lX,hb]
     exact e3 dM hs hh
    | false=>
     rw[hb] at h
     simp only[cond_false] at h
     injection h with h
     injection h with h3 h4
     injection h4 with h5 h6
     subst h5;subst h6
     refine ⟨.bc [],[],h3.symm,rfl,fun dM hs hh=> ?_⟩
     unfold gA
     simp only[hd,cond_true,hg,lk,hs d H9,lX,hb,cond_false]
     exact ⟨rfl,rfl⟩
theorem Ob {sl:Nat→V} {d:Option Nat} {x:V} {k:Nat} (h:d≠some k):gU sl d x k=sl k:=by
 cases d with
 | none=>rfl
 | some d=>exact dS _ _ fun e=>h (by rw[e])
theorem Yd {hp:Nat→Option an} {a b:List (Nat × an)} (h: ∀q∈a,∀q'∈b,q.1≠q'.1):bE (bE hp a) b=bE (bE hp b) a:=by
 funext id
 by_cases ha: ∃q∈a,q.1=id
 ·have hb: ∀q∈b,q.1≠id:=by
   obtain ⟨q,hq,rfl⟩:=ha
   exact fun q' zy e=>h q hq q' zy e.symm
  rw[vZ hb]
  obtain ⟨q,hq,rfl⟩:=ha
  have same: ∀(bm gC:Nat→Option an) (l:List (Nat × an)) (q:Nat × an),q∈l→bE bm l q.1=bE gC l q.1:=by
   intro bm gC l
   induction l with
   | nil=>intro q hq;simp at hq
   | cons p l ih=>
    intro q hq
    simp only[bE,aG]
    cases hb:Nat.beq q.1 p.1 with
    | true=>rfl
    | false=>
     simp only[cond_false]
     refine ih q ((df.1 hq).resolve_left fun e=> ?_)
     rw[e,jl] at hb;cases hb
  exact same _ _ a q hq
 ·rw[vZ (hp:=bE hp b) (l:=a) fun q hq e=>ha ⟨q,hq,e⟩]
  have same: ∀(bm gC:Nat→Option an) (l:List (Nat × an)),bm id=gC id→bE bm l id=bE gC l id:=by
   intro bm gC l he
   induction l with
   | nil=>exact he
   | cons p l ih=>
    simp only[bE,aG]
    cases hb:Nat.beq id p.1 with
    | true=>rfl
    | false=>exact ih
  exact same _ _ b (vZ fun q hq e=>ha ⟨q,hq,e⟩)
structure Oc (ops:Array Oper) (o1 o2:Oper) (R1 W1 R2 W2:List Nat):Prop where
 apart:Oper.apart ops o1 o2=true
 w: ∀id∈W1,id∉R2∧id∉W2
 r: ∀id∈R1,id∉W2
theorem Ye {n i j nb:Nat} {ops:Array Oper} {o1 o2:Oper} {st iI dM:St} {R1 W1 R2 W2:List Nat} (h1:gA P A C n ops i o1 nb st=some (iI,R1,W1)) (U:gA P A C n ops j o2 nb iI=some (dM,R2,W2))
  (hi:Oc ops o1 o2 R1 W1 R2 W2): ∃Dx,gA P A C n ops j o2 nb st=some (Dx,R2,W2)∧gA P A C n ops i o1 nb Dx=some (dM,R1,W1):=by
 obtain ⟨x1,u1,e1,f1,g1⟩:=Oa h1
 obtain ⟨x2,u2,e2,f2,g2⟩:=Oa U
 obtain ⟨a1,a2,a3⟩:=Oper.apart_spec hi.apart
 subst e1
 have k2:=g2 st (fun d hd=>by simp only;rw[Ob fun e=>a1 d e hd]) fun c hc=>(N9 fun hw=>(hi.w c (by rw[f1];exact hw)).1 hc).symm
 refine ⟨_,k2.1,?_⟩
 rw[(g1 _ (fun d hd=> ?_) (fun c hd=> ?_)).1,e2]
 ·congr 3
  ·funext k
   cases Dy:o1.dst with
   | none=>rfl
   | some d1=>
    cases iA:o2.dst with
    | none=>rfl
    | some d2=>
     have bu:d2≠d1:=fun e=>a2 d1 Dy (by rw[iA,e])
     simp only[gU,aG]
     cases Od:Nat.beq k d1<;>cases lY:Nat.beq k d2<;>simp only[cond_true,cond_false]
     rw[aQ] at Od lY
     exact absurd (lY.symm.trans Od) bu
  ·exact (Yd fun q hq q' zy e=>(hi.w q.1 (by rw[f1];exact H8 hq)).2 (by rw[f2,e];exact H8 zy)).symm
 ·simp only
  rw[Ob fun e=>a3 d e hd]
 ·exact N9 fun hw=>hi.r c hd (by rw[k2.2];exact hw)
def v9 (P:Program) (A:cA) (C:ag) (n:Nat) (ops:Array Oper) (nb:Nat):List (Nat × Oper × List Nat × List Nat)→St→St→Prop
 | [],st,st'=>st=st'
 | (i,o,R,W)::l,st,st'=> ∃iI,gA P A C n ops i o nb st=some (iI,R,W)∧v9 P A C n ops nb l iI st'
def tI (x:Nat × Oper × List Nat × List Nat):Nat × List Nat × List Nat:=(x.1,x.2.2.1,x.2.2.2)
theorem Oe {n nb:Nat} {ops:Array Oper}: ∀{l:List (Nat × Oper)} {st st':St} {log Dz:Log},oO P A C n ops nb l st log=some (st',Dz)→
  ∃g,g.map (fun x=>(x.1,x.2.1))=l∧Dz=log++g.map tI∧v9 P A C n ops nb g st st'
 | [],st,st',log,Dz,h=>by
  cases h
  exact ⟨[],rfl,by simp,rfl⟩
 | (i,o)::l,st,st',log,Dz,h=>by
  obtain ⟨⟨iI,R,W⟩,h1,U⟩:=bind_some h
  obtain ⟨g,a,b,c⟩:=Oe U
  exact ⟨(i,o,R,W)::g,by simp[a],by simp[b,tI],iI,h1,c⟩
def Of (ops:Array Oper) (x y:Nat × Oper × List Nat × List Nat):Prop:=Oc ops x.2.1 y.2.1 x.2.2.1 x.2.2.2 y.2.2.1 y.2.2.2
theorem Og {n nb:Nat} {ops:Array Oper} {y:Nat × Oper × List Nat × List Nat} {g2:List (Nat × Oper × List Nat × List Nat)}: ∀{g1:List (Nat × Oper × List Nat × List Nat)} {st st':St},
  v9 P A C n ops nb (g1++y::g2) st st'→(∀x∈g1,Of ops x y)→∃iI,gA P A C n ops y.1 y.2.1 nb st=some (iI,y.2.2.1,y.2.2.2)∧v9 P A C n ops nb (g1++g2) iI st'
 | [],st,st',h,_=>h
 | x::g1,st,st',h,hi=>by
  obtain ⟨iI,h1,U⟩:=h
  obtain ⟨dM,h3,h4⟩:=Og U fun z hz=>hi z (kR _ hz)
  obtain ⟨Dx,h5,h6⟩:=Ye h1 h3 (hi x (by simp))
  exact ⟨Dx,h5,dM,h6,h4⟩
theorem Oh (hC:kG P A C) (hP:iG P A) {n nb:Nat} {ops:Array Oper} {Q:Exit→Act→World→Prop}: ∀{g:List (Nat × Oper × List Nat × List Nat)} {st st':St} {a:Act} {w:World} {I:Nat→Prop} {β:Nat→Option Nat},
  v9 P A C n ops nb g st st'→(∀x∈g,ops[x.1]? =some x.2.1)→aE P w I β st.hp B M w0→iH P A.idle A.aD w I β n a st→
  (∀a' w' I' β',Le P w I β st.hp w' I' β' st'.hp→aE P w' I' β' st'.hp B M w0→iH P A.idle A.aD w' I' β' n a' st'→Q .normal a' w')→wpOps P ops Q (g.map (·.1)) a w
 | [],st,st',a,w,I,β,h,_,S,hA,hQ=>by
  cases h
  exact hQ a w I β (Le.refl w I β _) S hA
 | x::g,st,st',a,w,I,β,h,ho,S,hA,hQ=>by
  obtain ⟨iI,h1,U⟩:=h
  rw[cO,wpOps_cons]
  refine N7 hC hP (ho x (by simp)) S hA h1 fun a' w' I' β' k1 k2 k3=> ?_
  exact Oh hC hP U (fun y hy=>ho y (kR _ hy)) k2 k3 fun a2 w2 I2 bP m1 m2 m3=>hQ a2 w2 I2 bP (k1.trans m1) m2 m3
end
section
variable {P:Program} {A:cA} {w w':World} {I I' I2:Nat→Prop} {μ β β':Nat→Option Nat} {hp hp':Nat→Option an} {C:ag} {B:Nat} {M:Nat→Prop} {w0:Start}
inductive tJ (ops:Array Oper):Nat→Nat→Prop
 | Oi {i x:Nat} {o:Oper} {e:Edge}:ops[i]? =some o→e∈o.after→Region.binds .any e=true→e.on=x→tJ ops i x
 | trans {i x:Nat} {o:Oper} {e:Edge}:ops[i]? =some o→e∈o.after→Region.binds .any e=true→tJ ops e.on x→tJ ops i x
theorem Oj {acc:Array Nat} {x:Nat}: ∀{l:List Edge} {s:Nat},(l.foldl (fun s e=>if Region.binds .any e then s|||2^e.on|||acc.getD e.on 0 else s) s).testBit x=true→
  s.testBit x=true∨∃e∈l,Region.binds .any e=true∧(e.on=x∨(acc.getD e.on 0).testBit x=true)
 | [],s,h=> .inl h
 | e::l,s,h=>by
  simp only[List.foldl_cons] at h
  rcases Oj h with h1|⟨e',a,b⟩
  ·by_cases hb:Region.binds .any e=true
   ·rw[aj hb,Nat.testBit_or,Nat.testBit_or,Bool.or_eq_true,Bool.or_eq_true] at h1
    rcases h1 with (h1|h1)|h1
    ·exact .inl h1
    ·rw[Nat.testBit_two_pow] at h1
     exact .inr ⟨e,by simp,hb,.inl (by simpa using h1)⟩
    ·exact .inr ⟨e,by simp,hb,.inr h1⟩
   ·rw[ai hb] at h1
    exact .inl h1
  ·exact .inr ⟨e',kR _ a,b⟩
theorem Ol {ops:Array Oper} {x:Nat}: ∀{l:List Oper} {acc:Array Nat},(∀j o,l[j]? =some o→ops[acc.size+j]? =some o)→(∀j,(acc.getD j 0).testBit x=true→tJ ops j x)→
  ∀j,((l.foldl (fun acc o=>acc.push (o.after.foldl (fun s e=>if Region.binds .any e then s|||2^e.on|||acc.getD e.on 0 else s) 0)) acc).getD j 0).testBit x=true→tJ ops j x
 | [],acc,_,DA,j,h=>DA j h
 | o::l,acc,hl,DA,j,h=>by
  simp only[List.foldl_cons] at h
  refine Ol (l:=l) ?_ ?_ j h
  ·intro j o' hj
   have:=hl (j+1) o' (by simpa using hj)
   rw[Array.size_push]
   rwa [show acc.size+1+j=acc.size+(j+1) by omega]
  ·intro k hk
   simp only[u5,Array.getElem?_push] at hk
   by_cases bf:k=acc.size
   ·rw[aj bf] at hk
    simp only[Option.getD_some] at hk
    rw[←BT] at hk
    have ho:=hl 0 o rfl
    rw[Nat.add_zero] at ho
    rw[bf]
    have lY:(o.after.toList.foldl (fun s e=>if Region.binds .any e then s|||2^e.on|||acc.getD e.on 0 else s) 0).testBit x=true:=by simpa[u5] using hk
    rcases Oj lY with h0|⟨e,he,hb,h1⟩
    ·simp at h0
    ·rcases h1 with h1|h1
     ·exact .Oi ho (oG.1 he) hb h1
     ·exact .trans ho (oG.1 he) hb (DA _ h1)
   ·rw[ai bf] at hk
    exact DA k (by simpa[u5] using hk)
theorem Yf {ops:Array Oper} {i x:Nat} (h:((Region.before ops).getD i 0).testBit x=true):tJ ops i x:=by
 unfold Region.before at h
 rw[←BT] at h
 refine Ol (l:=ops.toList) (acc:= #[]) (fun j o hj=>by simpa using hj) (fun j hj=>by simp at hj) i h
def Om (ops:Array Oper) (fw:Array Bool):Prop:= ∀i o,ops[i]? =some o→fw.getD i false=true→∀e∈o.after,Region.binds .any e=true→fw.getD e.on false=true
theorem Yg {ops:Array Oper} {fw:Array Bool} (hc:Om ops fw) {i x:Nat} (h:tJ ops i x) (hi: ∀o,ops[i]? =some o→∀e∈o.after,Region.binds .any e=true→fw.getD e.on false=true):fw.getD x false=true:=by
 induction h with
 | Oi ho he hb hx=>rw[←hx];exact hi _ ho _ he hb
 | trans ho he hb _ ih=>exact ih fun o' iX e' gF az=>hc _ o' iX (hi _ ho _ he hb) e' gF az
theorem On: ∀{l:List Oper} {k j:Nat} {o:Oper},yH k l=true→l[j]? =some o→∀e∈o.after,Region.binds .any e=true→e.on<k+j
 | [],k,j,o,_,h=>by simp at h
 | o'::l,k,j,o,hk,h=>by
  simp only[yH,aI] at hk
  cases j with
  | zero=>
   simp at h
   subst h
   intro e he hb
   have:=e6.1 hk.1 e (oG.2 he)
   simp[hb] at this
   omega
  | succ j=>
   intro e he hb
   have:=On hk.2 (j:=j) (by simpa using h) e he hb
   omega
theorem Oo {ops:Array Oper} {sY:Array Nat}: ∀{l:Log},Cq ops sY l=true→l.Pairwise fun x y=>yG ops sY x y=true
 | [],_=> .nil
 | x::l,h=>by
  simp only[Cq,aI] at h
  exact .cons (fun y hy=>e6.1 h.1 y hy) (Oo h.2)
theorem Oq {fw:Array Bool} {i:Nat} (h:fw.getD i true=false):i<fw.size∧fw.getD i false=false:=by
 rcases oE i fw.size with h'|h'
 ·refine ⟨h',?_⟩
  simpa[h'] using h
 ·simp[Array.getElem?_eq_none h'] at h
theorem Ot (hC:kG P A C) (hP:iG P A) {n nb:Nat} {ops:Array Oper} {Q:Exit→Act→World→Prop} (DB:yH 0 ops.toList=true):
  ∀(fuel:Nat) {g:List (Nat × Oper × List Nat × List Nat)} {fw:Array Bool} {st st':St} {a:Act} {w:World} {I:Nat→Prop} {β:Nat→Option Nat},
  g.length=fuel→v9 P A C n ops nb g st st'→(∀x∈g,ops[x.1]? =some x.2.1)→(g.map (·.1)).Pairwise (· < ·)→(g.map tI).Pairwise (fun x y=>yG ops (Region.before ops) x y=true)→
  fw.size=ops.size→(∀i,i<ops.size→(fw.getD i false=false↔i∈g.map (·.1)))→Om ops fw→
  aE P w I β st.hp B M w0→iH P A.idle A.aD w I β n a st→
  (∀a' w' I' β',Le P w I β st.hp w' I' β' st'.hp→aE P w' I' β' st'.hp B M w0→iH P A.idle A.aD w' I' β' n a' st'→Q .normal a' w')→wpAny P .any ops Q fuel fw a w
 | 0,g,fw,st,st',a,w,I,β,hf,hr,ho,aO,DC,aU,tK,kE,S,hA,hQ=>by
  obtain rfl:g=[]:=kQ hf
  cases hr
  refine ⟨?_,hQ a w I β (Le.refl w I β _) S hA⟩
  rw[List.eq_nil_iff_forall_not_mem]
  intro i hi
  obtain ⟨h0,_⟩:=mem_ready.1 hi
  obtain ⟨h1,U⟩:=Oq h0
  have:=(tK i (by omega)).1 U
  simp at this
 | fuel+1,g,fw,st,st',a,w,I,β,hf,hr,ho,aO,DC,aU,tK,kE,S,hA,hQ=>by
  refine ⟨fun zA=> ?_,fun i hi=> ?_⟩
  ·exfalso
   cases g with
   | nil=>simp at hf
   | cons x g=>
    have hx:=ho x (by simp)
    have ga:x.1<ops.size:=(gR.1 hx).1
    have lb:x.1∈Region.ready .any ops fw:=by
     rw[mem_ready]
     have h0:=(tK x.1 ga).2 (by simp)
     refine ⟨?_,x.2.1,hx,fun e he hb=> ?_⟩
     ·have hl:x.1<fw.size:=by omega
      simpa[hl] using h0
     ·have Hr:=On DB (j:=x.1) (by simpa using hx) e he hb
      rw[fS] at Hr
      cases hle:fw.getD e.on false with
      | true=>rfl
      | false=>
       have hm:=(tK e.on (by omega)).1 hle
       simp only[cO,df] at hm
       rw[cO,sN] at aO
       rcases hm with hm|hm
       ·omega
       ·have:=aO.1 _ hm;omega
    rw[zA] at lb
    cases lb
  ·obtain ⟨h0,oi,zC,Ou⟩:=mem_ready.1 hi
   obtain ⟨h1,U⟩:=Oq h0
   have Yh:=(tK i (by omega)).1 U
   obtain ⟨y,hy,Yi⟩:=gx.1 Yh
   obtain ⟨g1,g2,rfl⟩:=List.append_of_mem hy
   subst Yi
   have Ov:=ho y hy
   rw[zC] at Ov
   have Ow:oi=y.2.1:=cY Ov
   have j4:((g1++y::g2).map (·.1)).Nodup:=aO.imp fun h=>Nat.ne_of_lt h
   have Yj: ∀x∈g1,Of ops x y:=by
    intro x hx
    have hp:yG ops (Region.before ops) (tI x) (tI y)=true:=by
     rw[fU,cO,List.pairwise_append] at DC
     exact DC.2.2 _ (gx.2 ⟨x,hx,rfl⟩) _ (by simp)
    have Ia:=ho x (eh.2 (.inl hx))
    unfold yG at hp
    rw[Bool.or_eq_true] at hp
    rcases hp with hp|hp
    ·have hl:=Yg kE (Yf hp) fun o iX e he hb=>by
      have:o=oi:=by
       have h3:ops[y.1]? =some o:=iX
       rw[zC] at h3
       exact (cY h3).symm
      subst this
      exact Ou e he hb
     have ga:x.1<ops.size:=(gR.1 Ia).1
     have:=(tK x.1 ga).2 (gx.2 ⟨x,eh.2 (.inl hx),rfl⟩)
     rw[show (tI x).1=x.1 from rfl,this] at hl
     cases hl
    ·simp only[tI,u5,Ia,zC,Option.getD_some,aI,ki] at hp
     obtain ⟨q1,q2,q3⟩:=hp
     refine ⟨Ow▸q1,fun id ab=> ?_,fun id ab=>Dp q3 ab⟩
     have:=Dp q2 ab
     rw[eh] at this
     exact ⟨fun h=>this (.inl h),fun h=>this (.inr h)⟩
   obtain ⟨iI,iy,mQ⟩:=Og hr Yj
   rw[←Ow] at iy
   refine N7 hC hP zC S hA iy fun a' w' I' β' k1 k2 k3=> ?_
   have jX:List.Sublist (g1++g2) (g1++y::g2):=List.Sublist.append_left (List.sublist_cons_self y g2) g1
   have s0: ∀j,j≠y.1→(fw.setIfInBounds y.1 true).getD j false=fw.getD j false:=fun j hj=>getD_set_ne false (Ne.symm hj)
   refine Ot hC hP DB fuel (g:=g1++g2) (st':=st') ?_ mQ (fun x hx=>ho x (jX.subset hx)) (aO.sublist (jX.map _)) (DC.sublist (jX.map _)) (by simp[aU]) (fun j hj=> ?_) (fun j o Ib b8 e he hb=> ?_) k2 k3 fun a2 w2 I2 bP m1 m2 m3=>hQ a2 w2 I2 bP (k1.trans m1) m2 m3
   ·simp at hf⊢;omega
   ·by_cases oV:j=y.1
    ·subst oV
     have hl:y.1<fw.size:=by omega
     simp only[u5,Gj hl,Option.getD_some]
     refine ⟨fun h=>(by cases h),fun h=> ?_⟩
     exfalso
     rw[fU,cO,BX,List.nodup_cons] at j4
     rw[fU,eh] at h
     rcases h with h|h
     ·exact j4.2.2 _ h _ (by simp) rfl
     ·exact j4.2.1.1 h
    ·rw[s0 j oV,tK j hj]
     simp only[fU,cO,eh,df]
     constructor
     ·rintro (h|h|h)
      ·exact .inl h
      ·exact absurd h oV
      ·exact .inr h
     ·rintro (h|h)
      ·exact .inl h
      ·exact .inr (.inr h)
   ·by_cases oV:j=y.1
    ·subst oV
     rw[zC] at Ib
     cases Ib
     exact getD_set_true (Ou e he hb)
    ·rw[s0 j oV] at b8
     exact getD_set_true (kE j o Ib b8 e he hb)
end
section
variable {P:Program} {A:cA} {w w':World} {I I' I2:Nat→Prop} {μ β β':Nat→Option Nat} {hp hp':Nat→Option an} {C:ag} {B:Nat} {M:Nat→Prop} {w0:Start}
theorem Ox: ∀{l:List Oper} {k j:Nat},(nL k l)[j]? =(l[j]?).map fun o=>(k+j,o)
 | [],k,j=>by simp[nL]
 | o::l,k,0=>by simp[nL]
 | o::l,k,j+1=>by
  simp only[nL,List.getElem?_cons_succ,Ox]
  congr 1
  funext o
  rw[show k+1+j=k+(j+1) by omega]
theorem Oy: ∀{l:List Oper} {k:Nat},(nL k l).map (·.1)=List.range' k l.length
 | [],k=>rfl
 | o::l,k=>by simp[nL,Oy,List.range'_succ]
theorem Yk (hC:kG P A C) (hP:iG P A) (hm:P.follows .mixedOrders=true) {n id:Nat} {ops:Array Oper} {draw:Bool} {st st':St} {a:Act} {Q:Exit→Act→World→Prop}
  (h:yJ P A C n ops draw st=some st') (S:aE P w I β st.hp B M w0) (hA:iH P A.idle A.aD w I β n a st)
  (hQ: ∀a' w' I' β',Le P w I β st.hp w' I' β' st'.hp→aE P w' I' β' st'.hp B M w0→iH P A.idle A.aD w' I' β' n a' st'→Q .normal a' w'):(Code.region id ops draw).wp P Q a w:=by
 obtain ⟨⟨iI,log⟩,h1,U⟩:=bind_some h
 obtain ⟨g,g1,g2,g3⟩:=Oe h1
 have DD:g.map (·.1)=List.range ops.size:=by
  have:g.map (·.1)=(g.map fun x=>(x.1,x.2.1)).map (·.1):=by simp
  rw[this,g1,Oy,List.range_eq_range']
  simp
 have Oz: ∀x∈g,ops[x.1]? =some x.2.1:=by
  intro x hx
  have:(x.1,x.2.1)∈nL 0 ops.toList:=by rw[←g1];exact gx.2 ⟨x,hx,rfl⟩
  obtain ⟨j,hj⟩:=List.mem_iff_getElem?.1 this
  rw[Ox] at hj
  cases ho:ops.toList[j]? with
  | none=>rw[ho] at hj;cases hj
  | some o=>
   rw[ho] at hj
   simp only[Option.map_some,fS,dG,jL] at hj
   rw[←hj.1,←hj.2]
   simpa using ho
 cases draw with
 | false=>
  simp only[sO,Bool.true_or,cond_true] at U
  cases U
  refine wp_region ?_
  rw[←DD]
  exact Oh hC hP g3 Oz S hA hQ
 | true=>
  simp only[pI,Bool.false_or] at U
  cases hc:(Region.noSelect ops&&yI ops log) with
  | false=>rw[hc] at U;cases U
  | true=>
   rw[hc] at U
   cases U
   simp only[aI,yI] at hc
   obtain ⟨hns,DB,Yl⟩:=hc
   simp only[List.nil_append] at g2
   refine wp_region_any hm ?_
   have hlen:g.length=ops.size:=by
    have:=congrArg List.length DD
    simpa using this
   refine Ot hC hP DB ops.size (g:=g) (st':=st') hlen g3 Oz (by rw[DD];exact List.pairwise_lt_range) (by rw[←g2];exact Oo Yl) (by simp) (fun i hi=> ?_) (fun i o ho hl=> ?_)
    (w:=w.drew) S.drew ⟨fun k=>(hA.sl k).mono (Le.drew w I β _),hA.size,hA.defers,hA.aD.mono (Le.drew (P:=P) w I β st.hp).c9 (Le.drew (P:=P) w I β st.hp).b6⟩ fun a' w' I' β' k1 k2 k3=>hQ a' w' I' β' ((Le.drew w I β _).trans k1) k2 k3
   ·rw[DD]
    simp[hi]
   ·have hi:=(gR.1 ho).1
    simp[hi] at hl
end
section
variable {P:Program} {A:cA} {E:FuncId→Bool} {G:Nat→V} {w w':World} {I I' I2:Nat→Prop} {μ β β':Nat→Option Nat} {hp hp':Nat→Option an} {C:ag} {B:Nat} {M:Nat→Prop} {w0:Start}
theorem tL: ∀{l:List Nat} {hp:Nat→Option an} {I:Nat→Prop},aE P w I β hp B M w0→∃I',Le P w I β hp w I' β (sX hp l)∧aE P w I' β (sX hp l) B M w0
 | [],hp,I,S=>⟨I,Le.refl w I β hp,S⟩
 | id::l,hp,I,S=>by
  simp only[sX]
  cases ab:hp id with
  | none=>exact tL S
  | some blk=>
   cases blk with
   | dead=>exact tL S
   | var _=>exact tL S
   | map _ _=>exact tL S
   | arr e es fz=>
    obtain ⟨h1,U⟩:=yT S (upd:=[(id,.arr e es true)]) (fun p hp=>by
     simp only[dW] at hp
     subst hp
     exact ⟨e,es,rfl,.inl ⟨fz,ab⟩⟩)
    obtain ⟨I',h3,h4⟩:=tL (l:=l) U
    exact ⟨I',h1.trans h3,h4⟩
   | nest e es aq=>
    obtain ⟨h1,U⟩:=yT S (upd:=[(id,.arr e es true)]) (fun p hp=>by
     simp only[dW] at hp
     subst hp
     exact ⟨e,es,rfl,.inr ⟨aq,ab⟩⟩)
    obtain ⟨I',h3,h4⟩:=tL (l:=l) U
    exact ⟨I',h1.trans h3,h4⟩
theorem OA {n m:Nat} {pur:List Nat} {a:Act} {st:St} (S:aE P w I β st.hp B M w0) (hA:iH P E G w I β n a st):
  ∃I',Le P w I β st.hp w I' β (freeze m pur st).hp∧aE P w I' β (freeze m pur st).hp B M w0∧iH P E G w I' β n a (freeze m pur st):=by
 obtain ⟨I',h1,U⟩:=tL (l:=(L1 st pur).filter fun id=>Nat.ble m id) S
 exact ⟨I',h1,U,fun k=>(hA.sl k).mono h1,hA.size,hA.defers,hA.aD.mono h1.c9 h1.b6⟩
structure wa (hp:Nat→Option an) (β:Nat→Option Nat) (ord:List Nat) (hp':Nat→Option an) (β':Nat→Option Nat):Prop where
 arr: ∀(j:Nat) id e es fz,ord[j]? =some id→hp id=some (.arr e es fz)→hp' j=some (.arr e es fz)
 var: ∀(j:Nat) id T cs,ord[j]? =some id→hp id=some (.var T cs)→∃hO,hp' j=some (.var T hO)
 dead: ∀(j:Nat) id,ord[j]? =some id→hp id=some .dead→hp' j=some .dead
 place: ∀(j:Nat) id,ord[j]? =some id→β' j=β id
 nest: ∀(j:Nat) id e es aq,ord[j]? =some id→hp id=some (.nest e es aq)→hp' j=some (.nest e es (aq.map fun _=>0))
 map: ∀(j:Nat) id t es,ord[j]? =some id→hp id=some (.map t es)→hp' j=some (.map t es)
theorem ll: ∀{l:List Nat} {n i j:Nat},gV l n i=some j→∃k,j=i+k∧l[k]? =some n
 | [],n,i,j,h=>by cases h
 | a::l,n,i,j,h=>by
  simp only[gV] at h
  cases hb:Nat.beq n a with
  | true=>
   rw[hb] at h
   cases h
   rw[aQ] at hb
   exact ⟨0,rfl,by rw[hb];rfl⟩
  | false=>
   rw[hb] at h
   obtain ⟨k,h1,U⟩:=ll h
   exact ⟨k+1,by omega,by simpa using U⟩
def kH (hp':Nat→Option an) (β':Nat→Option Nat) (n:Nat) (bs:List an):Prop:=
 ∀(k:Nat) b,bs[k]? =some b→hp' (n+k)=some b∧β' (n+k)=none
theorem Ic: ∀(aq:List Nat) (k:Nat),bA (aq.map fun _=>0) k=0
 | [],_=>rfl
 | _::_,0=>rfl
 | _::vs,k+1=>Ic vs k
theorem OB {e:TypeId} {es:List V} {aq:List Nat} {path:Path} {ver:Nat} (hc:(Nat.blt 0 path.length&&(Nat.ble path.length aq.length&&Nat.beq (bA aq (path.length-1)) ver))=true)
  (h:(an.nest e es aq).s4 path ver):False:=by
 simp only[aI,jK,dN,aQ] at hc
 obtain ⟨h1,U,h3⟩:=hc
 rcases h with h|h|h
 ·subst h;simp at h1
 ·omega
 ·omega
theorem OC (S:aE P w I β hp B M w0) {ord:List Nat} (hR:wa hp β ord hp' β') {v:Value} {x:V} (hv:ao P w I β hp v x):ao P w I β' hp' v (gW hp ord x):=by
 cases hv with
 | undef=>exact .undef
 | int=>exact .int
 | bool=>exact .bool
 | str h=>exact .str h
 | list h=>exact .list h
 | nilS=>exact .nilS
 | agg=>exact .undef
 | bc=>exact .undef
 | c8=>exact .c8
 | fn=>exact .undef
 | pref a b c=>exact .pref a b c
 | @dQ _ e id ab=>
  simp only[gW]
  cases bm:gV ord id 0 with
  | none=>simp only[ab];exact .undef
  | some j=>
   obtain ⟨k,rfl,hk⟩:=ll bm
   exact .dQ (hR.dead _ id (by simpa using hk) ab)
 | @fJ _ e id off len ab=>
  simp only[gW]
  cases bm:gV ord id 0 with
  | none=>simp only[ab];exact .undef
  | some j=>
   obtain ⟨k,rfl,hk⟩:=ll bm
   exact .fJ (hR.dead _ id (by simpa using hk) ab)
 | @jT _ id i c ab=>
  simp only[gW]
  cases bm:gV ord id 0 with
  | none=>exact .undef
  | some j=>
   obtain ⟨k,rfl,hk⟩:=ll bm
   exact .jT (hR.dead _ id (by simpa using hk) ab)
 | @dt e id fz _ ab hb=>
  simp only[gW]
  cases bm:gV ord id 0 with
  | none=>
   simp only[ab]
   cases fz with
   | false=>exact .undef
   | true=>simp only[jl,cond_true];exact .list (.any fun _=>rfl)
  | some j=>
   obtain ⟨k,rfl,hk⟩:=ll bm
   have db:ord[0+k]? =some id:=by simpa using hk
   exact .dt (hR.arr _ id _ _ _ db ab) ((hR.place _ id db).trans hb)
 | @whole e id es fz b cap ab hb aU bU hm=>
  simp only[gW]
  cases bm:gV ord id 0 with
  | none=>
   simp only[ab]
   cases fz with
   | false=>exact .undef
   | true=>
    simp only[jl,cond_true]
    have hr:=S.h.rel id _ ab
    cases hr with
    | dv az=>rw[az] at hb;cases hb
    | arr au az hh hs hf dR hx=>
     rw[hb] at az;cases az
     have:=s9 (I':=I) (off:=0) (len:=es.length) (o:=0) hh hx (fb au) (by omega) bU (fun _=>by simp) (fun _ h=>h) (hf rfl)
     exact .list (by simpa using this)
  | some j=>
   obtain ⟨k,rfl,hk⟩:=ll bm
   have db:ord[0+k]? =some id:=by simpa using hk
   exact .whole (hR.arr _ id _ _ _ db ab) ((hR.place _ id db).trans hb) aU bU hm
 | @fu e id fz _ ab hb=>
  simp only[gW]
  cases bm:gV ord id 0 with
  | none=>
   simp only[ab]
   cases fz with
   | false=>exact .undef
   | true=>simp only[jl,cond_true];exact .list (by simpa using (iv.any (P:=P) fun _=>rfl))
  | some j=>
   obtain ⟨k,rfl,hk⟩:=ll bm
   have db:ord[0+k]? =some id:=by simpa using hk
   exact .fu (hR.arr _ id _ _ _ db ab) ((hR.place _ id db).trans hb)
 | @sub e id off len es fz b o cap ab hb ky bU ho=>
  simp only[gW]
  cases bm:gV ord id 0 with
  | none=>
   simp only[ab]
   cases fz with
   | false=>exact .undef
   | true=>
    simp only[jl,cond_true]
    have hr:=S.h.rel id _ ab
    cases hr with
    | dv az=>rw[az] at hb;cases hb
    | arr au az hh hs hf dR hx=>
     rw[hb] at az;cases az
     exact .list (s9 (I':=I) hh hx (fb au) ky bU ho (fun _ h=>h) (hf rfl))
  | some j=>
   obtain ⟨k,rfl,hk⟩:=ll bm
   have db:ord[0+k]? =some id:=by simpa using hk
   exact .sub (hR.arr _ id _ _ _ db ab) ((hR.place _ id db).trans hb) ky bU ho
 | @ptr id i c b blk ab hd hb=>
  simp only[gW]
  cases bm:gV ord id 0 with
  | none=>exact .undef
  | some j=>
   obtain ⟨k,rfl,hk⟩:=ll bm
   have db:ord[0+k]? =some id:=by simpa using hk
   cases blk with
   | dead=>exact absurd rfl hd
   | var T0 cs=>
    obtain ⟨hO,h'⟩:=hR.var _ id T0 cs db ab
    exact .ptr (blk:= .var T0 hO) h' (by simp) ((hR.place _ id db).trans hb)
   | arr e es fz=>exact .ptr (blk:= .arr e es fz) (hR.arr _ id _ _ _ db ab) (by simp) ((hR.place _ id db).trans hb)
   | nest e es aq=>exact .ptr (blk:= .nest e es (aq.map fun _=>0)) (hR.nest _ id _ _ _ db ab) (by simp) ((hR.place _ id db).trans hb)
   | map t es=>exact .ptr (blk:= .map t es) (hR.map _ id _ _ db ab) (by simp) ((hR.place _ id db).trans hb)
 | dh=>exact .dh
 | @gZ _ t id ab=>
  simp only[gW]
  cases bm:gV ord id 0 with
  | none=>exact .undef
  | some j=>
   obtain ⟨k,rfl,hk⟩:=ll bm
   exact .gZ (hR.dead _ id (by simpa using hk) ab)
 | @cp t id b es ab hb=>
  simp only[gW]
  cases bm:gV ord id 0 with
  | none=>exact .undef
  | some j=>
   obtain ⟨k,rfl,hk⟩:=ll bm
   have db:ord[0+k]? =some id:=by simpa using hk
   exact .cp (hR.map _ id _ _ db ab) ((hR.place _ id db).trans hb)
 | @dZ e id es aq b cap ab hb aU bU hm=>
  simp only[gW]
  cases bm:gV ord id 0 with
  | none=>simp only[ab];exact .undef
  | some j=>
   obtain ⟨k,rfl,hk⟩:=ll bm
   have db:ord[0+k]? =some id:=by simpa using hk
   exact .dZ (hR.nest _ id _ _ _ db ab) ((hR.place _ id db).trans hb) aU bU hm
 | @jq v e id ver path blk ab yR=>
  simp only[gW]
  split
  ·rename_i j e1 cg aq h1 U
   rw[ab] at U
   cases U
   cases hc:(Nat.blt 0 path.length&&(Nat.ble path.length aq.length&&Nat.beq (bA aq (path.length-1)) ver)) with
   | false=>exact .undef
   | true=>exact (OB hc yR).elim
  ·exact .undef
 | @jr v id ver i c path blk ab yR=>
  simp only[gW]
  split
  ·rename_i j e1 cg aq h1 U
   rw[ab] at U
   cases U
   cases hc:(Nat.blt 0 path.length&&(Nat.ble path.length aq.length&&Nat.beq (bA aq (path.length-1)) ver)) with
   | false=>exact .undef
   | true=>exact (OB hc yR).elim
  ·exact .undef
 | @row v e e0 t id ver b i c q es l aq ab hb hq hv ht hc=>
  simp only[gW]
  split
  ·rename_i j e1 cg tF h1 U
   obtain ⟨k,rfl,hk⟩:=ll h1
   have db:ord[0+k]? =some id:=by simpa using hk
   cases hx:(Nat.blt 0 (q++[(i,c)]).length&&(Nat.ble (q++[(i,c)]).length tF.length&&Nat.beq (bA tF ((q++[(i,c)]).length-1)) ver)) with
   | false=>exact .undef
   | true=>exact .row (hR.nest _ id _ _ _ db ab) ((hR.place _ id db).trans hb) (by simpa using hq) (Ic _ _) ht hc
  ·exact .undef
 | @cz e e0 t id ver b b1 len cap i0 c0 i c q es l aq ab hb hq hv ht jt hc=>
  simp only[gW]
  split
  ·rename_i j e1 cg tF h1 U
   obtain ⟨k,rfl,hk⟩:=ll h1
   have db:ord[0+k]? =some id:=by simpa using hk
   cases hx:(Nat.blt 0 (q++[(i0,c0)]).length&&(Nat.ble (q++[(i0,c0)]).length tF.length&&Nat.beq (bA tF ((q++[(i0,c0)]).length-1)) ver)) with
   | false=>exact .undef
   | true=>exact .cz (hR.nest _ id _ _ _ db ab) ((hR.place _ id db).trans hb) (by simpa using hq) (Ic _ _) ht jt hc
  ·exact .undef
theorem OD (S:aE P w I β hp B M w0) {ord:List Nat} (hR:wa hp β ord hp' β') {vs:Array Value} {xs:List V} (h: ∀(j:Nat) v x,vs[j]? =some v→xs[j]? =some x→ao P w I β hp v x) (j:Nat) (v:Value) (y:V)
  (hv:vs[j]? =some v) (hy:(xs.map (gW hp ord))[j]? =some y):ao P w I β' hp' v y:=by
 rw[fH] at hy
 cases hx:xs[j]? with
 | none=>rw[hx] at hy;cases hy
 | some x=>rw[hx] at hy;cases hy;exact OC S hR (h j v x hv hx)
theorem OE (S:aE P w I β hp B M w0) {ord:List Nat} (hR:wa hp β ord hp' β') {n:Nat} {v:Value} {x:V} (hv:ao P w I β hp v x) (hF:kH hp' β' n (vm hp ord n x).2):
  ao P w I β' hp' v (vm hp ord n x).1:=by
 cases x with
 | nilS e=>
  obtain ⟨h1,U⟩:=hF 0 _ rfl
  cases hv with
  | nilS=>exact .dt h1 U
 | fn f a b=>
  cases hv with
  | fn q1 q2 q3 q4=>exact .fn (by simpa using q1) (OD S hR q2) (by simpa using q3) (OD S hR q4)
 | _=>exact OC S hR hv
end
section
variable {P:Program} {A:cA} {w w':World} {I I' I2:Nat→Prop} {μ β β':Nat→Option Nat} {hp hp':Nat→Option an} {C:ag} {B:Nat} {M:Nat→Prop} {w0:Start}
theorem kH.left {n:Nat} {a b:List an} (h:kH hp' β' n (a++b)):kH hp' β' n a:=fun k x hx=>
 h k x (by rw[ij (br.1 hx).1];exact hx)
theorem kH.right {n:Nat} {a b:List an} (h:kH hp' β' n (a++b)):kH hp' β' (n+a.length) b:=fun k x hx=>by
 have:=h (a.length+k) x (by rw[ik (by omega),Nat.add_sub_cancel_left];exact hx)
 rwa [←ny] at this
def lZ (bs:List an):Prop:= ∀b∈bs,∃e,b= .arr e [] false
theorem lZ.app {a b:List an} (h1:lZ a) (U:lZ b):lZ (a++b):=fun x hx=>(eh.1 hx).elim (h1 x) (U x)
theorem lZ.nil:lZ []:=fun x hx=>by simp at hx
theorem OF {ord:List Nat} {n:Nat} {x:V}:lZ (vm hp ord n x).2:=by
 cases x<;>simp only[vm]<;>first|exact .nil|skip
 intro b hb
 simp only[dW] at hb
 exact ⟨_,hb⟩
theorem Ie {ord:List Nat}: ∀{xs:List V} {n:Nat},lZ (mE hp ord n xs).2
 | [],n=> .nil
 | x::xs,n=>by
  simp only[mE]
  exact OF.app Ie
theorem DE {ord:List Nat}: ∀{xs:List V} {n:Nat},(mE hp ord n xs).1.length=xs.length
 | [],n=>rfl
 | x::xs,n=>by simp only[mE,List.length_cons,DE]
theorem DF (S:aE P w I β hp B M w0) {ord:List Nat} (hR:wa hp β ord hp' β'): ∀{xs:List V} {vs:List Value} {n:Nat},(∀(j:Nat) v x,vs[j]? =some v→xs[j]? =some x→ao P w I β hp v x)→
  kH hp' β' n (mE hp ord n xs).2→∀(j:Nat) v y,vs[j]? =some v→(mE hp ord n xs).1[j]? =some y→ao P w I β' hp' v y
 | [],vs,n,h,hF,j,v,y,hv,hy=>by simp[mE] at hy
 | x::xs,vs,n,h,hF,j,v,y,hv,hy=>by
  simp only[mE] at hF hy
  cases j with
  | zero=>
   simp at hy
   subst hy
   exact OE S hR (h 0 v x hv rfl) hF.left
  | succ j=>
   cases vs with
   | nil=>simp at hv
   | cons v0 vs=>exact DF S hR (vs:=vs) (fun j v x hj hx=>h (j+1) v x (by simpa using hj) (by simpa using hx)) hF.right j v y (by simpa using hv) (by simpa using hy)
theorem Ym {ord:List Nat} {n:Nat} {x:V}:lZ (pT hp ord n x).2:=by
 cases x<;>simp only[pT]<;>first|exact OF|exact Ie
theorem Yn (S:aE P w I β hp B M w0) {ord:List Nat} (hR:wa hp β ord hp' β') {n:Nat} {v:Value} {x:V} (hv:ao P w I β hp v x) (hF:kH hp' β' n (pT hp ord n x).2):
  ao P w I β' hp' v (pT hp ord n x).1:=by
 cases x with
 | agg cs=>
  obtain ⟨ds,rfl,h1,U⟩:=hv.kB
  simp only[pT] at hF⊢
  exact .agg (by rw[DE];exact h1) fun j v y hj hy=>DF S hR (vs:=ds.toList) (fun j v x hj hx=>U j v x (by simpa using hj) hx) hF j v y (by simpa using hj) hy
 | bc cs=>
  obtain ⟨ds,rfl,h1,U⟩:=hv.te
  simp only[pT] at hF⊢
  exact .bc (by rw[DE];exact h1) fun j v y hj hy=>DF S hR (vs:=ds.toList) (fun j v x hj hx=>U j v x (by simpa using hj) hx) hF j v y (by simpa using hj) hy
 | _=>exact OE S hR hv hF
theorem OG {ord:List Nat} {sl:Nat→V}: ∀{l:List Nat} {n:Nat},lZ (kX hp ord sl n l).2
 | [],n=> .nil
 | s::l,n=>by
  simp only[kX]
  exact Ym.app OG
theorem OH {ord:List Nat} {sl:Nat→V} {k:Nat} {y:V}: ∀{l:List Nat} {n:Nat},kH hp' β' n (kX hp ord sl n l).2→dr (kX hp ord sl n l).1 k=some y→
  ∃n',kH hp' β' n' (pT hp ord n' (sl k)).2∧y=(pT hp ord n' (sl k)).1
 | [],n,_,h=>by cases h
 | s::l,n,hF,h=>by
  simp only[kX] at hF h
  simp only[dr] at h
  cases hb:Nat.beq k s with
  | true=>
   rw[hb] at h
   rw[aQ] at hb
   subst hb
   cases h
   exact ⟨n,hF.left,rfl⟩
  | false=>
   rw[hb] at h
   exact OH hF.right h
theorem Yo {ord:List Nat} {n id:Nat}:lZ (eE hp ord n id).2:=by
 unfold eE
 split
 ·exact Ie
 ·exact .nil
 ·exact .nil
 ·exact .nil
 ·exact .nil
theorem OI {ord:List Nat}: ∀{l:List Nat} {n:Nat},lZ (fa hp ord n l).2
 | [],n=> .nil
 | s::l,n=>by
  simp only[fa]
  exact Yo.app OI
theorem OJ {ord:List Nat}: ∀{l:List Nat} {n:Nat},(fa hp ord n l).1.length=l.length
 | [],n=>rfl
 | x::xs,n=>by simp only[fa,List.length_cons,OJ]
theorem OK {ord:List Nat}: ∀{l:List Nat} {n j:Nat} {id:Nat},l[j]? =some id→∃n',(kH hp' β' n (fa hp ord n l).2→kH hp' β' n' (eE hp ord n' id).2)∧(fa hp ord n l).1[j]? =some (eE hp ord n' id).1
 | [],n,j,id,h=>by simp at h
 | s::l,n,j,id,h=>by
  simp only[fa]
  cases j with
  | zero=>
   simp at h
   subst h
   exact ⟨n,fun hF=>hF.left,rfl⟩
  | succ j=>
   obtain ⟨n',h1,U⟩:=OK (n:=n+(eE hp ord n s).2.length) (j:=j) (by simpa using h)
   exact ⟨n',fun hF=>h1 hF.right,by simpa using U⟩
theorem DG: ∀{l acc:List Nat},∃t,sW hp acc l=acc++t∧(acc.Nodup→(acc++t).Nodup)
 | [],acc=>⟨[],by simp[sW],by simp⟩
 | id::l,acc=>by
  simp only[sW]
  cases hb:(jN acc id|| !(L0 hp id)) with
  | true=>exact DG
  | false=>
   obtain ⟨t,h1,U⟩:=DG (l:=l) (acc:=acc++[id])
   refine ⟨id::t,by simp only[cond_false,h1,cm,List.singleton_append],fun hn=> ?_⟩
   have:acc++id::t=(acc++[id])++t:=by simp
   rw[this]
   refine U ?_
   rw[BX]
   refine ⟨hn,by simp,fun a ha b az=> ?_⟩
   simp only[dW] at az
   subst az
   intro e
   subst e
   rw[vG ha] at hb
   cases hb
theorem OL: ∀{n:Nat} {l:List Nat},∃t,grow hp n l=l++t∧(l.Nodup→(l++t).Nodup)
 | 0,l=>⟨[],by simp[grow],by simp⟩
 | n+1,l=>by
  simp only[grow]
  obtain ⟨t,h1,U⟩:=DG (hp:=hp) (acc:=l) (l:=l.flatMap (GD hp))
  rw[h1]
  obtain ⟨t',h3,h4⟩:=OL (n:=n) (l:=l++t)
  exact ⟨t++t',by rw[h3,cm],fun hn=>by rw[←cm];exact h4 (U hn)⟩
theorem Yp {m:Nat} {live:List Nat} {st:St}: ∃t,GF m live st=List.range m++t∧(List.range m++t).Nodup:=by
 unfold GF
 obtain ⟨t,h1,U⟩:=DG (hp:=st.hp) (acc:=List.range m) (l:=live.flatMap fun s=>GC (st.sl s))
 rw[h1]
 obtain ⟨t',h3,h4⟩:=OL (hp:=st.hp) (n:=3) (l:=List.range m++t)
 exact ⟨t++t',by rw[h3,cm],by rw[←cm];exact h4 (U List.nodup_range)⟩
end
section
variable {P:Program} {A:cA} {E:FuncId→Bool} {G:Nat→V} {w w':World} {I I' I2:Nat→Prop} {μ β β':Nat→Option Nat} {hp hp' hp0:Nat→Option an} {C:ag} {B:Nat} {M:Nat→Prop} {w0:Start}
theorem OM {n m:Nat} {ord live:List Nat} {a:Act} {st:St} (k0:ord.Nodup) (zD: ∀id,id<m→ord[id]? =some id∨∃p,ord[id]? =some p∧st.hp p=none) (S:aE P w I β st.hp B M w0) (hA:iH P E G w I β n a st) (hE:kF w0.w w0.I μ hp0 w I β st.hp) (hm: ∀id blk,hp0 id=some blk→id<m) (ja: ∀id e es aq,hp0 id=some (.nest e es aq)→∀k,bA aq k=0):
  ∃β',aE P w I β' (vn ord live st).hp B M w0∧iH P E G w I β' n a (vn ord live st)∧kF w0.w w0.I μ hp0 w I β' (vn ord live st).hp:=by
 have Yq:vn ord live st=mk (kX st.hp ord st.sl (ord.length+(fa st.hp ord ord.length ord).2.length) live).1
   ((fa st.hp ord ord.length ord).1++((fa st.hp ord ord.length ord).2++(kX st.hp ord st.sl (ord.length+(fa st.hp ord ord.length ord).2.length) live).2)):=by
  rfl
 rw[Yq]
 let hp':=jn ((fa st.hp ord ord.length ord).1++((fa st.hp ord ord.length ord).2++(kX st.hp ord st.sl (ord.length+(fa st.hp ord ord.length ord).2.length) live).2))
 let β':Nat→Option Nat:=fun j=>if j<ord.length then (ord[j]?).bind β else none
 have hlen:(fa st.hp ord ord.length ord).1.length=ord.length:=OJ
 have iE: ∀j,j<ord.length→hp' j=(fa st.hp ord ord.length ord).1[j]? :=by
  intro j hj
  simp only[hp',gJ]
  rw[ij (by omega)]
 have gI: ∀k,hp' (ord.length+k)=((fa st.hp ord ord.length ord).2++(kX st.hp ord st.sl (ord.length+(fa st.hp ord ord.length ord).2.length) live).2)[k]? :=by
  intro k
  simp only[hp',gJ]
  rw[ik (by omega),hlen,Nat.add_sub_cancel_left]
 have hF:kH hp' β' ord.length ((fa st.hp ord ord.length ord).2++(kX st.hp ord st.sl (ord.length+(fa st.hp ord ord.length ord).2.length) live).2):=by
  intro k b hb
  refine ⟨(gI k).trans hb,?_⟩
  simp only[β']
  rw[ai (by omega)]
 have zA:lZ ((fa st.hp ord ord.length ord).2++(kX st.hp ord st.sl (ord.length+(fa st.hp ord ord.length ord).2.length) live).2):=OI.app OG
 have n0: ∀(j:Nat) id,ord[j]? =some id→β' j=β id:=by
  intro j id hj
  simp only[β']
  rw[aj (br.1 hj).1,hj]
  rfl
 have qu: ∀(j:Nat) id,ord[j]? =some id→∃n',kH hp' β' n' (eE st.hp ord n' id).2∧hp' j=some (eE st.hp ord n' id).1:=by
  intro j id hj
  obtain ⟨n',h1,U⟩:=OK (hp:=st.hp) (hp':=hp') (β':=β') (ord:=ord) (n:=ord.length) hj
  exact ⟨n',h1 hF.left,(iE j (br.1 hj).1).trans U⟩
 have hR:wa st.hp β ord hp' β':=by
  refine ⟨fun j id e es fz hj ab=> ?_,fun j id T cs hj ab=> ?_,fun j id hj ab=> ?_,n0,fun j id e es aq hj ab=> ?_,fun j id t es hj ab=> ?_⟩
  ·obtain ⟨n',_,U⟩:=qu j id hj
   rw[U];simp only[eE,ab]
  ·obtain ⟨n',_,U⟩:=qu j id hj
   rw[U];simp only[eE,ab];exact ⟨_,rfl⟩
  ·obtain ⟨n',_,U⟩:=qu j id hj
   rw[U];simp only[eE,ab]
  ·obtain ⟨n',_,U⟩:=qu j id hj
   rw[U];simp only[eE,ab]
  ·obtain ⟨n',_,U⟩:=qu j id hj
   rw[U];simp only[eE,ab]
 have cls: ∀j blk',hp' j=some blk'→(∃id,ord[j]? =some id∧((blk'= .dead)∨∃blk,st.hp id=some blk∧blk≠ .dead∧∀o b,bt P w o blk' b→bt P w o blk b))∨(∃e,blk'= .arr e [] false∧β' j=none):=by
  intro j blk' hj
  rcases oE j ord.length with h|h
  ·have fZ:=bx h
   obtain ⟨n',_,U⟩:=qu j _ fZ
   rw[hj] at U
   refine .inl ⟨_,fZ,?_⟩
   cases ab:st.hp ord[j] with
   | none=>left;simp only[eE,ab] at U;exact cY U
   | some blk=>
    cases blk with
    | dead=>left;simp only[eE,ab] at U;exact cY U
    | var T0 cs=>exact .inr ⟨_,rfl,by simp,fun o b h=>by simp only[eE,ab] at U;rw[cY U] at h;exact .root (by simp) (h.flat (by simp))⟩
    | arr e es fz=>exact .inr ⟨_,rfl,by simp,fun o b h=>by simp only[eE,ab] at U;rw[cY U] at h;exact .root (by simp) (h.flat (by simp))⟩
    | map t es=>exact .inr ⟨_,rfl,by simp,fun o b h=>by simp only[eE,ab] at U;rw[cY U] at h;exact .root (by simp) (h.flat (by simp))⟩
    | nest e es aq=>
     refine .inr ⟨_,rfl,by simp,fun o b h=> ?_⟩
     simp only[eE,ab] at U
     rw[cY U] at h
     cases h with
     | root _ h=>exact .root (by simp) h
     | row h1 U=>exact .row h1 U
  ·obtain ⟨k,rfl⟩: ∃k,j=ord.length+k:=⟨j-ord.length,by omega⟩
   rw[gI] at hj
   obtain ⟨e,he⟩:=zA _ (jm hj)
   exact .inr ⟨e,he,(hF k _ hj).2⟩
 refine ⟨β',⟨⟨fun j blk' hj=> ?_,fun j1 j2 b1 b2 b e1 e2 f1 f2=> ?_,fun j blk b e1 f1=> ?_,S.h.js⟩,S.b6,S.size,S.new,S.io⟩,⟨fun k=> ?_,hA.size,hA.defers,hA.aD⟩,⟨hE.c9,hE.b6,fun id blk ab=> ?_,fun id blk blk' b ab bB hd hb=> ?_⟩⟩
 ·change hp' j=some blk' at hj
  rcases oE j ord.length with h|h
  ·have fZ:=bx h
   obtain ⟨n',ON,U⟩:=qu j _ fZ
   rw[hj] at U
   rw[n0 j _ fZ]
   cases ab:st.hp ord[j] with
   | none=>simp only[eE,ab] at U;rw[cY U];exact .dead
   | some blk=>
    have hr:=S.h.rel _ _ ab
    generalize β ord[j]=o at hr
    cases hr with
    | dead=>simp only[eE,ab] at U;rw[cY U];exact .dead
    | dv hb=>simp only[eE,ab] at U;rw[cY U];exact .dv hb
    | arr a1 a2 a3 a4 a5 a6 a7=>simp only[eE,ab] at U;rw[cY U];exact .arr a1 a2 a3 a4 a5 a6 a7
    | nest a1 a2 a3=>simp only[eE,ab] at U;rw[cY U];exact .nest a1 a2 a3
    | map a1 a2 a3 a4 a5 a6 a7=>simp only[eE,ab] at U;rw[cY U];exact .map a1 a2 a3 a4 a5 a6 a7
    | @var xs b Ca T hb hh hs cJ hx fL=>
     simp only[eE,ab] at U ON
     rw[cY U]
     exact .var hb hh (by rw[DE];exact hs) cJ (fun i v y hi hy=>DF S hR (vs:=Ca.toList) (fun i v x hi cu=>hx i v x (by simpa using hi) cu) ON i v y (by simpa using hi) hy) fL
  ·rcases cls j blk' hj with ⟨id,ab,_⟩|⟨e,he,hb⟩
   ·have:=(br.1 ab).1;omega
   ·rw[he];exact .dv hb
 ·rcases cls j1 b1 e1 with ⟨Ig,o1,x1⟩|⟨e,_,hb⟩
  ·rcases cls j2 b2 e2 with ⟨cw,o2,x2⟩|⟨e,_,hb⟩
   ·obtain ⟨c1,y1,z1,g1⟩:=x1.resolve_left f1.alive
    obtain ⟨c2,y2,z2,g2⟩:=x2.resolve_left f2.alive
    rw[n0 _ _ o1] at f1
    rw[n0 _ _ o2] at f2
    have:=S.h.inj Ig cw c1 c2 b y1 y2 (g1 _ _ f1) (g2 _ _ f2)
    subst this
    obtain ⟨q1,q2⟩:=br.1 o1
    obtain ⟨q3,q4⟩:=br.1 o2
    exact (List.getElem_inj k0).1 (q2.trans q4.symm)
   ·subst ‹b2=_›;have:=f2.flat (by simp);rw[hb] at this;cases this
  ·subst ‹b1=_›;have:=f1.flat (by simp);rw[hb] at this;cases this
 ·rcases cls j blk e1 with ⟨Ig,o1,x1⟩|⟨e,_,hb⟩
  ·obtain ⟨c1,y1,z1,g1⟩:=x1.resolve_left f1.alive
   rw[n0 _ _ o1] at f1
   exact S.h.own Ig c1 b y1 (g1 _ _ f1)
  ·subst ‹blk=_›;have:=f1.flat (by simp);rw[hb] at this;cases this
 ·change ao P w I β' hp' (a.tmps.getD k undef) (iS _ k)
  unfold iS
  cases HR:dr (kX st.hp ord st.sl (ord.length+(fa st.hp ord ord.length ord).2.length) live).1 k with
  | none=>exact .undef
  | some y=>
   obtain ⟨n',h1,U⟩:=OH hF.right HR
   simp only[Option.getD_some,U]
   exact Yn S hR (hA.sl k) h1
 ·obtain ⟨qp,k1,k2,k3⟩:=hE.blk id blk ab
  rcases zD id (hm id blk ab) with ho|⟨p,ho,bm⟩
  ·cases qp with
   | dead=>exact ⟨.dead,hR.dead id id ho k1,k2,fun h=>absurd rfl h⟩
   | var T0 cs=>
    obtain ⟨hO,h'⟩:=hR.var id id T0 cs ho k1
    refine ⟨_,h',?_,fun _=>(n0 id id ho).trans (k3 (by simp))⟩
    cases blk<;>simp_all [an.le]
   | arr e es fz=>exact ⟨_,hR.arr id id e es fz ho k1,k2,fun _=>(n0 id id ho).trans (k3 (by simp))⟩
   | map t es=>exact ⟨_,hR.map id id t es ho k1,k2,fun _=>(n0 id id ho).trans (k3 (by simp))⟩
   | nest e es aq=>
    refine ⟨_,hR.nest id id e es aq ho k1,?_,fun _=>(n0 id id ho).trans (k3 (by simp))⟩
    obtain ⟨GN,Vt,rfl,l1,l2,_⟩:=an.GL k2
    exact ⟨rfl,l1,by simpa using l2,fun k=>by rw[ja id _ _ _ ab k];exact kh _⟩
  ·obtain ⟨n',_,U⟩:=qu id p ho
   simp only[eE,bm] at U
   exact ⟨.dead,U,by cases blk<;>trivial,fun h=>absurd rfl h⟩
 ·obtain ⟨qp,k1,k2,k3⟩:=hE.blk id blk ab
  rcases zD id (hm id blk ab) with ho|⟨p,ho,bm⟩
  ·refine hE.size id blk qp b ab k1 (fun qt=> ?_) hb
   subst qt
   have:=hR.dead id id ho k1
   change hp' id=some blk' at bB
   rw[this] at bB
   exact hd (cY bB).symm
  ·obtain ⟨n',_,U⟩:=qu id p ho
   simp only[eE,bm] at U
   change hp' id=some blk' at bB
   rw[U] at bB
   exact absurd (cY bB).symm hd
theorem Yr {n m:Nat} {live:List Nat} {a:Act} {st:St} (S:aE P w I β st.hp B M w0) (hA:iH P E G w I β n a st) (hE:kF w0.w w0.I μ hp0 w I β st.hp) (hm: ∀id blk,hp0 id=some blk→id<m) (ja: ∀id e es aq,hp0 id=some (.nest e es aq)→∀k,bA aq k=0):
  ∃β',aE P w I β' (canon m live st).hp B M w0∧iH P E G w I β' n a (canon m live st)∧kF w0.w w0.I μ hp0 w I β' (canon m live st).hp:=by
 obtain ⟨t,zD,k0⟩:=Yp (m:=m) (live:=live) (st:=st)
 refine OM (by rw[zD];exact k0) (fun id aO=> .inl ?_) S hA hE hm ja
 rw[zD,ij (by simpa using aO)]
 simp[aO]
theorem OO: ∀{l:List Nat},pU l=true→l.Nodup
 | [],_=> .nil
 | a::l,h=>by
  simp only[pU,aI,ki] at h
  rw[List.nodup_cons]
  exact ⟨fun hm=>Bool.noConfusion ((vG hm).symm.trans h.1),OO h.2⟩
theorem Ys {m:Nat} {mv:List Nat} {id:Nat} (h:id<m):(nK m mv)[id]? =some id∨(nK m mv)[id]? =some (m+id):=by
 unfold nK
 rw[ij (by simpa using h),fH]
 simp only[List.getElem?_range h,Option.map_some]
 cases jN mv id with
 | true=>exact .inr rfl
 | false=>exact .inl rfl
end
section
variable {P:Program} {A:cA} {w w':World} {I I' I2:Nat→Prop} {μ β β':Nat→Option Nat} {hp hp' hp0:Nat→Option an} {C:ag} {B:Nat} {M:Nat→Prop} {w0:Start}
theorem DH (p:Nat→Prop) (h: ∃n,p n): ∃n,p n∧∀m,p m→n≤m:=by
 obtain ⟨n,hn⟩:=h
 induction n using Nat.strongRecOn with
 | _ n ih=>
  by_cases hx: ∃m,m<n∧p m
  ·obtain ⟨m,hm,hp⟩:=hx
   exact ih m hm hp
  ·exact ⟨n,hn,fun m hm=>Nat.le_of_not_lt fun aO=>hx ⟨m,aO,hm⟩⟩
open Classical in
theorem Yt {c:Code} {Q:Exit→Act→World→Prop} (J:Nat→Act→World→Prop) (h0: ∀a w,¬J 0 a w) (round: ∀n a w,J (n+1) a w→c.wp P (Exit.then (J n) Q) a w) {n:Nat} {a:Act} {w:World} (h:J n a w):
  (Code.loop c).wp P Q a w:=by
 refine wp_loop (fun a w=> ∃n,J n a w) (fun a w=>if h: ∃n,J n a w then (DH _ h).choose else 0) ⟨n,h⟩ fun a w hJ=> ?_
 obtain ⟨h1,U⟩:=(DH _ hJ).choose_spec
 generalize hk:(DH _ hJ).choose=k at h1 U
 cases k with
 | zero=>exact absurd h1 (h0 a w)
 | succ k=>
  refine wp_mono (round k a w h1) fun e a' w' he=> ?_
  cases e with
  | normal=>
   have hex: ∃n,J n a' w':=⟨k,he⟩
   refine ⟨hex,?_⟩
   have h3:=(DH _ hex).choose_spec.2 k he
   rw[rb hex,rb hJ,hk]
   omega
  | _=>exact he
def wc:Out→Exit
 | .norm=> .normal
 | .exit id=> .exit id
 | .ret=> .ret
def Inv (P:Program) (E:FuncId→Bool) (G:Nat→V) (B:Nat) (M:Nat→Prop) (w0:Start) (μ:Nat→Option Nat) (hp0:Nat→Option an) (n:Nat) (a:Act) (w:World) (st:St):Prop:=
 ∃I β,aE P w I β st.hp B M w0∧iH P E G w I β n a st∧kF w0.w w0.I μ hp0 w I β st.hp
theorem Inv.canon {E:FuncId→Bool} {G:Nat→V} {n m:Nat} {a:Act} {st:St} {live:List Nat} (h:Inv P E G B M w0 μ hp0 n a w st) (hm: ∀id blk,hp0 id=some blk→id<m) (ja: ∀id e es aq,hp0 id=some (.nest e es aq)→∀k,bA aq k=0):Inv P E G B M w0 μ hp0 n a w (canon m live st):=by
 obtain ⟨I,β,S,hA,hE⟩:=h
 obtain ⟨β',a,b,c⟩:=Yr (live:=live) S hA hE hm ja
 exact ⟨I,β',a,b,c⟩
theorem DI: ∀{l:List BS} {ds:List V},(ej l ds).length=l.length
 | [],_=>rfl
 | b::l,ds=>by simp only[ej,List.length_cons,DI]
theorem Inv.enter {A:cA} {E:FuncId→Bool} {G:Nat→V} {n f:Nat} {ds:List V} {a:Act} (j4:pU (nK (A.sin f).a8.length (A.mv f))=true) (h:Inv P E G B M w0 μ hp0 n a w (bj (A.sin f) ds)) (hm: ∀id blk,hp0 id=some blk→id<(A.sin f).a8.length)
  (ja: ∀id e es aq,hp0 id=some (.nest e es aq)→∀k,bA aq k=0) (we: ∀p,(A.sin f).a8.length≤p→(bj (A.sin f) ds).hp p=none):Inv P E G B M w0 μ hp0 n a w (Cs A f ds):=by
 unfold Cs
 split
 ·exact h
 ·obtain ⟨I,β,S,hA,hE⟩:=h
  obtain ⟨β',x,y,z⟩:=OM (m:=(A.sin f).a8.length) (ord:=nK (A.sin f).a8.length (A.mv f)) (live:=(A.sin f).bJ.map (·.1)) (OO j4) (fun id ab=>(Ys ab).imp (fun h=>h) fun h=>⟨_,h,we _ (by omega)⟩) S hA hE hm ja
  exact ⟨I,β',x,y,z⟩
theorem Inv.reshape {E:FuncId→Bool} {G:Nat→V} {n m:Nat} {a:Act} {st:St} {S:Shape} {ds:List V} (h:Inv P E G B M w0 μ hp0 n a w st) (hs:jo m S st=some ds) (hm: ∀id blk,hp0 id=some blk→id<m):Inv P E G B M w0 μ hp0 n a w (bj S ds):=by
 obtain ⟨I,β,S1,hA,hE⟩:=h
 obtain ⟨r1,r2,_,r4⟩:=AM.reshape hs S1
 refine ⟨I,β,r1,⟨fun k=>r2 k _ (hA.sl k),hA.size,hA.defers,hA.aD⟩,⟨hE.c9,hE.b6,fun id blk ab=> ?_,fun id blk blk' b ab bB hd hb=> ?_⟩⟩
 ·obtain ⟨qp,k1,k2,k3⟩:=hE.blk id blk ab
  obtain ⟨_,hle,_⟩:=Ns hs
  have hl:=hm id blk ab
  obtain ⟨bO,U⟩: ∃bO,(bj S ds).hp id=some bO:=by
   simp only[bj,mk,gJ]
   exact ⟨_,bx (by rw[DI];omega)⟩
  by_cases hd:bO= .dead
  ·subst hd
   exact ⟨_,U,by cases blk<;>trivial,fun h=>absurd rfl h⟩
  ·obtain ⟨gB,e1,e2,_⟩:=r4 id bO U hd
   rw[k1] at e1;cases e1
   exact ⟨_,U,an.le_trans k2 e2,fun _=>k3 (fun e=>hd (an.oP (e▸e2)))⟩
 ·obtain ⟨gB,e1,e2,_⟩:=r4 id blk' bB hd
  exact hE.size id blk gB b ab e1 (fun e=>hd (an.oP (e▸e2))) hb
theorem kG.here (h:kG P A C) (f:Nat) (id:Nat):kG P (A.here f id) C:=by
 intro key ds es hh
 obtain ⟨fn,c,h1,U,h3⟩:=h key ds es hh
 refine ⟨fn,c,h1,U,fun w I μ vals a g b d=>(h3 w I μ vals a g b d).mono fun e w' hx=> ?_⟩
 obtain ⟨v,I2,bP,q1,q2⟩:=hx
 exact ⟨v,I2,bP,q1,⟨q2.vW,q2.le,q2.res⟩⟩
theorem Yu {a b:Out} (h:Cr a b=true):a=b:=by
 cases a<;>cases b<;>simp[Cr] at h<;>first|rfl|(subst h;rfl)
theorem OP {m:Nat} {r:Out × St}: ∀{l:List (Out × Shape)} {j:Nat} {e:Nat × List V},ways m j l r=some e→j≤e.1
 | [],j,e,h=>by cases h
 | (o,S)::l,j,e,h=>by
  simp only[ways] at h
  split at h
  ·cases h;exact cf _
  ·have:=OP h;omega
theorem Ih {m:Nat} {o:Out} {s:St} {out:Out} {st':St}: ∀{l:List (Out × Shape)} {k:Nat} {e:Nat × List V},ways m k l (o,s)=some e→lK k l e.1 e.2 (fun o st=>some (o,st))=some (out,st')→
  out=o∧∃S,jo m S s=some e.2∧st'=bj S e.2
 | [],k,e,h,_=>by cases h
 | (o',S)::l,k,e,h,U=>by
  simp only[ways] at h
  split at h
  ·rename_i ds hx
   cases h
   cases ho:Cr o' o with
   | false=>rw[ho] at hx;cases hx
   | true=>
    rw[ho] at hx
    have:=Yu ho
    subst this
    cases l with
    | nil=>
     simp only[lK,dG,jL] at U
     exact ⟨U.1.symm,S,hx,U.2.symm⟩
    | cons p l=>
     simp only[lK,jl,cond_true,dG,jL] at U
     exact ⟨U.1.symm,S,hx,U.2.symm⟩
  ·have oW:=OP h
   cases l with
   | nil=>cases h
   | cons p l=>
    have bu:Nat.beq e.1 k=false:=by
     cases hb:Nat.beq e.1 k with
     | false=>rfl
     | true=>rw[aQ] at hb;omega
    simp only[lK,bu,cond_false] at U
    exact Ih h U
theorem Yv (hC:kG P A C) (hP:iG P A) (mS:P.follows .mixedOrders=true) {f n m:Nat} (hm: ∀id blk,hp0 id=some blk→id<m) (ja: ∀id e es aq,hp0 id=some (.nest e es aq)→∀k,bA aq k=0):
  ∀(c:Code) {st st':St} {out:Out} {Q:Exit→Act→World→Prop} {a:Act} {w:World},exec P A C f n m c st=some (out,st')→Inv P A.idle A.aD B M w0 μ hp0 n a w st→
   (∀a' w',Inv P A.idle A.aD B M w0 μ hp0 n a' w' st'→Q (wc out) a' w')→c.wp P Q a w:=by
 intro c
 induction c with
 | skip=>
  intro st st' out Q a w h hI hQ
  simp only[exec,dG,jL] at h
  obtain ⟨rfl,rfl⟩:=h
  exact wp_skip (hQ a w hI)
 | exit id=>
  intro st st' out Q a w h hI hQ
  simp only[exec,dG,jL] at h
  obtain ⟨rfl,rfl⟩:=h
  exact wp_exit (hQ a w hI)
 | ret=>
  intro st st' out Q a w h hI hQ
  simp only[exec,dG,jL] at h
  obtain ⟨rfl,rfl⟩:=h
  exact wp_ret (hQ a w hI)
 | region id ops draw=>
  intro st st' out Q a w h hI hQ
  simp only[exec] at h
  obtain ⟨iI,h1,U⟩:=bind_some h
  simp only[dG,jL] at U
  obtain ⟨rfl,rfl⟩:=U
  obtain ⟨I,β,S,hA,hE⟩:=hI
  refine Yk (hC.here f id) (hP.here f id) mS h1 S hA fun a' w' I' β' k1 k2 k3=> ?_
  obtain ⟨I2,l1,l2,l3⟩:=OA (m:=m) (pur:=A.pur f id) k2 k3
  have Yw:=(hE.trans k1.Dn).trans l1.Dn
  exact hQ a' w' (Inv.canon ⟨I2,β',l2,l3,Yw⟩ hm ja)
 | seq x y iq iu=>
  intro st st' out Q a w h hI hQ
  simp only[exec] at h
  obtain ⟨⟨o1,iI⟩,h1,U⟩:=bind_some h
  refine wp_seq (iq h1 hI fun a' w' jz=> ?_)
  cases o1 with
  | norm=>exact iu U jz hQ
  | exit id=>
   simp only[dG,jL] at U
   obtain ⟨rfl,rfl⟩:=U
   exact hQ a' w' jz
  | ret=>
   simp only[dG,jL] at U
   obtain ⟨rfl,rfl⟩:=U
   exact hQ a' w' jz
 | cond c x y iq iu=>
  intro st st' out Q a w h hI hQ
  cases c with
  | tmp t=>
   have go: ∀{st st':St} {out:Out} {Q:Exit→Act→World→Prop} {a:Act} {w:World},(match st.sl t with
     | .bool b=>(bif b then exec P A C f n m x st else exec P A C f n m y st).bind fun r=>
      match r.1 with
      | .norm=>some (.norm,AM.canon m (A.join f t) r.2)
      | _=>some r
     | _=>none)=some (out,st')→Inv P A.idle A.aD B M w0 μ hp0 n a w st→(∀a' w',Inv P A.idle A.aD B M w0 μ hp0 n a' w' st'→Q (wc out) a' w')→(Code.cond (.tmp t) x y).wp P Q a w:=by
    intro st st' out Q a w h hI hQ
    cases hs:st.sl t<;>rw[hs] at h<;>simp only at h<;>first|(cases h;done)|skip
    rename_i b
    obtain ⟨⟨o1,iI⟩,h1,U⟩:=bind_some h
    obtain ⟨I,β,S,hA,hE⟩:=hI
    have eH:a.eval (.tmp t)= .bool b:=by
     have:=N5 hA hs
     simp[Act.eval,this]
    have fin: ∀a' w',Inv P A.idle A.aD B M w0 μ hp0 n a' w' iI→Q (wc o1) a' w':=by
     intro a' w' jz
     cases o1 with
     | norm=>
      simp only[dG,jL] at U
      obtain ⟨rfl,rfl⟩:=U
      exact hQ a' w' (jz.canon hm ja)
     | exit id=>
      simp only[dG,jL] at U
      obtain ⟨rfl,rfl⟩:=U
      exact hQ a' w' jz
     | ret=>
      simp only[dG,jL] at U
      obtain ⟨rfl,rfl⟩:=U
      exact hQ a' w' jz
    refine wp_cond eH ?_
    cases b with
    | true=>exact iq h1 ⟨I,β,S,hA,hE⟩ fin
    | false=>exact iu h1 ⟨I,β,S,hA,hE⟩ fin
   simp only[exec] at h
   split at h
   ·exact go h hI hQ
   ·obtain ⟨ds,h1,U⟩:=bind_some h
    obtain ⟨e,h3,h4⟩:=bind_some U
    obtain ⟨⟨o1,s1⟩,h5,h6⟩:=bind_some h3
    obtain ⟨rfl,S',k1,rfl⟩:=Ih h6 h4
    exact go h5 (hI.reshape h1 hm) fun a' w' jz=>hQ a' w' (jz.reshape k1 hm)
  | const v=>
   cases v with
   | bool b=>
    simp only[exec] at h
    refine wp_cond (t:=b) rfl ?_
    cases b with
    | true=>exact iq h hI hQ
    | false=>exact iu h hI hQ
   | _=>simp only[exec] at h;cases h
  | _=>simp only[exec] at h;cases h
 | block id c ih=>
  intro st st' out Q a w h hI hQ
  simp only[exec] at h
  obtain ⟨⟨o1,iI⟩,h1,U⟩:=bind_some h
  refine wp_block (ih h1 hI fun a' w' jz=> ?_)
  cases o1 with
  | norm=>
   simp only[dG,jL] at U
   obtain ⟨rfl,rfl⟩:=U
   exact hQ a' w' (jz.canon hm ja)
  | exit aC=>
   simp only at U
   cases hb:Nat.beq aC id with
   | true=>
    rw[hb] at U
    simp only[cond_true,dG,jL] at U
    obtain ⟨rfl,rfl⟩:=U
    rw[aQ] at hb
    simp only[wc,Exit.inBlock,hb,dm]
    exact hQ a' w' (jz.canon hm ja)
   | false=>
    rw[hb] at U
    simp only[cond_false,dG,jL] at U
    obtain ⟨rfl,rfl⟩:=U
    have bu:aC≠id:=fun e=>by rw[e,jl] at hb;cases hb
    simp only[wc,Exit.inBlock,bu,gv]
    exact hQ a' w' jz
  | ret=>
   simp only[dG,jL] at U
   obtain ⟨rfl,rfl⟩:=U
   exact hQ a' w' jz
 | loop c ih=>
  intro st st' out Q a w h hI hQ
  simp only[exec] at h
  split at h
  ·cases h
  ·rename_i S hS
   obtain ⟨ds,h1,U⟩:=bind_some h
   obtain ⟨e,h3,h4⟩:=bind_some U
   obtain ⟨k,hk⟩:=u9 h3
   refine Yt (J:=fun k a w=> ∃ds,Inv P A.idle A.aD B M w0 μ hp0 n a w (bj S.1 ds)∧e7 (fun ds=>mF m S.1 S.2 (exec P A C f n m c (bj S.1 ds))) k ds=some e) (fun a w ⟨s,_,h⟩=>by cases h) (fun k a w ⟨ds,hs,hk⟩=> ?_) ⟨ds,hI.reshape h1 hm,hk⟩
   simp only[e7] at hk
   obtain ⟨y,h5,h6⟩:=bind_some hk
   unfold mF at h5
   obtain ⟨⟨o1,s1⟩,h7,h8⟩:=bind_some h5
   refine ih h7 hs fun a' w' jz=> ?_
   have OQ: ∀{e':Nat × List V},ways m 0 S.2 (o1,s1)=some e'→e'=e→Q (wc o1) a' w':=by
    intro e' q1 q2
    subst q2
    obtain ⟨rfl,S',k1,rfl⟩:=Ih q1 h4
    exact hQ a' w' (jz.reshape k1 hm)
   cases o1 with
   | norm=>
    obtain ⟨Yx,q1,q2⟩:=bind_some h8
    cases q2
    exact ⟨Yx,jz.reshape q1 hm,h6⟩
   | exit id=>
    obtain ⟨e',q1,q2⟩:=bind_some h8
    cases q2
    cases h6
    exact OQ q1 rfl
   | ret=>
    obtain ⟨e',q1,q2⟩:=bind_some h8
    cases q2
    cases h6
    exact OQ q1 rfl
 | _=>intro st st' out Q a w h;simp only[exec] at h;cases h
end
section
variable {P:Program} {A:cA} {w w':World} {I I' I2:Nat→Prop} {μ β β' bP:Nat→Option Nat} {hp hp' hp0:Nat→Option an} {C:ag} {B:Nat} {M:Nat→Prop} {w0:Start}
theorem DJ (S:aE P w I β hp B M w0) {a:Act} {st:St} (hs:kz P w I β hp a st.sl): ∀{l:List ResultVar} {xs:List V} {rd:List Nat},(sZ P st l).run C hp=some (xs,rd)→
  ∃vs:List Value,(l.mapM fun| .tmp t=>Pure.pure (a.tmps.getD t undef)| .cell x t=>do loadVar t (←asAddr (a.tmps.getD x undef)):Sem (List Value)).run P w= .ok vs w∧vs.length=xs.length∧l.length=xs.length∧
   ∀(j:Nat) v x,vs[j]? =some v→xs[j]? =some x→ao P w I β hp v x
 | [],xs,rd,h=>by
  cases h
  exact ⟨[],by simp,rfl,rfl,by simp⟩
 | .tmp t::l,xs,rd,h=>by
  simp only[sZ] at h
  obtain ⟨ys,l1,l2,h1,U⟩:=kA h
  have h3:=GP U
  subst h3
  obtain ⟨vs,a1,a2,a3,a4⟩:=DJ S hs h1
  refine ⟨a.tmps.getD t undef::vs,by simp only[List.mapM_cons,Sem.run_bind,Sem.run_pure,Result.andThen_ok,a1],by simp[a2],by simp[a3],fun j v x hj hx=> ?_⟩
  cases j with
  | zero=>simp at hj hx;subst hj;subst hx;have:=hs t;simpa using this
  | succ j=>exact a4 j v x (by simpa using hj) (by simpa using hx)
 | .cell y t::l,xs,rd,h=>by
  simp only[sZ] at h
  obtain ⟨r,l1,l2,h1,U⟩:=kA h
  obtain ⟨ys,l3,l4,h3,h4⟩:=kA U
  have h5:=GP h4
  subst h5
  obtain ⟨v0,b1,b2,b3,ad,b4⟩:=Ml S (hs y) h1
  obtain ⟨vs,a1,a2,a3,a4⟩:=DJ S hs h3
  refine ⟨v0::vs,?_,by simp[a2],by simp[a3],fun j v x hj hx=> ?_⟩
  ·have e1:(do loadVar t (←asAddr (a.tmps.getD y undef)):Sem Value).run P w= .ok v0 w:=by
    rw[b4] at b1⊢
    simpa[Instr.loadAt,Instr.sureAddr,asAddr] using b1
   simp only[List.mapM_cons,Sem.run_bind,e1,Result.andThen_ok,a1,Sem.run_pure]
  cases j with
  | zero=>simp at hj hx;subst hj;subst hx;exact b2
  | succ j=>exact a4 j v x (by simpa using hj) (by simpa using hx)
def tM:List Value→Value
 | [v]=>v
 | l=> .tuple l.toArray
theorem Yy {vs:List Value} (h:vs.length≠1):tM vs= .tuple vs.toArray:=by
 match vs,h with
 | [],_=>rfl
 | [v],h=>simp at h
 | v::v2::l,_=>rfl
theorem Yz {fn:Func} {a:Act} {st:St} (S:aE P w I β st.hp B M w0) (hs:kz P w I β st.hp a st.sl) {xs:List V} {rd:List Nat} (h:(sZ P st fn.results.toList).run C st.hp=some (xs,rd)):
  ∃vs:List Value,(results fn a.tmps).run P w= .ok (tM vs) w∧vs.length=xs.length∧
   ∀(j:Nat) v x,vs[j]? =some v→xs[j]? =some x→ao P w I β st.hp v x:=by
 obtain ⟨vs,a1,a2,_,a4⟩:=DJ S hs h
 refine ⟨vs,?_,a2,a4⟩
 unfold results
 rw[Array.mapM_eq_mapM_toList]
 simp only[map_eq_pure_bind,bind_assoc,pure_bind,Sem.run_bind]
 refine (congrArg (fun r:Result (List Value)=>r.andThen _) a1).trans ?_
 simp only[Result.andThen_ok,Sem.run_pure]
 match vs with
 | []=>simp[tM]
 | [v]=>simp[tM]
 | v::v2::l=>simp[tM]
theorem OR: ∀{args:List V} {i k:Nat},dr (mG i args) k=if i≤k then args[k-i]? else none
 | [],i,k=>by simp[mG,dr]
 | v::vs,i,k=>by
  simp only[mG,dr]
  cases hb:Nat.beq k i with
  | true=>
   rw[aQ] at hb
   subst hb
   simp
  | false=>
   have bu:k≠i:=fun e=>by rw[e,jl] at hb;cases hb
   simp only[cond_false,OR]
   by_cases h:i≤k
   ·rw[aj (by omega),aj h]
    obtain ⟨d,rfl⟩: ∃d,k=i+1+d:=⟨k-(i+1),by omega⟩
    rw[show i+1+d-(i+1)=d by omega,show i+1+d-i=d+1 by omega]
    rfl
   ·rw[ai (by omega),ai h]
theorem Ii: ∀{l:List (Nat × VS)} {ds:List V} {i k:Nat},jS i l=true→dr (eT l ds) k=if i≤k then (e8 (l.map (·.2)) ds)[k-i]? else none
 | [],ds,i,k,_=>by simp[eT,e8,dr]
 | (q,s)::l,ds,i,k,h=>by
  simp only[jS,aI,aQ] at h
  obtain ⟨rfl,h⟩:=h
  simp only[eT,dr,cO,e8]
  cases hb:Nat.beq k q with
  | true=>
   rw[aQ] at hb
   subst hb
   simp
  | false=>
   have bu:k≠q:=fun e=>by rw[e,jl] at hb;cases hb
   simp only[cond_false]
   rw[Ii h]
   by_cases h:q≤k
   ·rw[aj (by omega),aj h]
    obtain ⟨d,rfl⟩: ∃d,k=q+1+d:=⟨k-(q+1),by omega⟩
    rw[show q+1+d-(q+1)=d by omega,show q+1+d-q=d+1 by omega]
    rfl
   ·rw[ai (by omega),ai h]
theorem OS: ∀{l:List (Nat × VS)} {ds:List V},(eT l ds).map (·.2)=e8 (l.map (·.2)) ds
 | [],_=>rfl
 | (q,s)::l,ds=>by simp only[eT,cO,e8,OS]
theorem Ij: ∀{l:List VS} {ds:List V},(e8 l ds).length=l.length
 | [],_=>rfl
 | s::l,ds=>by simp only[e8,List.length_cons,Ij]
theorem OT: ∀{l:List (Nat × VS)} {ds:List V},(eT l ds).length=l.length
 | [],_=>rfl
 | (q,s)::l,ds=>by simp only[eT,List.length_cons,OT]
theorem YA {vals:List Value} {l:List (Nat × V)} (hl:vals.length=l.length) (h: ∀(j:Nat) v y,vals[j]? =some v→(l.map (·.2))[j]? =some y→ao P w I β hp v y):ao P w I β hp (tM vals) (oN l):=by
 match l,hl,h with
 | [],hl,h=>
  obtain rfl:vals=[]:=kQ hl
  exact .bc rfl fun j v x _ hx=>by simp at hx
 | [(k,y)],hl,h=>
  match vals,hl,h with
  | [v],_,h=>exact h 0 v y rfl rfl
 | a::b::l,hl,h=>
  have bu:vals.length≠1:=by rw[hl];simp
  rw[Yy bu]
  simp only[oN]
  exact .bc (by simp[hl]) fun j v y hj hy=>h j v y (by simpa using hj) hy
theorem YB {l:List BS} {ds:List V} {j:Nat} {e:TypeId} {es:List V} {aq:List Nat} (h:(ej l ds)[j]? =some (.nest e es aq)) (k:Nat):bA aq k=0:=by
 obtain ⟨b,eX,_,U⟩:=HV h
 cases b<;>simp only[fp] at U<;>cases U
 match k with
 | 0=>rfl
 | 1=>rfl
 | 2=>rfl
 | _+3=>rfl
theorem YC {f n m:Nat} {fn:Func} {a:Act} {st:St} {es:List V} {rd:List Nat} (hm: ∀id blk,hp0 id=some blk→id<m) (ja: ∀id e es aq,hp0 id=some (.nest e es aq)→∀k,bA aq k=0)
  (hI:Inv P A.idle A.aD B M w0 μ hp0 n a w st) (lW:jS 0 (A.fW f).bJ=true) (aU:(A.fW f).bJ.length=fn.results.size) (h:(vp P A f fn m st).run C st.hp=some (es,rd)):
  ∃v I2 bP,(results fn a.tmps).run P w= .ok v w∧aE P w I2 bP (bj (A.so f es) (A.lv f es)).hp B M w0∧kF w0.w w0.I μ hp0 w I2 bP (bj (A.so f es) (A.lv f es)).hp∧ao P w I2 bP (bj (A.so f es) (A.lv f es)).hp v (oN (eT (A.so f es).bJ (A.lv f es))):=by
 unfold vp at h
 obtain ⟨xs,l1,l2,h1,U⟩:=kA h
 obtain ⟨I,β,S,hA,hE⟩:=hI
 obtain ⟨vals,e1,e2,e3⟩:=Yz S hA.sl h1
 have e4:fn.results.size=xs.length:=by
  obtain ⟨_,_,_,q,_⟩:=DJ S hA.sl h1
  simpa using q
 have fin: ∀(Sx:Shape) (es:List V),jS 0 Sx.bJ=true→Sx.bJ.length=fn.results.size→jo m Sx (canon m (List.range xs.length) (freeze m (A.sR f) ⟨iS (mG 0 xs),st.hp,st.nb⟩))=some es→
   ∃v I2 bP,(results fn a.tmps).run P w= .ok v w∧aE P w I2 bP (bj Sx es).hp B M w0∧kF w0.w w0.I μ hp0 w I2 bP (bj Sx es).hp∧ao P w I2 bP (bj Sx es).hp v (oN (eT Sx.bJ es)):=by
  intro Sx es lW aU tN
  have YD:iH P A.idle A.aD w I β vals.length ⟨vals.toArray,[]⟩ ⟨iS (mG 0 xs),st.hp,st.nb⟩:=by
   refine ⟨fun k=> ?_,by simp,by simp,hA.aD⟩
   change ao P w I β st.hp _ (iS (mG 0 xs) k)
   unfold iS
   rw[OR]
   simp only[kh,dm,Nat.sub_zero]
   cases hk:xs[k]? with
   | none=>exact .undef
   | some x=>
    have hU:k<vals.length:=by rw[e2];exact (br.1 hk).1
    have:=e3 k vals[k] x (bx hU) hk
    have e5:(vals.toArray).getD k undef=vals[k]:=by simp[hU]
    rw[Option.getD_some]
    exact e5▸this
  obtain ⟨I2,k1,k2,k3⟩:=OA (st:=⟨iS (mG 0 xs),st.hp,st.nb⟩) (m:=m) (pur:=A.sR f) S YD
  have YE:Inv P A.idle A.aD B M w0 μ hp0 vals.length ⟨vals.toArray,[]⟩ w (freeze m (A.sR f) ⟨iS (mG 0 xs),st.hp,st.nb⟩):=⟨I2,β,k2,k3,hE.trans k1.Dn⟩
  obtain ⟨I3,OU,q1,q2,q3⟩:=(YE.canon (live:=List.range xs.length) hm ja).reshape tN hm
  refine ⟨tM vals,I3,OU,e1,q1,q3,YA (by rw[OT,aU,e4,e2]) fun j v y hj hy=> ?_⟩
  have hv:=q2.sl j
  have b8:=(br.1 hj).1
  have e5:(vals.toArray).getD j undef=v:=by
   have:=(br.1 hj).2
   simp[b8,this]
  change ao P w I3 OU _ ((vals.toArray).getD j undef) (iS (eT Sx.bJ _) j) at hv
  rw[e5] at hv
  unfold iS at hv
  rw[Ii lW] at hv
  simp only[kh,dm,Nat.sub_zero] at hv
  rw[OS] at hy
  rw[hy] at hv
  exact hv
 unfold cA.so cA.lv
 cases ca:A.alt f with
 | none=>
  rw[ca] at U
  simp only at U⊢
  split at U
  ·rename_i eX tN
   have:=aL U
   subst this
   exact fin _ _ lW aU tN
  ·cases U
 | some S2=>
  rw[ca] at U
  simp only at U⊢
  split at U
  ·rename_i eX tN
   have:=aL U
   subst this
   exact fin _ _ lW aU tN
  ·split at U
   ·rename_i eX tN
    obtain ⟨hc,h3⟩:=aF U
    simp only[aI,aQ] at hc
    have:=aL h3
    subst this
    exact fin _ _ hc.1 hc.2 tN
   ·cases U
theorem YF (hC:kG P A C) (hP:iG P A) (mS:P.follows .mixedOrders=true):kG P A (pW P A C):=by
 intro f ds es h
 unfold pW at h
 cases hf:P.funcs[A.aX f]? with
 | none=>rw[hf] at h;cases h
 | some fn=>
  rw[hf] at h
  simp only at h
  cases hb:fn.body with
  | none=>rw[hb] at h;cases h
  | some c=>
   rw[hb] at h
   simp only at h
   cases hc:(jS 0 (A.sin f).bJ&&(Nat.ble (A.sin f).bJ.length fn.ntmps&&((A.sin f).ok&&(jS 0 (A.fW f).bJ&&(Nat.beq (A.fW f).bJ.length fn.results.size&&pU (nK (A.sin f).a8.length (A.mv f))))))) with
   | false=>rw[hc] at h;cases h
   | true=>
    rw[hc] at h
    simp only[cond_true] at h
    simp only[aI,aQ,dN] at hc
    obtain ⟨jZ,hnt,_,v7,aU,j4⟩:=hc
    obtain ⟨⟨out,st'⟩,h1,U⟩:=bind_some h
    refine ⟨fn,c,rfl,hb,fun w I μ vals hH YG hl hv=> ?_⟩
    have YH:(∀id,out≠ .exit id)∧∃rd,(vp P A f fn (A.sin f).a8.length st').run C st'.hp=some (es,rd):=by
     cases out with
     | exit id=>cases U
     | norm=>
      refine ⟨by simp,?_⟩
      simp only[yh] at U
      obtain ⟨⟨x,rd⟩,e1,e2⟩:=U
      simp only at e2
      subst e2
      exact ⟨rd,e1⟩
     | ret=>
      refine ⟨by simp,?_⟩
      simp only[yh] at U
      obtain ⟨⟨x,rd⟩,e1,e2⟩:=U
      simp only at e2
      subst e2
      exact ⟨rd,e1⟩
    obtain ⟨bu,rd,HM⟩:=YH
    refine calls_of_wp_defers hf hb ?_
    have hm: ∀id blk,(bj (A.sin f) ds).hp id=some blk→id<(A.sin f).a8.length:=by
     intro id blk ab
     simp only[bj,mk,gJ] at ab
     have:=(br.1 ab).1
     rwa [DI] at this
    have ja: ∀id e es aq,(bj (A.sin f) ds).hp id=some (.nest e es aq)→∀k,bA aq k=0:=by
     intro id e es aq ab k
     simp only[bj,mk,gJ] at ab
     exact YB ab k
    refine Yv (w0:=⟨w,I⟩) (μ:=μ) (hp0:=(bj (A.sin f) ds).hp) (B:=w.heap.size) (M:=nZ P w μ (bj (A.sin f) ds).hp) hC hP mS hm ja c h1 ?_ ?_
    ·refine Inv.enter j4 ?_ hm ja fun p hp=>by
      simp only[bj,mk,gJ]
      rw[List.getElem?_eq_none_iff,DI]
      exact hp
     refine ⟨I,μ,⟨hH,fun _ _ _=>rfl,cf _,fun b h=> .inl h,⟨rfl,rfl⟩⟩,⟨fun k=> ?_,?_,by simp,YG⟩,(Le.refl (P:=P) w I μ _).Dn⟩
     ·change ao P w I μ _ _ (iS (eT (A.sin f).bJ ds) k)
      unfold iS
      rw[Ii jZ]
      simp only[kh,dm,Nat.sub_zero]
      cases hk:(e8 ((A.sin f).bJ.map (·.2)) ds)[k]? with
      | none=>exact .undef
      | some x=>
       have hU:k<vals.length:=by
        have:=(br.1 hk).1
        rw[Ij,ba] at this
        rw[hl];exact this
       have:=hv k vals[k] x (bx hU) hk
       have e1:(vals.toArray++Array.replicate (fn.ntmps-vals.toArray.size) undef).getD k undef=vals[k]:=by
        simp[Array.getElem?_append,hU]
       rw[Option.getD_some]
       exact e1▸this
     ·simp
      omega
    ·intro a' w' hI
     obtain ⟨v,I2,bP,q1,q2,q3,q4⟩:=YC hm ja hI v7 aU HM
     obtain ⟨_,_,_,hA,_⟩:=hI
     cases out with
     | exit id=>exact absurd rfl (bu id)
     | norm=>exact H2 hP q1 ⟨v,I2,bP,rfl,q2,q3,q4⟩ _ hA.defers
     | ret=>exact H2 hP q1 ⟨v,I2,bP,rfl,q2,q3,q4⟩ _ hA.defers
theorem OV (hP:iG P A) (mS:P.follows .mixedOrders=true): ∀n,kG P A (kY P A n)
 | 0=>fun _ _ _ h=>by cases h
 | n+1=>YF (OV hP mS n) hP mS
theorem YI (hP:iG P A) (mS:P.follows .mixedOrders=true):kG P A (Call P A):=by
 intro f ds es h
 have hn: ∃n,kY P A n f ds=some es:=by
  unfold Call at h
  split at h
  ·rename_i hex
   have:=hex.choose_spec.choose_spec
   rw[cY h] at this
   exact ⟨_,this⟩
  ·cases h
 obtain ⟨n,hn⟩:=hn
 exact OV hP mS n f ds es hn
end
section
variable {P:Program} {A:cA} {C:ag} {D:Nat→ag}
def zF (C:ag) (D:Nat→ag):Prop:= ∀f a r,C f a=some r→∃n,∀k,n≤k→D k f a=some r
theorem o6 {α:Type} (h:zF C D) {hp:Nat→Option an}: ∀{p:Rd α} {r:α × List Nat},p.run C hp=some r→∃n,∀k,n≤k→p.run (D k) hp=some r
 | .ret a,r,e=>⟨0,fun _ _=>e⟩
 | .fail,r,e=>by cases e
 | .get id q,r,e=>by
  obtain ⟨x,h1,U⟩:=bind_some e
  obtain ⟨n,hn⟩:=o6 h h1
  exact ⟨n,fun k hk=>by simp only[Rd.run,hn k hk,Option.bind_some];exact U⟩
 | .opt o q,r,e=>by
  obtain ⟨x,h1,U⟩:=bind_some e
  obtain ⟨n,hn⟩:=o6 h U
  exact ⟨n,fun k hk=>by simp only[Rd.run,h1,Option.bind_some];exact hn k hk⟩
 | .live id ok q,r,e=>by
  simp only[Rd.run] at e
  cases hk:ok (fI (hp id)) with
  | false=>rw[hk] at e;cases e
  | true=>
   rw[hk] at e
   obtain ⟨x,h1,U⟩:=bind_some e
   obtain ⟨n,hn⟩:=o6 h h1
   exact ⟨n,fun k lY=>by simp only[Rd.run,hk,cond_true,hn k lY,Option.bind_some];exact U⟩
 | .aA b q,r,e=>by
  obtain ⟨h1,U⟩:=aF e
  obtain ⟨n,hn⟩:=o6 h U
  exact ⟨n,fun k hk=>by simp only[Rd.run,h1,cond_true];exact hn k hk⟩
 | .call f a q,r,e=>by
  obtain ⟨x,h1,U⟩:=bind_some e
  obtain ⟨n1,jZ⟩:=h f a x h1
  obtain ⟨n2,v7⟩:=o6 h U
  exact ⟨max n1 n2,fun k hk=>by simp only[Rd.run,jZ k (by omega),Option.bind_some];exact v7 k (by omega)⟩
 | .alt true x y,r,e=>o6 (p:=x) h e
 | .alt false x y,r,e=>o6 (p:=y) h e
theorem YJ (h:zF C D) {n i nb:Nat} {ops:Array Oper} {o:Oper} {st:St} {r:St × List Nat × List Nat} (e:gA P A C n ops i o nb st=some r): ∃N,∀k,N≤k→gA P A (D k) n ops i o nb st=some r:=by
 unfold gA at e
 have go:(((e9 P A st.sl i (nb+64*i) o).run C st.hp).bind fun r=>some ((⟨gU st.sl o.dst r.1.v,bE st.hp r.1.upd,st.nb⟩:St),pV r.2 r.1.upd,fq st.hp r.1.upd))=some r→
   ∃N,∀k,N≤k→(((e9 P A st.sl i (nb+64*i) o).run (D k) st.hp).bind fun r=>some ((⟨gU st.sl o.dst r.1.v,bE st.hp r.1.upd,st.nb⟩:St),pV r.2 r.1.upd,fq st.hp r.1.upd))=some r:=by
  intro e
  obtain ⟨x,h1,U⟩:=bind_some e
  obtain ⟨N,hN⟩:=o6 h h1
  exact ⟨N,fun k hk=>by rw[hN k hk];exact U⟩
 unfold gA
 cases hd:rD o n with
 | false=>rw[hd] at e;cases e
 | true=>
  rw[hd] at e
  simp only[cond_true] at e⊢
  cases hg:o.guard with
  | none=>rw[hg] at e;exact go e
  | some gw=>
   obtain ⟨g,want⟩:=gw
   rw[hg] at e
   simp only at e⊢
   cases lk:(ops[g]?).bind (·.dst) with
   | none=>rw[lk] at e;cases e
   | some d=>
    rw[lk] at e
    simp only at e⊢
    cases lX:kT (st.sl d) with
    | none=>rw[lX] at e;cases e
    | some ob=>
    rw[lX] at e
    cases ob with
    | none=>exact ⟨0,fun _ _=>e⟩
    | some b=>
    simp only at e⊢
    cases hb:b==want with
    | true=>rw[hb] at e;exact go e
    | false=>rw[hb] at e;exact ⟨0,fun _ _=>e⟩
theorem OW (h:zF C D) {n nb:Nat} {ops:Array Oper}: ∀{l:List (Nat × Oper)} {st:St} {log:Log} {r:St × Log},oO P A C n ops nb l st log=some r→∃N,∀k,N≤k→oO P A (D k) n ops nb l st log=some r
 | [],st,log,r,e=>⟨0,fun _ _=>e⟩
 | (i,o)::l,st,log,r,e=>by
  obtain ⟨x,h1,U⟩:=bind_some e
  obtain ⟨N1,oa⟩:=YJ h h1
  obtain ⟨N2,qv⟩:=OW h U
  exact ⟨max N1 N2,fun k hk=>by simp only[oO,oa k (by omega),Option.bind_some];exact qv k (by omega)⟩
theorem OX {X R:Type} {step:X→Option (X ⊕ R)} {stepD:Nat→X→Option (X ⊕ R)} (hs: ∀x y,step x=some y→∃N,∀k,N≤k→stepD k x=some y): ∀(n:Nat) (x:X) (r:R),e7 step n x=some r→∃N,∀k,N≤k→e7 (stepD k) n x=some r
 | 0,x,r,e=>by cases e
 | n+1,x,r,e=>by
  simp only[e7] at e⊢
  obtain ⟨y,h1,U⟩:=bind_some e
  obtain ⟨N1,oa⟩:=hs x y h1
  cases y with
  | inl z=>
   obtain ⟨N2,qv⟩:=OX hs n z r U
   exact ⟨max N1 N2,fun k hk=>by rw[oa k (by omega)];exact qv k (by omega)⟩
  | inr q=>exact ⟨N1,fun k hk=>by rw[oa k hk];exact U⟩
theorem YK (h:zF C D) {f n m:Nat}: ∀(c:Code) {st:St} {r:Out × St},exec P A C f n m c st=some r→∃N,∀k,N≤k→exec P A (D k) f n m c st=some r:=by
 intro c
 induction c with
 | skip=>exact fun e=>⟨0,fun _ _=>e⟩
 | exit id=>exact fun e=>⟨0,fun _ _=>e⟩
 | ret=>exact fun e=>⟨0,fun _ _=>e⟩
 | region id ops draw=>
  intro st r e
  simp only[exec] at e⊢
  obtain ⟨x,h1,U⟩:=bind_some e
  obtain ⟨y,h3,h4⟩:=bind_some h1
  obtain ⟨N,hN⟩:=OW h h3
  refine ⟨N,fun k hk=> ?_⟩
  have:yJ P (A.here f id) (D k) n ops draw st=some x:=by
   unfold yJ
   rw[hN k hk]
   exact h4
  rw[this]
  exact U
 | seq x y iq iu=>
  intro st r e
  simp only[exec] at e⊢
  obtain ⟨⟨o,s1⟩,h1,U⟩:=bind_some e
  obtain ⟨N1,oa⟩:=iq h1
  cases o with
  | norm=>
   obtain ⟨N2,qv⟩:=iu U
   exact ⟨max N1 N2,fun k hk=>by rw[oa k (by omega)];exact qv k (by omega)⟩
  | exit id=>exact ⟨N1,fun k hk=>by rw[oa k hk];exact U⟩
  | ret=>exact ⟨N1,fun k hk=>by rw[oa k hk];exact U⟩
 | cond c x y iq iu=>
  intro st r e
  cases c with
  | tmp t=>
   have go: ∀{st:St} {r:Out × St},(match st.sl t with
     | .bool b=>(bif b then exec P A C f n m x st else exec P A C f n m y st).bind fun r=>
      match r.1 with
      | .norm=>some (.norm,canon m (A.join f t) r.2)
      | _=>some r
     | _=>none)=some r→∃N,∀k,N≤k→(match st.sl t with
     | .bool b=>(bif b then exec P A (D k) f n m x st else exec P A (D k) f n m y st).bind fun r=>
      match r.1 with
      | .norm=>some (.norm,canon m (A.join f t) r.2)
      | _=>some r
     | _=>none)=some r:=by
    intro st r e
    cases hs:st.sl t<;>rw[hs] at e<;>simp only at e⊢ <;>first|(cases e;done)|skip
    rename_i b
    obtain ⟨x1,h1,U⟩:=bind_some e
    cases b with
    | true=>
     obtain ⟨N,hN⟩:=iq h1
     exact ⟨N,fun k hk=>by simp only[cond_true,hN k hk,Option.bind_some];exact U⟩
    | false=>
     obtain ⟨N,hN⟩:=iu h1
     exact ⟨N,fun k hk=>by simp only[cond_false,hN k hk,Option.bind_some];exact U⟩
   simp only[exec] at e⊢
   split at e
   ·rename_i hS
    obtain ⟨N,hN⟩:=go e
    exact ⟨N,fun k hk=>hN k hk⟩
   ·rename_i S hS
    obtain ⟨ds,h1,U⟩:=bind_some e
    obtain ⟨e',h3,h4⟩:=bind_some U
    obtain ⟨r1,h5,h6⟩:=bind_some h3
    obtain ⟨N,hN⟩:=go h5
    refine ⟨N,fun k hk=> ?_⟩
    try rw[hS]
    simp only[h1,Option.bind_some]
    exact (congrArg (fun z:Option (Out × St)=>(z.bind fun r=>ways m 0 S.2 r).bind fun e=>lK 0 S.2 e.1 e.2 fun o st=>some (o,st)) (hN k hk)).trans (by simp only[Option.bind_some,h6];exact h4)
  | const v=>
   cases v with
   | bool b=>
    simp only[exec] at e⊢
    cases b with
    | true=>exact iq e
    | false=>exact iu e
   | _=>simp only[exec] at e;cases e
  | _=>simp only[exec] at e;cases e
 | block id c ih=>
  intro st r e
  simp only[exec] at e⊢
  obtain ⟨x1,h1,U⟩:=bind_some e
  obtain ⟨N,hN⟩:=ih h1
  exact ⟨N,fun k hk=>by rw[hN k hk];exact U⟩
 | loop c ih=>
  intro st r e
  simp only[exec] at e⊢
  split at e
  ·cases e
  ·rename_i S hS
   obtain ⟨ds,h1,U⟩:=bind_some e
   obtain ⟨e',h3,h4⟩:=bind_some U
   obtain ⟨q,hq⟩:=u9 h3
   obtain ⟨N,hN⟩:=OX (stepD:=fun k ds=>mF m S.1 S.2 (exec P A (D k) f n m c (bj S.1 ds))) (fun x y DK=>by
    unfold mF at DK⊢
    obtain ⟨z,h5,h6⟩:=bind_some DK
    obtain ⟨N,hN⟩:=ih h5
    exact ⟨N,fun k hk=>by rw[hN k hk];exact h6⟩) q ds e' hq
   refine ⟨N,fun k hk=> ?_⟩
   try rw[hS]
   simp only[h1,Option.bind_some]
   rw[yn (hN k hk)]
   exact h4
 | _=>intro st r e;simp only[exec] at e;cases e
theorem Ik (h:zF C D) {f:Nat} {ds es:List V} (e:pW P A C f ds=some es): ∃N,∀k,N≤k→pW P A (D k) f ds=some es:=by
 unfold pW at e⊢
 cases hf:P.funcs[A.aX f]? with
 | none=>rw[hf] at e;cases e
 | some fn=>
  rw[hf] at e
  simp only at e⊢
  cases hb:fn.body with
  | none=>rw[hb] at e;cases e
  | some c=>
   rw[hb] at e
   simp only at e⊢
   cases hc:(jS 0 (A.sin f).bJ&&(Nat.ble (A.sin f).bJ.length fn.ntmps&&((A.sin f).ok&&(jS 0 (A.fW f).bJ&&(Nat.beq (A.fW f).bJ.length fn.results.size&&pU (nK (A.sin f).a8.length (A.mv f))))))) with
   | false=>rw[hc] at e;cases e
   | true=>
    rw[hc] at e
    simp only[cond_true] at e⊢
    obtain ⟨⟨o,s1⟩,h1,U⟩:=bind_some e
    obtain ⟨N1,oa⟩:=YK h c h1
    cases o with
    | exit id=>cases U
    | norm=>
     simp only[yh] at U
     obtain ⟨x,e1,e2⟩:=U
     obtain ⟨N2,qv⟩:=o6 h e1
     exact ⟨max N1 N2,fun k hk=>by rw[oa k (by omega)];simp only[Option.bind_some,qv k (by omega),Option.map_some,e2]⟩
    | ret=>
     simp only[yh] at U
     obtain ⟨x,e1,e2⟩:=U
     obtain ⟨N2,qv⟩:=o6 h e1
     exact ⟨max N1 N2,fun k hk=>by rw[oa k (by omega)];simp only[Option.bind_some,qv k (by omega),Option.map_some,e2]⟩
theorem OY: ∀n f a r,kY P A n f a=some r→kY P A (n+1) f a=some r
 | 0,f,a,r,h=>by cases h
 | n+1,f,a,r,h=>by
  obtain ⟨N,hN⟩:=Ik (C:=kY P A n) (D:=fun _=>kY P A (n+1)) (fun f a r h=>⟨0,fun _ _=>OY n f a r h⟩) h
  exact hN N (cf _)
theorem Il {n k:Nat} (hk:n≤k) {f:Nat} {a r:List V} (h:kY P A n f a=some r):kY P A k f a=some r:=by
 induction hk with
 | refl=>exact h
 | step _ ih=>exact OY _ _ _ _ ih
theorem DL {f:Nat} {a r:List V}:Call P A f a=some r↔∃n,kY P A n f a=some r:=by
 constructor
 ·intro h
  unfold Call at h
  split at h
  ·rename_i hex
   have:=hex.choose_spec.choose_spec
   rw[cY h] at this
   exact ⟨_,this⟩
  ·cases h
 ·rintro ⟨n,hn⟩
  have hex: ∃n r,kY P A n f a=some r:=⟨n,r,hn⟩
  unfold Call
  rw[rb hex]
  have U:=hex.choose_spec.choose_spec
  have h3:=Il (Nat.le_max_left n hex.choose) hn
  have h4:=Il (Nat.le_max_right n hex.choose) U
  rw[h3] at h4
  exact h4.symm
theorem YL (f:Nat) (a:List V):Call P A f a=pW P A (Call P A) f a:=by
 apply Option.ext
 intro r
 constructor
 ·intro h
  obtain ⟨n,hn⟩:=DL.1 h
  cases n with
  | zero=>cases hn
  | succ n=>
   obtain ⟨N,hN⟩:=Ik (C:=kY P A n) (D:=fun _=>Call P A) (fun f a r h=>⟨0,fun _ _=>DL.2 ⟨n,h⟩⟩) hn
   exact hN N (cf _)
 ·intro h
  obtain ⟨N,hN⟩:=Ik (C:=Call P A) (D:=kY P A) (fun f a r h=>by
   obtain ⟨n,hn⟩:=DL.1 h
   exact ⟨n,fun k hk=>Il hk hn⟩) h
  exact DL.2 ⟨N+1,hN N (cf _)⟩
end
end Go.AM
namespace Go.AM
open Go.ChangeShapes Go.WideShapes Go.RowKit
section
variable (P:Program)
inductive WT:TypeId→V→Prop
 | int {t:TypeId} {k:IntKind} {n:Int}:P.underlying t=some (.int k)→(Lit.int k n).wf=true→WT t (.int k n)
 | bool {t:TypeId} {b:Bool}:P.underlying t=some .bool→WT t (.bool b)
 | str {t:TypeId} {l:List UInt8}:P.underlying t=some .string→l.length≤maxLen→WT t (.str l)
 | list {t e:TypeId} {es:List V}:P.underlying t=some (.slice e)→es.length≤maxLen→
   (∀(i:Nat) x,es[i]? =some x→bD P e=true→∃xs,x= .agg xs∧xs.length=(aS P e).length)→
   (∀(i j:Nat) x t',es[i]? =some x→(aS P e)[j]? =some t'→WT t' (bH P e x j))→WT t (.list e es)
def jJ (t:TypeId) (x:V):Prop:=
 (bD P t=true→∃xs,x= .agg xs∧xs.length=(aS P t).length)∧∀(j:Nat) t',(aS P t)[j]? =some t'→WT P t' (bH P t x j)
def pE:List TypeId→List V→Prop
 | [],[]=>True
 | t::ts,x::xs=>jJ P t x∧pE ts xs
 | _,_=>False
def hasB (L:List TypeId) (t:TypeId):Bool:=L.any fun u=>Nat.beq u t
def DM (L:List TypeId):Nat→List Field→Bool
 | _,[]=>true
 | n,f::fs=>hasB L f.type&&(Nat.beq f.offset n&&(Nat.beq (P.cellsOf f.type) (aS P f.type).length&&DM L (n+P.cellsOf f.type) fs))
def zG:List Nat→List Nat→Bool
 | [],[]=>true
 | a::l,b::m=>Nat.beq a b&&zG l m
 | _,_=>false
def Im (L:List TypeId) (t:TypeId):Bool:=
 Nat.beq (P.cellsOf t) (aS P t).length&&
 match P.underlying t with
 | some (.int _)=>true
 | some .bool=>true
 | some .string=>true
 | some (.slice e)=>hasB L e&&cK P e
 | some (.struct fs)=>DM P L 0 fs.toList&&zG (flat P t) (fs.toList.flatMap fun f=>aS P f.type)
 | some (.array n e)=>hasB L e&&(Nat.beq (P.cellsOf e) (aS P e).length&&zG (flat P t) (List.replicate n (aS P e)).flatten)
 | _=>false
def zH (L:List TypeId):Bool:=L.all fun t=>Im P L t
end
theorem DN {L:List TypeId} {t:TypeId} (h:hasB L t=true):t∈L:=by
 obtain ⟨u,hu,U⟩:=nC.1 h
 rw[aQ] at U
 exact U▸hu
theorem Io: ∀{l m:List Nat},zG l m=true→l=m
 | [],[],_=>rfl
 | a::l,b::m,h=>by
  simp only[zG,aI,aQ] at h
  rw[h.1,Io h.2]
 | [],_::_,h=>by cases h
 | _::_,[],h=>by cases h
section
variable {P:Program} {H:Type} {enc:TypeId × Value→H} {w:World} {base:Nat} {spare:Nat→Bool} {held:Bool} {L:List TypeId}
def mT (w:World):Nat→Prop:=fun b=>b<w.heap.size
def mU (P:Program) (w:World) (ts:List TypeId) (cs:List Value) (xs:List V):Prop:=
 cs.length=ts.length∧xs.length=ts.length∧∀(j:Nat) t',ts[j]? =some t'→∃v y,cs[j]? =some v∧xs[j]? =some y∧Pure P w (mT w) t' v y∧WT P t' y
theorem mU.app {ts vj:List TypeId} {cs hO:List Value} {xs OZ:List V} (h:mU P w ts cs xs) (h':mU P w vj hO OZ):mU P w (ts++vj) (cs++hO) (xs++OZ):=by
 obtain ⟨a,b,c⟩:=h
 obtain ⟨a',b',c'⟩:=h'
 refine ⟨by simp[a,a'],by simp[b,b'],fun j t' hj=> ?_⟩
 by_cases aO:j<ts.length
 ·rw[ij aO] at hj
  obtain ⟨v,y,e1,e2,e3⟩:=c j t' hj
  exact ⟨v,y,by rw[ij (by omega)];exact e1,by rw[ij (by omega)];exact e2,e3⟩
 ·rw[ik (by omega)] at hj
  obtain ⟨v,y,e1,e2,e3⟩:=c' _ t' hj
  exact ⟨v,y,by rw[ik (by omega),a];exact e1,by rw[ik (by omega),b];exact e2,e3⟩
theorem YM {w:World} {a:Addr} {v:Value} (h:w.cell? a=some v):a.spot=none∧a.block<w.heap.size:=by
 unfold World.cell? at h
 split at h
 ·rename_i hh
  split at h
  ·cases h
  ·rename_i hs
   exact ⟨by simpa using hs,(gR.1 hh).1⟩
 all_goals (first|cases h|skip)
theorem O0 {rd:TypeId→List Value→Option (DataW H × List MemPlace)} (cs:List Value)
  (ih: ∀t cs x,t∈L→rd t cs=some x→∃xs,mU P w (aS P t) cs xs): ∀(fs:List Field) (n:Nat),DM P L n fs=true→
  (∀f∈fs,∃x,rd f.type ((cs.drop f.offset).take (P.cellsOf f.type))=some x)→∃m xs,n≤m∧mU P w (fs.flatMap fun f=>aS P f.type) ((cs.drop n).take (m-n)) xs∧m-n=(fs.flatMap fun f=>aS P f.type).length
 | [],n,_,_=>⟨n,[],cf _,⟨by simp,rfl,by simp⟩,by simp⟩
 | f::fs,n,h,hx=>by
  simp only[DM,aI,aQ] at h
  obtain ⟨h1,U,h3,h4⟩:=h
  obtain ⟨x,YN⟩:=hx f (by simp)
  obtain ⟨xs,ga⟩:=ih _ _ _ (DN h1) YN
  obtain ⟨m,ys,hm,qw,H7⟩:=O0 cs ih fs (n+P.cellsOf f.type) h4 fun g hg=>hx g (by simp[hg])
  refine ⟨m,xs++ys,by omega,?_,by simp only[my,cv];omega⟩
  have:=ga.app qw
  rw[my]
  rw[U] at this
  have e:(cs.drop n).take (m-n)=(cs.drop n).take (P.cellsOf f.type)++(cs.drop (n+P.cellsOf f.type)).take (m-(n+P.cellsOf f.type)):=by
   rw[show m-n=P.cellsOf f.type+(m-(n+P.cellsOf f.type)) by omega,List.take_add,pJ]
  rw[e]
  exact this
theorem O1 {rd:List Value→Option (DataW H × List MemPlace)} (cs:List Value) {e:TypeId} (hs:P.cellsOf e=(aS P e).length)
  (ih: ∀cs x,rd cs=some x→∃xs,mU P w (aS P e) cs xs): ∀(n:Nat),
  (∀i,i<n→∃x,rd ((cs.drop (i*P.cellsOf e)).take (P.cellsOf e))=some x)→∃xs,mU P w (List.replicate n (aS P e)).flatten (cs.take (n*P.cellsOf e)) xs
 | 0,_=>⟨[],by simp,rfl,by simp⟩
 | n+1,hx=>by
  obtain ⟨xs,ga⟩:=O1 cs hs ih n fun i hi=>hx i (by omega)
  obtain ⟨x,zz⟩:=hx n (by omega)
  obtain ⟨ys,qw⟩:=ih _ _ zz
  refine ⟨xs++ys,?_⟩
  rw[List.replicate_succ',List.flatten_append]
  have:=ga.app qw
  rw[dc,Nat.one_mul,List.take_add]
  simpa using this
theorem DO (hL:zH P L=true): ∀(fuel:Nat) (t:TypeId) (cs:List Value) (x:DataW H × List MemPlace),t∈L→DataW.trod enc P w base spare held fuel t cs=some x→
  ∃xs,mU P w (aS P t) cs xs
 | 0,_,_,_,_,h=>by cases h
 | fuel+1,t,cs,x,ht,h=>by
  have hg:=e6.1 hL t ht
  unfold Im at hg
  rw[aI,aQ] at hg
  obtain ⟨hc,hg⟩:=hg
  have one:bD P t=false→aS P t=[t]:=fun h=>by simp[aS,h]
  cases hu:P.underlying t with
  | none=>rw[hu] at hg;cases hg
  | some d=>
   rw[hu] at hg
   cases d with
   | int k=>
    obtain ⟨n,rfl,rfl,zI⟩:=DataW.trod_int hu h
    rw[one (by simp[bD,hu])]
    exact ⟨[.int k n],rfl,rfl,fun j t' hj=>by
     cases j with
     | zero=>cases hj;exact ⟨_,_,rfl,rfl,.int hu,.int hu zI⟩
     | succ j=>simp at hj⟩
   | bool=>
    obtain ⟨b,rfl,rfl⟩:=DataW.trod_bool hu h
    rw[one (by simp[bD,hu])]
    exact ⟨[.bool b],rfl,rfl,fun j t' hj=>by
     cases j with
     | zero=>cases hj;exact ⟨_,_,rfl,rfl,.bool hu,.bool hu⟩
     | succ j=>simp at hj⟩
   | string=>
    obtain ⟨s,rfl,rfl,hl⟩:=DataW.trod_string hu h
    rw[one (by simp[bD,hu])]
    exact ⟨[.str s.data.toList],rfl,rfl,fun j t' hj=>by
     cases j with
     | zero=>cases hj;exact ⟨_,_,rfl,rfl,.str hu rfl,.str hu (by simpa using hl)⟩
     | succ j=>simp at hj⟩
   | slice e=>
    simp only[aI] at hg
    obtain ⟨he,au⟩:=hg
    rw[one (by simp[bD,hu])]
    have single: ∀v y,cs=[v]→Pure P w (mT w) t v y→WT P t y→∃xs,mU P w [t] cs xs:=by
     rintro v y rfl a b
     exact ⟨[y],rfl,rfl,fun j t' hj=>by
      cases j with
      | zero=>cases hj;exact ⟨_,_,rfl,rfl,a,b⟩
      | succ j=>simp at hj⟩
    rcases DataW.trod_slice hu h with ⟨rfl,rfl⟩|⟨a,len,cap,elems,rest,n,hn,rfl,rfl,hb,hl,hm,hlen,cM,_,_⟩
    ·exact single _ _ rfl (.nil hu) (.list hu (by simp) (by simp) (by simp))
    ·cases hn
     have iW:=(jV au).2
     have MT:P.cellsOf e=(aS P e).length:=(fb au).symm
     have key: ∀i,i<len→∃hO xs,w.cells? base (a.add (i*P.cellsOf e)) (P.cellsOf e)=some hO∧mU P w (aS P e) hO xs:=by
      intro i hi
      have h1:=cM i hi
      rw[bx (by omega)] at h1
      obtain ⟨hO,U,h3⟩:=Option.bind_eq_some_iff.1 h1
      obtain ⟨xs,ga⟩:=DO hL fuel e hO _ (DN he) h3
      exact ⟨hO,xs,U,ga⟩
     by_cases h0:len=0
     ·subst h0
      exact single _ _ rfl (.emp hu) (.list hu (by simp) (by simp) (by simp))
     ·have gH:a.spot=none∧a.block<w.heap.size:=by
       obtain ⟨hO,xs,U,_⟩:=key 0 (by omega)
       obtain ⟨_,h3,h4⟩:=World.cells?_some U
       have h5:=h4 0 iW
       rw[bx (by omega)] at h5
       have:=YM h5
       simpa[Addr.add] using this
      have hF: ∃(F:Nat→List Value) (X:Nat→List V),∀i,i<len→w.cells? base (a.add (i*P.cellsOf e)) (P.cellsOf e)=some (F i)∧mU P w (aS P e) (F i) (X i):=by
       refine ⟨fun i=>if hi:i<len then (key i hi).choose else [],fun i=>if hi:i<len then (key i hi).choose_spec.choose else [],fun i hi=> ?_⟩
       simp only[rb hi]
       exact (key i hi).choose_spec.choose_spec
      obtain ⟨F,X,Ip⟩:=hF
      have hx: ∀(i j:Nat) y t',((List.range len).map fun i=>ct P e (X i))[i]? =some y→(aS P e)[j]? =some t'→i<len∧∃v,(F i)[j]? =some v∧Pure P w (mT w) t' v (bH P e y j)∧WT P t' (bH P e y j):=by
       intro i j y t' hy hj
       have hi:i<len:=by
        have:=(br.1 hy).1
        simpa using this
       refine ⟨hi,?_⟩
       simp[List.getElem?_range hi] at hy
       obtain ⟨c1,c2,c3⟩:=(Ip i hi).2
       obtain ⟨v,z,d1,d2,d3,d4⟩:=c3 j t' hj
       have:bH P e y j=z:=by
        rw[←hy]
        unfold bH ct
        cases ha:bD P e with
        | true=>
         simp only[cond_true,V.cell]
         rw[th _ _ _ d2]
        | false=>
         simp only[cond_false]
         have:aS P e=[e]:=by simp[aS,ha]
         rw[this] at hj
         cases j with
         | zero=>rw[th _ _ _ d2]
         | succ j=>simp at hj
       rw[this]
       exact ⟨v,d1,d3,d4⟩
      have fK: ∀i j,i<len→j<P.cellsOf e→w.cell? ⟨a.block,a.off+(i*P.cellsOf e+j),none⟩=some ((F i).getD j undef):=by
       intro i j hi hj
       obtain ⟨h1,U⟩:=Ip i hi
       obtain ⟨_,h3,h4⟩:=World.cells?_some h1
       have h5:=h4 j hj
       rw[Go.Deep.add_add] at h5
       have e1:a.add (i*P.cellsOf e+j)=⟨a.block,a.off+(i*P.cellsOf e+j),none⟩:=by
        obtain ⟨b,o,s⟩:=a
        simp only at gH
        rw[gH.1]
        exact mK ..
       rw[e1] at h5
       rw[h5,fV,bx (by omega)]
       rfl
      have ha:a=⟨a.block,a.off,none⟩:=by
       obtain ⟨b,o,s⟩:=a
       simp only at gH
       rw[gH.1]
      refine single (.slice (some a) len cap) (.list e ((List.range len).map fun i=>ct P e (X i))) rfl ?_ ?_
      ·rw[ha]
       refine .list (fun i j=>(F i).getD j undef) hu (by simp) hl (fun _=>gH.2) fK ?_
       intro i j y t' hy hj
       obtain ⟨hi,v,d1,d2,_⟩:=hx i j y t' hy hj
       rw[fV,d1]
       exact d2
      ·refine .list hu (by simp;omega) ?_ ?_
       ·intro i y hy DP
        have hi:i<len:=by
         have:=(br.1 hy).1
         simpa using this
        simp[List.getElem?_range hi] at hy
        rw[←hy]
        exact ⟨X i,by simp[ct,DP],(Ip i hi).2.2.1⟩
       ·intro i j y t' hy hj
        obtain ⟨_,v,_,_,d3⟩:=hx i j y t' hy hj
        exact d3
   | struct fs=>
    simp only[aI] at hg
    obtain ⟨xs,n,hn,rfl,hlen,lU,hx⟩:=DataW.trod_struct hu h
    cases hn
    have het:aS P t=fs.toList.flatMap fun f=>aS P f.type:=by
     rw[←Io hg.2]
     simp[aS,bD,hu]
    obtain ⟨m,ys,_,qw,hm⟩:=O0 (w:=w) (rd:=fun t cs=>DataW.trod enc P w base spare held fuel t cs) cs (fun t cs x a b=>DO hL fuel t cs x a b) fs.toList 0 hg.1 (by
     intro f hf
     obtain ⟨i,hi⟩:=rj hf
     rw[rk] at hi
     have ql:i<fs.size:=(gR.1 hi).1
     exact ⟨_,(hx i f hi).trans (bx (by omega))⟩)
    rw[het]
    refine ⟨ys,?_⟩
    have:(cs.drop 0).take (m-0)=cs:=by
     rw[iP,hm,←het,←hc,←hlen,pG]
    rw[this] at qw
    exact qw
   | array n e=>
    simp only[aI,aQ] at hg
    obtain ⟨xs,m,hn,rfl,hlen,lU,hx⟩:=DataW.trod_array hu h
    cases hn
    have het:aS P t=(List.replicate n (aS P e)).flatten:=by
     rw[←Io hg.2.2]
     simp[aS,bD,hu]
    obtain ⟨ys,qw⟩:=O1 (w:=w) (rd:=DataW.trod enc P w base spare held fuel e) cs hg.2.1 (fun cs x b=>DO hL fuel e cs x (DN hg.1) b) n (by
     intro i hi
     exact ⟨_,(hx i hi).trans (bx (by omega))⟩)
    rw[het]
    refine ⟨ys,?_⟩
    have:cs.take (n*P.cellsOf e)=cs:=by
     have:n*P.cellsOf e=cs.length:=by
      rw[hlen,hc,het,hg.2.1]
      simp
     rw[this,pG]
    rw[this] at qw
    exact qw
   | _=>cases hg
end
section
variable {P:Program} {H:Type} {enc:TypeId × Value→H} {w:World} {L:List TypeId}
theorem YO {base Iq:Nat} {spare:Nat→Bool} {held:Bool} {r:Reach} {β:Nat→Option Nat} {hp:Nat→Option an} (hL:zH P L=true) {t:TypeId} {v:Value} {d:DataW H} {ps:List MemPlace} (ht:t∈L) (eI:Value.okWide P w r Iq t v)
  (h:DataW.Trod enc P w base spare held t v d ps): ∃x,ao P w (mT w) β hp v x∧jJ P t x:=by
 obtain ⟨fuel,hf⟩:=h
 obtain ⟨xs,c1,c2,c3⟩:=DO hL fuel t _ _ ht hf
 have hg:=e6.1 hL t ht
 unfold Im at hg
 rw[aI,aQ] at hg
 obtain ⟨_,hg⟩:=hg
 have DP:bD P t=true→∃x,ao P w (mT w) β hp v x∧jJ P t x:=by
  intro ha
  have hv: ∃cs,v= .agg cs:=by
   unfold Value.okWide at eI
   unfold bD at ha
   split at eI
   ·obtain ⟨cs,e,_⟩:=eI;exact ⟨cs,e⟩
   ·obtain ⟨cs,e,_⟩:=eI;exact ⟨cs,e⟩
   ·split at ha<;>simp_all
  obtain ⟨cs,rfl⟩:=hv
  refine ⟨.agg xs,.agg (by simpa[Value.cells] using c1.trans c2.symm) fun j v x hv hx=> ?_,fun _=>⟨xs,rfl,c2⟩,fun j t' hj=> ?_⟩
  ·have hj:j<(aS P t).length:=by rw[←c2];exact (br.1 hx).1
   obtain ⟨v',y,e1,e2,e3,_⟩:=c3 j _ (bx hj)
   rw[hx] at e2
   cases e2
   have:cs[j]? =some v':=by simpa[Value.cells] using e1
   rw[hv] at this
   cases this
   exact .pY e3
  ·obtain ⟨v',y,e1,e2,_,e4⟩:=c3 j t' hj
   have:bH P t (.agg xs) j=y:=by
    simp only[bH,ha,cond_true,V.cell]
    exact th _ _ _ e2
   rw[this]
   exact e4
 have qi:bD P t=false→v.cells= #[v]→∃x,ao P w (mT w) β hp v x∧jJ P t x:=by
  intro ha tp
  have he:aS P t=[t]:=by simp[aS,ha]
  rw[he] at c1 c2 c3
  obtain ⟨v',y,e1,e2,e3,e4⟩:=c3 0 t rfl
  rw[tp] at e1
  cases e1
  refine ⟨y,.pY e3,⟨fun h=>absurd (ha.symm.trans h) (by simp),fun j t' hj=> ?_⟩⟩
  rw[he] at hj
  cases j with
  | succ j=>simp at hj
  | zero=>
   cases hj
   simpa[bH,ha] using e4
 unfold Value.okWide at eI
 cases hu:P.underlying t with
 | none=>rw[hu] at hg;cases hg
 | some YP=>
  rw[hu] at hg eI
  cases YP with
  | int k=>
   refine qi (by simp[bD,hu]) ?_
   simp only[Cell.okWide,Cell.ok,hu] at eI
   cases v<;>first|rfl|(simp at eI;done)|exact eI.elim
  | bool=>
   refine qi (by simp[bD,hu]) ?_
   simp only[Cell.okWide,Cell.ok,hu] at eI
   cases v<;>first|rfl|(simp at eI;done)|exact eI.elim
  | string=>
   refine qi (by simp[bD,hu]) ?_
   simp only[Cell.okWide,Cell.ok,hu] at eI
   cases v<;>first|rfl|(simp at eI;done)|exact eI.elim
  | slice e=>
   refine qi (by simp[bD,hu]) ?_
   simp only[Cell.okWide,Cell.ok,hu] at eI
   cases v<;>first|rfl|(simp at eI;done)|exact eI.elim
  | struct fs=>exact DP (by simp[bD,hu])
  | array n e=>exact DP (by simp[bD,hu])
  | _=>cases hg
theorem O2 {base Iq:Nat} {spare:Nat→Bool} {held:Bool} {r:Reach} {β:Nat→Option Nat} {hp:Nat→Option an} (hL:zH P L=true): ∀{ts:List TypeId} {vs:List Value} {ds:List (DataW H)} {ps:List MemPlace},
  (∀t∈ts,t∈L)→(∀(j:Nat) t v,ts[j]? =some t→vs[j]? =some v→Value.okWide P w r Iq t v)→DataW.TrodAll enc P w base spare held ts vs ds ps→
  ∃xs,vs.length=xs.length∧(∀(j:Nat) v x,vs[j]? =some v→xs[j]? =some x→ao P w (mT w) β hp v x)∧pE P ts xs
 | [],vs,ds,ps,_,_,h=>by
  obtain ⟨rfl,rfl,rfl⟩:=trodAll_nil h
  exact ⟨[],rfl,by simp,trivial⟩
 | t::ts,vs,ds,ps,hm,eI,h=>by
  obtain ⟨v,Cv,d,O3,a,b,rfl,rfl,rfl,h1,U⟩:=trodAll_cons h
  obtain ⟨x,zz,oT⟩:=YO (β:=β) (hp:=hp) hL (hm t (by simp)) (eI 0 t v rfl rfl) h1
  obtain ⟨xs,hl,hr,hw⟩:=O2 (β:=β) (hp:=hp) hL (fun t ht=>hm t (by simp[ht])) (fun j t v a b=>eI (j+1) t v (by simpa using a) (by simpa using b)) U
  refine ⟨x::xs,by simp[hl],fun j v' x' hv hx=> ?_,oT,hw⟩
  cases j with
  | zero=>cases hv;cases hx;exact zz
  | succ j=>exact hr j v' x' (by simpa using hv) (by simpa using hx)
theorem O4 {base:Nat} {spare:Nat→Bool} {held:Bool}: ∀{ts:List TypeId} {vs:List Value} {ds:List (DataW H)} {ps:List MemPlace},DataW.TrodAll enc P w base spare held ts vs ds ps→ds.length=ts.length
 | [],vs,ds,ps,h=>by obtain ⟨rfl,rfl,rfl⟩:=trodAll_nil h;rfl
 | t::ts,vs,ds,ps,h=>by
  obtain ⟨v,Cv,d,O3,a,b,rfl,rfl,rfl,h1,U⟩:=trodAll_cons h
  simp[O4 U]
theorem O5 {base:Nat} (hl:laidOutB P=true) {W W':World} {O6:Nat→Bool}: ∀{ts:List TypeId} {vs:List Value} {ds:List (DataW H)} {ps:List MemPlace},(∀t∈ts,P.readableRec t=true∧t<P.types.size)→
  DataW.TrodAll enc P W base (fun _=>true) true ts vs ds ps→(∀p∈ps,W.sameAt W' p)→(∀p∈ps,O6 p.block=true)→DataW.TrodAll enc P W' base O6 true ts vs ds ps
 | [],vs,ds,ps,_,h,_,_=>by obtain ⟨rfl,rfl,rfl⟩:=trodAll_nil h;exact trodAll_mk0
 | t::ts,vs,ds,ps,hr,h,h1,U=>by
  obtain ⟨v,Cv,d,O3,a,b,rfl,rfl,rfl,h3,h4⟩:=trodAll_cons h
  obtain ⟨r1,r2⟩:=hr t (by simp)
  exact trodAll_cons_mk (WideElems.Trod_stays hl r1 r2 h3 (fun p hp=>h1 p (by simp[hp])) (fun p hp=>U p (by simp[hp])))
   (O5 hl (fun t ht=>hr t (by simp[ht])) h4 (fun p hp=>h1 p (by simp[hp])) (fun p hp=>U p (by simp[hp])))
theorem YQ {f:Func} {s:ChangeSpec} {apart fresh handsOn again:Bool} {W W':World} {args:Array Value} {v:Value} {ds gs:List (DataW H)} {before pa pv:List MemPlace}
  (hW:DataW.Whole enc P f.params.toList s.vars apart W args.toList ds gs before)
  (O7: ∀(b:Nat) (sp:Nat→Bool) (hd:Bool),DataW.TrodAll enc P W' b sp hd f.resultTypes.toList (v.resultList f.resultTypes.size) (s.fn H (ds++gs)).results [])
  (tH: ∀sp:Nat→Bool,(∀p∈before,sp p.block=true)→DataW.TrodAll enc P W' 0 sp true f.params.toList args.toList (s.fn H (ds++gs)).args pa)
  (O8: ∀sp:Nat→Bool,(∀p∈before,sp p.block=true)→DataW.TrodVars enc P W' sp s.vars (s.fn H (ds++gs)).vars pv)
  (DQ:before=pa++pv) (hk:W.keptBut W' (· ∈before)) (Ir: ∀a:Addr,a.block<W.heap.size→W'.frozen? a=W.frozen? a)
  (au: ∀(j:Nat) (t:TypeId) (r:Value),f.resultTypes[j]? =some t→(v.resultList f.resultTypes.size)[j]? =some r→Value.okWide P W' .any 0 t r):
  s.post enc P f apart fresh handsOn again W args v W':=by
 have hold: ∀p∈before,(fun b=>decide (b<W.heap.size)) p.block=true:=fun p hp=>by simpa using hW.lt p hp
 refine ⟨ds,gs,before,[],pa,pv,hW,O7 _ _ _,tH _ hold,O8 _ hold,World.keptBut_mono (fun p hp=>⟨hp,?_⟩) hk,fun _=> ?_⟩
 ·rw[DQ,eh] at hp
  exact Or.inr hp
 ·have aO:=hW.lt
  obtain ⟨_,_,_,_,_,hz,hn⟩:=hW
  refine ⟨au,_,_,([]++pa)++pv,⟨[]++pa,pv,trodAll_append (tH _ (fun _ _=>rfl)) (O7 _ _ _),O8 _ (fun _ _=>rfl),rfl,?_,?_⟩,?_⟩
  ·intro b off hp
   have hb:MemPlace.cell b off∈before:=by rw[DQ];simpa using hp
   rw[Ir ⟨b,off,none⟩ (aO _ hb)]
   exact hz b off hb
  ·intro ha
   have:=hn ha
   rw[DQ] at this
   simpa using this
  ·intro p hp _
   rw[DQ]
   simpa using hp
theorem YR {A:cA} (hP:iG P A) (mS:P.follows .mixedOrders=true) {f key:Nat} {fn:Func} {tb:TypeId} {s:ChangeSpec} {apart fresh handsOn again:Bool}
  (hf:P.funcs[f]? =some fn) (Is:A.aX key=f) (hL:zH P L=true) (b7:fn.params.toList.all (fun t=>hasB L t)=true) (DR:fn.resultTypes= #[tb]) (DS:P.underlying tb=some .bool) (DT:s.vars=[])
  (hs: ∀ds:List (DataW H),ds.length=fn.params.toList.length→s.fn H ds={results:=[.lit (.bool true)],args:=ds})
  (It:laidOutB P=true) (Iu:fn.params.toList.all (fun t=>P.readableRec t&&Nat.blt t P.types.size)=true)
  (lb:(A.sin key).a8=[]) (au:((A.sin key).bJ.map (·.2)).all (VS.ok 0)=true) (Iv:(A.fW key).bJ=[(0,.one .bool)]) (halt:A.alt key=none)
  {W:World} {base:Nat} {args:Array Value} {ds gs:List (DataW H)} {before:List MemPlace}
  (Iw:fR P A.aD W (mT W)) (eI: ∀(j:Nat) t v,fn.params[j]? =some t→args[j]? =some v→Value.okWide P W .any base t v)
  (hW:DataW.Whole enc P fn.params.toList s.vars apart W args.toList ds gs before) (Q:List V→Prop)
  (hQ: ∀xs:List V,pE P fn.params.toList xs→(∀(j:Nat) v x,args.toList[j]? =some v→xs[j]? =some x→ao P W (mT W) (fun _=>none) (fun _=>none) v x)→Q xs)
  (Ix: ∀xs,pE P fn.params.toList xs→Q xs→∃ds,pF ((A.sin key).bJ.map (·.2)) xs=some ds∧Call P A key ds=some [.bool true]):
  Calls P f args W fun e W'=> ∃v,e= .returned v∧s.post enc P fn apart fresh handsOn again W args v W':=by
 have O9:=hW
 obtain ⟨p,q,hA,hV,rfl,Ir,j4⟩:=hW
 rw[DT] at hV
 obtain ⟨Iy,hq⟩:gs=[]∧q=[]:=by
  cases gs with
  | nil=>exact ⟨rfl,hV⟩
  | cons g gs=>exact hV.elim
 subst Iy
 subst hq
 obtain ⟨xs,hl,hr,Pb⟩:=O2 (β:=fun _=>none) (hp:=fun _=>none) hL (fun t ht=>DN (e6.1 b7 t ht)) (fun j t v a b=>eI j t v (by simpa using a) (by simpa using b)) hA
 obtain ⟨ls,YS,zw⟩:=Ix xs Pb (hQ xs Pb hr)
 obtain ⟨fn',c,h1,U,h3⟩:=YI (A:=A) hP mS key ls [.bool true] zw
 rw[Is] at h1 h3
 rw[hf] at h1
 cases h1
 have we: ∀j,(bj (A.sin key) ls).hp j=none:=fun j=>by simp[bj,mk,lb,ej,jn]
 obtain ⟨_,r1,r2⟩:=zk (P:=P) (w:=W) (I:=mT W) (n:=0) (β:=fun _=>none) (β':=fun _=>none) (hp:=fun _=>none) (hp':=(bj (A.sin key) ls).hp) (fun j hj=>absurd hj (Nat.not_lt_zero j)) YS au
 have hlen:((A.sin key).bJ.map (·.2)).length=xs.length:=by rw[←r1 [],Ij]
 have h4:=h3 W (mT W) (fun _=>none) args.toList ⟨fun id blk h=>(by rw[we] at h;cases h),fun id aC blk blk' b h=>(by rw[we] at h;cases h),fun id blk b h=>(by rw[we] at h;cases h),fun b h=>h⟩ Iw
  (by rw[hl,←hlen,ba]) (fun j v y hv hy=>r2 [] j v y (fun x hx=>hr j v x hv hx) (by rw[dH];exact hy))
 have ea:args.toList.toArray=args:=by simp
 rw[ea] at h4
 refine h4.mono fun e W' ⟨v,I2,bP,he,ha⟩=>⟨v,he,?_⟩
 have tk: ∀b,b<W.heap.size→W'.heap[b]? =W.heap[b]? :=fun b hb=>ha.vW.b6 b hb (by rintro ⟨j,blk,hj,_⟩;rw[we] at hj;cases hj)
 have Hv:=ha.res
 have Pc:A.so key [.bool true]=A.fW key∧A.lv key [.bool true]=[.bool true]:=by unfold cA.so cA.lv;rw[halt];exact ⟨rfl,rfl⟩
 rw[Pc.1,Pc.2,Iv] at Hv
 obtain rfl:v= .bool true:=Hv.jW
 have lg:Value.okWide P W' .any 0 tb (.bool true):=by simp[Value.okWide,DS,Cell.okWide,Cell.ok]
 have kP:ds.length=fn.params.toList.length:=O4 hA
 have iF: ∀p'∈p++[],W.sameAt W' p':=by
  intro p' hp'
  have aO:=O9.lt p' hp'
  cases p' with
  | cell b o=>exact World.cell?_of_block (w:=W) (tk b aO)
  | map b=>exact tk b aO
 refine YQ (pa:=p) (pv:=[]) O9 ?_ ?_ ?_ rfl ?_ ?_ ?_
 ·intro b sp hd
  rw[dH,hs ds kP,DR]
  exact trodAll_mk1 ⟨1,by simp[DataW.trod,Value.cells,DS]⟩
 ·intro sp gH
  rw[dH,hs ds kP]
  refine O5 It (fun t ht=> ?_) hA (fun p' hp'=>iF p' (by simpa using hp')) (fun p' hp'=>gH p' (by simpa using hp'))
  have:=e6.1 Iu t ht
  simp only[aI] at this
  exact ⟨this.1,by simpa[jK] using this.2⟩
 ·intro sp gH
  rw[DT,dH,hs ds kP]
  exact rfl
 ·refine ⟨ha.vW.io.1,ha.vW.io.2,fun i hi=> ?_⟩
  rw[tk i hi]
  split<;>simp_all
 ·intro a aO
  exact World.frozen?_of_block (w:=W) (tk a.block aO)
 ·intro j t r hj Iz
  rw[DR] at hj Iz
  cases j with
  | zero=>
   simp[Value.resultList] at hj Iz
   subst hj
   subst Iz
   exact lg
  | succ j=>simp at hj
theorem Vm {A:cA} (hP:iG P A) (mS:P.follows .mixedOrders=true) {f key:Nat} {fn:Func} {tb:TypeId} {s:ChangeSpec} {apart fresh handsOn again:Bool}
  (hf:P.funcs[f]? =some fn) (Is:A.aX key=f) (hL:zH P L=true) (b7:fn.params.toList.all (fun t=>hasB L t)=true) (DR:fn.resultTypes= #[tb]) (DS:P.underlying tb=some .bool) (DT:s.vars=[])
  (hs: ∀ds:List (DataW H),ds.length=fn.params.toList.length→s.fn H ds={results:=[.lit (.bool true)],args:=ds})
  (It:laidOutB P=true) (Iu:fn.params.toList.all (fun t=>P.readableRec t&&Nat.blt t P.types.size)=true)
  (lb:(A.sin key).a8=[]) (au:((A.sin key).bJ.map (·.2)).all (VS.ok 0)=true) (Iv:(A.fW key).bJ=[(0,.one .bool)]) (halt:A.alt key=none)
  (Ix: ∀xs,pE P fn.params.toList xs→∃ds,pF ((A.sin key).bJ.map (·.2)) xs=some ds∧Call P A key ds=some [.bool true])
  {W:World} {base:Nat} {args:Array Value} {ds gs:List (DataW H)} {before:List MemPlace}
  (Iw:fR P A.aD W (mT W)) (eI: ∀(j:Nat) t v,fn.params[j]? =some t→args[j]? =some v→Value.okWide P W .any base t v)
  (hW:DataW.Whole enc P fn.params.toList s.vars apart W args.toList ds gs before):
  Calls P f args W fun e W'=> ∃v,e= .returned v∧s.post enc P fn apart fresh handsOn again W args v W':=
 YR hP mS hf Is hL b7 DR DS DT hs It Iu lb au Iv halt Iw eI hW (fun _=>True) (fun _ _ _=>trivial) fun xs h _=>Ix xs h
end
end Go.AM
namespace Go.AM
@[simp] theorem V.toInt_int (k:IntKind) (n:Int):V.toInt (.int k n)=n:=by cases k<;>rfl
@[simp] theorem V.dy (b:Bool):V.toBool (.bool b)=b:=by cases b<;>rfl
@[simp] theorem V.DU (s:List UInt8):V.toStr (.str s)=s:=by cases s<;>rfl
@[simp] theorem V.ln (e:TypeId) (es:List V):V.toList (.list e es)=es:=by cases es<;>rfl
@[simp] theorem V.ahr (e:TypeId) (es:List V):V.toList (.own e es)=es:=by cases es<;>rfl
@[simp] theorem V.YT (cs:List V) (j:Nat):V.cell (.agg cs) j=V.nth cs j:=by cases cs<;>rfl
@[simp] theorem V.ahs (cs:List V) (j:Nat):V.comp (.bc cs) j=V.nth cs j:=by cases cs<;>rfl
@[simp] theorem V.aR (x:V) (l:List V):V.nth (x::l) 0=x:=by cases l<;>rfl
@[simp] theorem V.qx (x:V) (l:List V) (n:Nat):V.nth (x::l) (n+1)=V.nth l n:=by cases l<;>rfl
@[simp] theorem V.aht (x y:V) (l:List V):V.nth (x::y::l) 1=y:=by cases l<;>rfl
@[simp] theorem V.ahu (x y z:V) (l:List V):V.nth (x::y::z::l) 2=z:=by cases l<;>rfl
@[simp] theorem V.ahv (x y z u:V) (l:List V):V.nth (x::y::z::u::l) 3=u:=by cases l<;>rfl
theorem wrap64 {x:Int} (h1: -9223372036854775808≤x) (U:x<9223372036854775808):IntKind.wrap .i64 x=x:=by
 rw[IntKind.wrap_i64];omega
theorem DV {x:Int} (h1:0≤x) (U:x<256):IntKind.wrap .u8 x=x:=by
 rw[IntKind.wrap_u8];omega
theorem YU {es:List V} {i:Int} {n:Nat} (h:i=n):idx es i=es[n]? :=by
 subst h;simp[idx]
@[simp] theorem Pd (es:List V) (n:Nat):idx es (n:Int)=es[n]? :=by simp[idx]
section
variable {X R:Type} {step:X→Option (X ⊕ R)}
theorem YV (s:Nat→X) (n:Nat) {r:R} (h: ∀i,i<n→step (s i)=some (.inl (s (i+1)))) (he:step (s n)=some (.inr r)):Loop step (s 0)=some r:=by
 induction n generalizing s with
 | zero=>exact bd he
 | succ n ih=>
  rw[bR (h 0 (by omega))]
  exact ih (fun i=>s (i+1)) (fun i hi=>h (i+1) (by omega)) he
end
@[simp] theorem aB {α:Type} (p:Prop) [Decidable p] (a b:α):(bif decide p then a else b)=if p then a else b:=by by_cases h:p<;>simp[h]
@[simp] theorem eL {α:Type} (m n:Int) (a b:α):(bif m==n then a else b)=if m=n then a else b:=by
 by_cases h:m=n
 ·simp[h]
 ·have:(m==n)=false:=by simp[h]
  rw[this,ai h];rfl
@[simp] theorem IA {α:Type} (m n:Int) (a b:α):(bif m != n then a else b)=if m=n then b else a:=by
 by_cases h:m=n
 ·simp[h]
 ·have:(m != n)=true:=by simp[h]
  rw[this,ai h];rfl
@[simp] theorem hX {α:Type} (c:Bool) (a b:α):(bif !c then a else b)=bif c then b else a:=by cases c<;>rfl
@[simp] theorem IB {α:Type} (m n:Nat) (a b:α):(bif Nat.ble m n then a else b)=if m≤n then a else b:=by
 cases hb:Nat.ble m n with
 | true=>rw[aj (Nat.le_of_ble_eq_true hb)];rfl
 | false=>
  rw[ai fun h=> ?_]
  ·rfl
  ·rw[Nat.ble_eq_true_of_le h] at hb;cases hb
@[simp] theorem dj {α:Type} (c d:Bool) (a b:α):(bif c&&d then a else b)=bif c then (bif d then a else b) else b:=by cases c<;>rfl
section
variable {P:Program}
def Pe (P : Program) : Bool := P.funcs.all fun fn => !(fn.name == "runtime.NumGoroutine")
theorem Vh (h:Pe P=true):xX P:=by
 intro f fn hf
 unfold Pe at h
 have:=(Array.all_eq_true_iff_forall_mem.1 h) fn (Array.mem_of_getElem? hf)
 simpa using this
theorem LQ {t:TypeId} {ts:List TypeId} {xs:List V} (h:pE P (t::ts) xs): ∃x ys,xs=x::ys∧jJ P t x∧pE P ts ys:=by
 cases xs with
 | nil=>exact h.elim
 | cons x ys=>exact ⟨x,ys,rfl,h.1,h.2⟩
theorem Vj {xs:List V} (h:pE P [] xs):xs=[]:=by
 cases xs with
 | nil=>rfl
 | cons x ys=>exact h.elim
theorem jJ.one {t:TypeId} {x:V} (ha:bD P t=false) (h:jJ P t x):WT P t x:=by
 have he:aS P t=[t]:=by simp[aS,ha]
 have:=h.2 0 t (by rw[he];rfl)
 simpa[bH,ha] using this
theorem WT.dJ {t:TypeId} {k:IntKind} {x:V} (hu:P.underlying t=some (.int k)) (h:WT P t x): ∃n,x= .int k n∧k.min≤n∧n≤k.max:=by
 cases h with
 | int h1 U=>
  rw[hu] at h1
  cases h1
  simp only[Lit.wf,aI,dF] at U
  exact ⟨_,rfl,U⟩
 | bool h1=>rw[hu] at h1;cases h1
 | str h1=>rw[hu] at h1;cases h1
 | list h1=>rw[hu] at h1;cases h1
theorem WT.jW {t:TypeId} {x:V} (hu:P.underlying t=some .bool) (h:WT P t x): ∃b,x= .bool b:=by
 cases h with
 | int h1=>rw[hu] at h1;cases h1
 | bool h1=>exact ⟨_,rfl⟩
 | str h1=>rw[hu] at h1;cases h1
 | list h1=>rw[hu] at h1;cases h1
theorem WT.lN {t:TypeId} {x:V} (hu:P.underlying t=some .string) (h:WT P t x): ∃s,x= .str s∧s.length≤maxLen:=by
 cases h with
 | int h1=>rw[hu] at h1;cases h1
 | bool h1=>rw[hu] at h1;cases h1
 | str h1 U=>exact ⟨_,rfl,U⟩
 | list h1=>rw[hu] at h1;cases h1
theorem WT.YW {t e:TypeId} {x:V} (hu:P.underlying t=some (.slice e)) (h:WT P t x): ∃es,x= .list e es∧es.length≤maxLen∧∀y∈es,jJ P e y:=by
 cases h with
 | int h1=>rw[hu] at h1;cases h1
 | bool h1=>rw[hu] at h1;cases h1
 | str h1=>rw[hu] at h1;cases h1
 | list h1 U h3 h4=>
  rw[hu] at h1
  cases h1
  refine ⟨_,rfl,U,fun y hy=> ?_⟩
  obtain ⟨i,hi⟩:=rj hy
  exact ⟨h3 i y hi,fun j t' hj=>h4 i j y t' hi hj⟩
theorem jJ.kB {t:TypeId} {x:V} (ha:bD P t=true) (h:jJ P t x): ∃xs,x= .agg xs∧xs.length=(aS P t).length∧∀(j:Nat) t' y,(aS P t)[j]? =some t'→xs[j]? =some y→WT P t' y:=by
 obtain ⟨xs,rfl,hl⟩:=h.1 ha
 refine ⟨xs,rfl,hl,fun j t' y hj hy=> ?_⟩
 have:=h.2 j t' hj
 simp only[bH,ha,cond_true,V.YT] at this
 rw[th _ _ _ hy] at this
 exact this
theorem Pf {α:Type} {f:α→V} {p:α→Prop}: ∀{es:List V},(∀y∈es,∃a,y=f a∧p a)→∃l:List α,es=l.map f∧∀a∈l,p a
 | [],_=>⟨[],rfl,by simp⟩
 | y::es,h=>by
  obtain ⟨a,rfl,ha⟩:=h y (by simp)
  obtain ⟨l,rfl,hl⟩:=Pf (f:=f) (p:=p) (es:=es) fun z hz=>h z (by simp[hz])
  exact ⟨a::l,rfl,by
   intro b hb
   rcases df.1 hb with rfl|hb
   ·exact ha
   ·exact hl b hb⟩
theorem jJ.int {t:TypeId} {x:V} (hu:P.underlying t=some (.int .i64)) (h:jJ P t x): ∃n,x= .int .i64 n∧IntKind.min .i64≤n∧n≤IntKind.max .i64:=
 (h.one (by simp[bD,hu])).dJ hu
theorem jJ.str {t:TypeId} {x:V} (hu:P.underlying t=some .string) (h:jJ P t x): ∃s,x= .str s∧s.length≤maxLen:=
 (h.one (by simp[bD,hu])).lN hu
end
def un.{u} {A B:Type} {γ:Sort u} (f:A→B→γ) (p:A × B):γ:=f p.1 p.2
def bX {A B γ:Type} (f:A→γ) (g:B→γ):A ⊕ B→γ
 | .inl a=>f a
 | .inr b=>g b
def aw:List Nat→Code→Code
 | [],c=>c
 | 0::p,.seq a _=>aw p a
 | _::p,.seq _ b=>aw p b
 | 0::p,.cond _ a _=>aw p a
 | _::p,.cond _ _ b=>aw p b
 | _::p,.block _ c=>aw p c
 | _::p,.loop c=>aw p c
 | _,c=>c
inductive cx where
 | loop (c:Code)
 | cond (t:Nat) (x y:Code)
section
variable (P:Program) (A:cA) (C:ag) (L:cB) (f n m:Nat)
def o7:Code→List cx
 | .seq a b=>o7 a++o7 b
 | .cond (.tmp t) x y=>
  match A.gS f (t*16+15) with
  | none=>o7 x++o7 y
  | some _=>[.cond t x y]
 | .cond (.const _) x y=>o7 x++o7 y
 | .block _ c=>o7 c
 | .loop c=>[.loop c]
 | _=>[]
def cy:cx→Prop
 | .loop c=>
  match A.gS f (keyOf c+1) with
  | none=>True
  | some S=> ∀(β:Type) ds (k:Nat→List V→Option β),L β (keyOf c+1) ds k=(Loop (stepG P A C f n m S c) ds).bind fun r=>k r.1 r.2
 | .cond t x y=>
  match A.gS f (t*16+15) with
  | none=>True
  | some S=> ∀(β:Type) ds (k:Nat→List V→Option β),L β (t*16+15) ds k=(yK P A C f n m t S x y ds).bind fun r=>k r.1 r.2
def mV:List cx→Prop
 | []=>True
 | b::l=>cy P A C L f n m b∧mV l
variable {P A C L f n m}
theorem mV.left {a b:List cx}:mV P A C L f n m (a++b)→mV P A C L f n m a:=by
 induction a with
 | nil=>exact fun _=>trivial
 | cons x a ih=>exact fun h=>⟨h.1,ih h.2⟩
theorem mV.right {a b:List cx}:mV P A C L f n m (a++b)→mV P A C L f n m b:=by
 induction a with
 | nil=>exact fun h=>h
 | cons x a ih=>exact fun h=>ih h.2
theorem bh: ∀{c:Code} {bs:List cx},o7 A f c=bs→mV P A C L f n m bs→gY P A C L f n m c:=by
 intro c
 induction c with
 | seq a b GI GJ=>
  intro bs h hb
  subst h
  exact ⟨GI rfl hb.left,GJ rfl hb.right⟩
 | cond c x y iq iu=>
  intro bs h hb
  subst h
  cases c with
  | tmp t=>
   simp only[o7] at hb
   simp only[gY]
   cases hs:A.gS f (t*16+15) with
   | none=>
    rw[hs] at hb
    exact ⟨iq rfl hb.left,iu rfl hb.right⟩
   | some S=>
    rw[hs] at hb
    have:=hb.1
    simp only[cy,hs] at this
    exact this
  | const v=>exact ⟨iq rfl hb.left,iu rfl hb.right⟩
  | _=>trivial
 | block id c ih=>
  intro bs h hb
  subst h
  exact ih rfl hb
 | loop c ih=>
  intro bs h hb
  subst h
  exact hb.1
 | _=>intro bs h hb;trivial
variable (P A C L f n m) in
noncomputable def IC {β:Type} (t:Nat) (S:Shape × List (Out × Shape)) (x y:Code) (ds:List V) (k:Nat→List V→Option β):Option β:=
 let kc:Out→St→Option β:=fun o st=>
  match o with
  | .norm=>(ways m 0 S.2 (.norm,canon m (A.join f t) st)).bind fun e=>k e.1 e.2
  | o=>(ways m 0 S.2 (o,st)).bind fun e=>k e.1 e.2
 match (bj S.1 ds).sl t with
 | .bool b=>bif b then gX P A C L f n m x (bj S.1 ds) kc else gX P A C L f n m y (bj S.1 ds) kc
 | _=>none
theorem YX {t:Nat} {x y:Code} {S:Shape × List (Out × Shape)} (hS:A.gS f (t*16+15)=some S) (hx:gY P A C L f n m x) (hy:gY P A C L f n m y) {I R:Type} (enc:I→List V) (l7:I→R→Nat × List V)
  (de:List V→I) (body:I→(β:Type)→(R→Option β)→Option β) (tO: ∀ds,bj S.1 (enc (de ds))=bj S.1 ds)
  (e1: ∀i (β:Type) (k:Nat→List V→Option β),IC P A C L f n m t S x y (enc i) k=body i β (fun r=>k (l7 i r).1 (l7 i r).2))
  (hl: ∀(β:Type) ds (k:Nat→List V→Option β),L β (t*16+15) ds k=body (de ds) β (fun r=>k (l7 (de ds) r).1 (l7 (de ds) r).2)):
  cy P A C L f n m (.cond t x y):=by
 simp only[cy,hS]
 intro β ds k
 rw[hl,←e1]
 unfold IC yK
 rw[tO]
 simp only
 have hk: ∀(z:Option (Out × St)),(z.bind fun r=>(match r.1 with
   | .norm=>(ways m 0 S.2 (.norm,canon m (A.join f t) r.2)).bind fun e=>k e.1 e.2
   | o=>(ways m 0 S.2 (o,r.2)).bind fun e=>k e.1 e.2))=((z.bind fun r=>
   match r.1 with
   | .norm=>some (Out.norm,canon m (A.join f t) r.2)
   | _=>some r).bind fun r=>ways m 0 S.2 r).bind fun r=>k r.1 r.2:=by
  intro z
  cases z with
  | none=>rfl
  | some r=>obtain ⟨o,st⟩:=r;cases o<;>rfl
 cases (bj S.1 ds).sl t with
 | bool b=>
  cases b with
  | true=>simp only[cond_true,Ct P A C f n m x hx];exact hk _
  | false=>simp only[cond_false,Ct P A C f n m y hy];exact hk _
 | _=>rfl
theorem bG {b:cx} {l:List cx} (h:cy P A C L f n m b) (U:mV P A C L f n m l):mV P A C L f n m (b::l):=⟨h,U⟩
theorem av:mV P A C L f n m []:=trivial
theorem aY {key:Nat} {bs:List cx} (hb:o7 A key (cL P (A.aX key))=bs) (ht:mV P A (Call P A) L key (cP P (A.aX key)) (A.sin key).a8.length bs) {ds:List V} {r:Option (List V)}
  (h:GK P A (Call P A) L key ds=r):Call P A key ds=r:=by
 rw[YL,Vs P A (Call P A) key (bh hb ht),h]
end
inductive LK where
 | int (k:IntKind)
 | bool
 | str
 | list (e:TypeId)
 | nat
def LK.Ty:LK→Type
 | .int _=>Int
 | .bool=>Bool
 | .str=>List UInt8
 | .list _=>List V
 | .nat=>Nat
def LK.enc:(k:LK)→k.Ty→V
 | .int k,n=> .int k n
 | .bool,b=> .bool b
 | .str,s=> .str s
 | .list e,l=> .list e l
 | .nat,n=>dO n
def LK.dec:(k:LK)→V→k.Ty
 | .int _,v=>v.toInt
 | .bool,v=>v.toBool
 | .str,v=>v.toStr
 | .list _,v=>v.toList
 | .nat,v=>kp v
theorem LK.Pg: ∀(k:LK) (x:k.Ty),k.dec (k.enc x)=x
 | .int _,_=>rfl
 | .bool,_=>rfl
 | .str,_=>rfl
 | .list _,_=>rfl
 | .nat,_=>rfl
def ID:List Nat→List LK
 | []=>[]
 | _::l=> .nat::ID l
def LS.ks:LS→List LK
 | .int k=>[.int k]
 | .bool=>[.bool]
 | .str=>[.str]
 | .list e=>[.list e]
 | .sub .. =>[.nat,.nat]
 | .ptr _=>[.nat,.nat]
 | .row _ _ cs=>ID cs
 | .cz _ cs _=> .nat::ID cs
 | _=>[]
def wg:List LS→List LK
 | []=>[]
 | l::ls=>l.ks++wg ls
def VS.ks:VS→List LK
 | .one l=>l.ks
 | .agg ls=>wg ls
 | .bc ls=>wg ls
 | .fn _ a b=>wg a++wg b
 | .pref _ ls=>wg ls
def Ph:List VS→List LK
 | []=>[]
 | l::ls=>l.ks++Ph ls
def BS.ks:BS→List LK
 | .var _ cs=>Ph cs
 | .arr e _=>[.list e]
 | .nest e=>[.list e]
 | .dead=>[]
 | .map t=>[.list t]
def Pj:List (Nat × VS)→List LK
 | []=>[]
 | p::l=>p.2.ks++Pj l
def Pk:List BS→List LK
 | []=>[]
 | b::l=>b.ks++Pk l
def Shape.ks (S:Shape):List LK:=Pj S.bJ++Pk S.a8
def IE:List Nat→List V→List V
 | [],_=>[]
 | _::cs,ds=>dO (kp (V.nth ds 0))::IE cs (ds.drop 1)
def LS.norm:LS→List V→List V
 | .int k,ds=>[.int k (V.nth ds 0).toInt]
 | .bool,ds=>[.bool (V.nth ds 0).toBool]
 | .str,ds=>[.str (V.nth ds 0).toStr]
 | .list e,ds=>[.list e (V.nth ds 0).toList]
 | .sub ..,ds=>[dO (kp (V.nth ds 0)),dO (kp (V.nth ds 1))]
 | .ptr _,ds=>[dO (kp (V.nth ds 0)),dO (kp (V.nth ds 1))]
 | .row _ _ cs,ds=>IE cs ds
 | .cz _ cs _,ds=>dO (kp (V.nth ds 0))::IE cs (ds.drop 1)
 | _,_=>[]
def wh:List LS→List V→List V
 | [],_=>[]
 | l::ls,ds=>l.norm ds++wh ls (ds.drop l.size)
def VS.norm:VS→List V→List V
 | .one l,ds=>l.norm ds
 | .agg ls,ds=>wh ls ds
 | .bc ls,ds=>wh ls ds
 | .fn _ a b,ds=>wh a ds++wh b (ds.drop (jQ a))
 | .pref _ ls,ds=>wh ls ds
def Pl:List VS→List V→List V
 | [],_=>[]
 | l::ls,ds=>l.norm ds++Pl ls (ds.drop l.size)
def BS.norm:BS→List V→List V
 | .var _ cs,ds=>Pl cs ds
 | .arr e _,ds=>[.list e (V.nth ds 0).toList]
 | .nest e,ds=>[.list e (V.nth ds 0).toList]
 | .dead,_=>[]
 | .map t,ds=>[.list t (V.nth ds 0).toList]
def Pm:List (Nat × VS)→List V→List V
 | [],_=>[]
 | p::l,ds=>p.2.norm ds++Pm l (ds.drop p.2.size)
def Pn:List BS→List V→List V
 | [],_=>[]
 | b::l,ds=>b.norm ds++Pn l (ds.drop b.size)
def Shape.norm (S:Shape) (ds:List V):List V:=Pm S.bJ ds++Pn S.a8 (ds.drop (nJ S.bJ))
def tP:LK→List LK→Type
 | k,[]=>k.Ty
 | k,k'::ks=>k.Ty × tP k' ks
def j5:List LK→Type
 | []=>Unit
 | k::ks=>tP k ks
def tQ:(k:LK)→(ks:List LK)→tP k ks→List V
 | k,[],x=>[k.enc x]
 | k,k'::ks,x=>k.enc x.1::tQ k' ks x.2
def kI:(ks:List LK)→j5 ks→List V
 | [],_=>[]
 | k::ks,x=>tQ k ks x
def zJ:(k:LK)→(ks:List LK)→List V→tP k ks
 | k,[],l=>k.dec (V.nth l 0)
 | k,k'::ks,l=>(k.dec (V.nth l 0),zJ k' ks l.tail)
def oc:(ks:List LK)→List V→j5 ks
 | [],_=>()
 | k::ks,l=>zJ k ks l
theorem Po: ∀(k:LK) (ks:List LK) (x:tP k ks) (r:List V),zJ k ks (tQ k ks x++r)=x
 | k,[],x,r=>LK.Pg k x
 | k,k'::ks,x,r=>by
  show (k.dec (k.enc x.1),zJ k' ks (tQ k' ks x.2++r))=x
  rw[LK.Pg,Po k' ks]
  rfl
def wi:List LK→Type 1→Type 1
 | [],R=>R
 | k::ks,R=>k.Ty→wi ks R
def Pp:(k:LK)→(ks:List LK)→{R:Type 1}→wi (k::ks) R→tP k ks→R
 | _,[],_,f,x=>f x
 | _,k'::ks,_,f,x=>Pp k' ks (f x.1) x.2
def tR:(ks:List LK)→{R:Type 1}→wi ks R→j5 ks→R
 | [],_,f,_=>f
 | k::ks,_,f,x=>Pp k ks f x
def wj {α:Type} (b:Bool):List Bool→List α→List α
 | [],_=>[]
 | _,[]=>[]
 | c::m,x::l=>bif c==b then x::wj b m l else wj b m l
def merge:List Bool→List V→List V→List V
 | [],_,_=>[]
 | true::m,i,x=>V.nth x 0::merge m i x.tail
 | false::m,i,x=>V.nth i 0::merge m i.tail x
def wk:List Nat→List LK→List LK
 | [],_=>[]
 | _,[]=>[]
 | 0::t,k::ks=>k::wk t ks
 | (_+1)::t,_::ks=>wk t ks
abbrev fe:=List Nat × List LK
def fe.fresh (w:fe):List LK:=wk w.1 w.2
def put:List Nat→List V→List V→List V
 | [],_,_=>[]
 | 0::t,ds,x=>V.nth x 0::put t ds x.tail
 | (j+1)::t,ds,x=>V.nth ds j::put t ds x
def tS:List Nat→List V→List V
 | [],_=>[]
 | 0::t,l=>V.nth l 0::tS t l.tail
 | (_+1)::t,l=>tS t l.tail
def rV:fe→List fe→Type
 | w,[]=>j5 w.fresh
 | w,w'::ws=>j5 w.fresh ⊕ rV w' ws
def qy:List fe→Type
 | []=>Empty
 | w::ws=>rV w ws
def wN (ds:List V) {β:Type} (k:Nat→List V→Option β):Nat→(w:fe)→(ws:List fe)→rV w ws→Option β
 | j,w,[],r=>k j (put w.1 ds (kI w.fresh r))
 | j,w,w'::ws,r=>bX (fun x=>k j (put w.1 ds (kI w.fresh x))) (fun y=>wN ds k (j+1) w' ws y) r
def wT (ds:List V) {β:Type} (k:Nat→List V→Option β):(ws:List fe)→qy ws→Option β
 | [],r=>Empty.elim r
 | w::ws,r=>wN ds k 0 w ws r
def od (ds:List V):Nat→(w:fe)→(ws:List fe)→rV w ws→Nat × List V
 | j,w,[],r=>(j,put w.1 ds (kI w.fresh r))
 | j,w,_::_,.inl x=>(j,put w.1 ds (kI w.fresh x))
 | j,_,w'::ws,.inr y=>od ds (j+1) w' ws y
def wm (ds:List V):(ws:List fe)→qy ws→Nat × List V
 | [],r=>Empty.elim r
 | w::ws,r=>od ds 0 w ws r
theorem Pq (ds:List V) {β:Type} (k:Nat→List V→Option β): ∀(j:Nat) (w:fe) (ws:List fe) (r:rV w ws),wN ds k j w ws r=k (od ds j w ws r).1 (od ds j w ws r).2
 | _,_,[],_=>rfl
 | _,_,_::_,.inl _=>rfl
 | j,_,w'::ws,.inr y=>Pq ds k (j+1) w' ws y
theorem DW (ds:List V) {β:Type} (k:Nat→List V→Option β): ∀(ws:List fe) (r:qy ws),wT ds k ws r=k (wm ds ws r).1 (wm ds ws r).2
 | [],r=>Empty.elim r
 | w::ws,r=>Pq ds k 0 w ws r
def wo:Nat→(w:fe)→(ws:List fe)→List V→rV w ws
 | _,w,[],l=>oc w.fresh (tS w.1 l)
 | 0,w,_::_,l=> .inl (oc w.fresh (tS w.1 l))
 | j+1,_,w'::ws,l=> .inr (wo j w' ws l)
def Pr (j:Nat):(ws:List fe)→List V→Option (qy ws)
 | [],_=>none
 | w::ws,l=>some (wo j w ws l)
def wq:List Nat→List V→List V
 | [],_=>[]
 | 0::t,x=>V.nth x 0::wq t x.tail
 | (_+1)::t,x=>wq t x
theorem IF: ∀(t:List Nat) (ds x:List V),tS t (put t ds x)=wq t x
 | [],_,_=>rfl
 | 0::t,ds,x=>congrArg (V.nth x 0:: ·) (IF t ds x.tail)
 | (_+1)::t,ds,x=>IF t ds x
theorem IG: ∀(t:List Nat) (ks:List LK) (k:LK) (ch:List LK),wk t ks=k::ch→∀x:tP k ch,∃r,wq t (tQ k ch x)=tQ k ch x++r
 | [],_,_,_,h,_=>by cases h
 | _::_,[],_,_,h,_=>by simp[wk] at h
 | 0::t,a::ks,k,ch,h,x=>by
  simp only[wk,List.cons.injEq] at h
  obtain ⟨rfl,U⟩:=h
  cases ch with
  | nil=>exact ⟨wq t [],rfl⟩
  | cons k' ch=>
   obtain ⟨r,hr⟩:=IG t ks k' ch U x.2
   exact ⟨r,congrArg (a.enc x.1:: ·) hr⟩
 | (_+1)::t,a::ks,k,ch,h,x=>IG t ks k ch h x
theorem Ps (w:fe) (ds:List V) (x:j5 w.fresh):oc w.fresh (tS w.1 (put w.1 ds (kI w.fresh x)))=x:=by
 rw[IF]
 revert x
 generalize hf:w.fresh=f
 cases f with
 | nil=>intro x;rfl
 | cons k ks=>
  intro x
  obtain ⟨r,hr⟩:=IG w.1 w.2 k ks hf x
  show zJ k ks (wq w.1 (tQ k ks x))=x
  rw[hr]
  exact Po k ks x r
theorem Pt (ds:List V): ∀(j:Nat) (w:fe) (ws:List fe) (r:rV w ws),j≤(od ds j w ws r).1
 | _,_,[],_=>cf _
 | _,_,_::_,.inl _=>cf _
 | j,_,w'::ws,.inr y=>lE (Nat.le_succ j) (Pt ds (j+1) w' ws y)
theorem YY (w:fe) (l:List V): ∀j,wo j w [] l=oc w.fresh (tS w.1 l)
 | 0=>rfl
 | _+1=>rfl
theorem Pu (ds:List V): ∀(j:Nat) (w:fe) (ws:List fe) (r:rV w ws),wo ((od ds j w ws r).1-j) w ws (od ds j w ws r).2=r
 | j,w,[],r=>(YY w _ _).trans (Ps w ds r)
 | j,w,w'::ws,.inl x=>by
  show wo (j-j) w (w'::ws) (put w.1 ds (kI w.fresh x))= .inl x
  rw[Nat.sub_self]
  exact congrArg Sum.inl (Ps w ds x)
 | j,w,w'::ws,.inr y=>by
  have h1:=Pt ds (j+1) w' ws y
  have U:=Pu ds (j+1) w' ws y
  show wo ((od ds (j+1) w' ws y).1-j) w (w'::ws) (od ds (j+1) w' ws y).2= .inr y
  obtain ⟨d,hd⟩: ∃d,(od ds (j+1) w' ws y).1=j+1+d:=⟨(od ds (j+1) w' ws y).1-(j+1),by omega⟩
  rw[hd] at U⊢
  rw[show j+1+d-(j+1)=d by omega] at U
  rw[show j+1+d-j=d+1 by omega]
  exact congrArg Sum.inr U
theorem YZ (ds:List V): ∀(ws:List fe) (r:qy ws),Pr (wm ds ws r).1 ws (wm ds ws r).2=some r
 | [],r=>Empty.elim r
 | w::ws,r=>congrArg some (Pu ds 0 w ws r)
section
variable {P:Program} {A:cA} {C:ag} {L:cB} {f n m:Nat}
theorem Y0 {c:Code} {S:Shape × List (Out × Shape)} (hS:A.gS f (keyOf c+1)=some S) (hL:gY P A C L f n m c) {I X R:Type} (enc:I→X→List V) (l7:I→R→Nat × List V)
  (o8:List V→I) (qz:List V→X) (DX:Nat × List V→Option R) (body:I→X→(β:Type)→(X→Option β)→(R→Option β)→Option β)
  (tO: ∀ds,bj S.1 (enc (o8 ds) (qz ds))=bj S.1 ds) (IH: ∀i x,qz (enc i x)=x) (Y1: ∀i r,DX (l7 i r)=some r)
  (e1: ∀i x (β:Type) (k:(List V ⊕ (Nat × List V))→Option β),gX P A C L f n m c (bj S.1 (enc i x)) (fun o st=>(mF m S.1 S.2 (some (o,st))).bind k)=
   body i x β (fun y=>k (.inl (enc i y))) (fun r=>k (.inr (l7 i r))))
  (hl: ∀(β:Type) ds (k:Nat→List V→Option β),L β (keyOf c+1) ds k=(Loop (fun x=>body (o8 ds) x (X ⊕ R) (fun y=>some (.inl y)) (fun r=>some (.inr r))) (qz ds)).bind fun r=>k (l7 (o8 ds) r).1 (l7 (o8 ds) r).2):
  cy P A C L f n m (.loop c):=by
 simp only[cy,hS]
 intro β ds k
 rw[hl]
 have hex: ∀(z:Option (Out × St)),mF m S.1 S.2 z=z.bind fun r=>mF m S.1 S.2 (some (r.1,r.2)):=by
  intro z;cases z<;>rfl
 have hs: ∀i x,stepG P A C f n m S c (enc i x)=(body i x (X ⊕ R) (fun y=>some (.inl y)) (fun r=>some (.inr r))).map fun| .inl y=> .inl (enc i y)| .inr r=> .inr (l7 i r):=by
  intro i x
  have k1:=e1 i x _ (fun z=>some z)
  have k2:=e1 i x (X ⊕ R) (fun| .inl ds=>some (.inl (qz ds))| .inr e=>(DX e).map .inr)
  have k3:=e1 i x (List V ⊕ (Nat × List V)) (fun| .inl ds=>some (.inl (enc i (qz ds)))| .inr e=>(DX e).map fun r=> .inr (l7 i r))
  simp only[IH,Y1,Option.map_some] at k2 k3
  unfold stepG
  rw[hex]
  rw[Ct P A C f n m c hL] at k1 k2 k3
  rw[←k2]
  refine aW ?_ (k1.trans (k3.symm.trans ?_))
  ·congr 1
   funext r
   cases mF m S.1 S.2 (some (r.1,r.2))<;>rfl
  ·cases exec P A C f n m c (bj S.1 (enc i x)) with
   | none=>rfl
   | some r=>
    simp only[Option.bind_some]
    cases mF m S.1 S.2 (some (r.1,r.2)) with
    | none=>rfl
    | some z=>
     cases z with
     | inl _=>rfl
     | inr e=>simp only[Option.bind_some];cases DX e<;>rfl
 have h0:stepG P A C f n m S c ds=stepG P A C f n m S c (enc (o8 ds) (qz ds)):=by
  unfold stepG
  rw[tO]
 have:Loop (stepG P A C f n m S c) ds=(Loop (fun x=>body (o8 ds) x (X ⊕ R) (fun y=>some (.inl y)) (fun r=>some (.inr r))) (qz ds)).map (l7 (o8 ds)):=by
  rw[B4,h0,←B4]
  exact Vq (enc (o8 ds)) (l7 (o8 ds)) (fun x=>hs _ _) (qz ds)
 rw[this]
 cases Loop (fun x=>body (o8 ds) x (X ⊕ R) (fun y=>some (.inl y)) (fun r=>some (.inr r))) (qz ds)<;>rfl
abbrev zK (S:Shape) (mk:List Bool):List LK:=wj false mk S.ks
abbrev tT (S:Shape) (mk:List Bool):List LK:=wj true mk S.ks
def qA (ts:List (List Nat)) (W:List (Out × Shape)):List fe:=
 match ts,W with
 | t::ts,w::W=>(t,w.2.ks)::qA ts W
 | _,_=>[]
abbrev zL (S:Shape) (mk:List Bool) (i:j5 (zK S mk)) (x:j5 (tT S mk)):List V:=merge mk (kI _ i) (kI _ x)
abbrev II (S:Shape) (mk:List Bool) (i:j5 (zK S mk)):List V:=merge mk (kI _ i) []
abbrev DY (S:Shape) (mk:List Bool) (ds:List V):j5 (zK S mk):=oc _ (wj false mk (S.norm ds))
abbrev DZ (S:Shape) (mk:List Bool) (ds:List V):j5 (tT S mk):=oc _ (wj true mk (S.norm ds))
abbrev Pv (X R:Type):Type 1:=(β:Type)→(X→Option β)→(R→Option β)→Option β
abbrev IJ (S:Shape × List (Out × Shape)) (mk:List Bool) (ts:List (List Nat)):Type 1:=wi (zK S.1 mk) (wi (tT S.1 mk) (Pv (j5 (tT S.1 mk)) (qy (qA ts S.2))))
abbrev IK (S:Shape × List (Out × Shape)) (mk:List Bool) (ts:List (List Nat)) (b:IJ S mk ts) (i:j5 (zK S.1 mk)) (x:j5 (tT S.1 mk)):Pv (j5 (tT S.1 mk)) (qy (qA ts S.2)):=tR _ (tR _ b i) x
noncomputable def cj (S:Shape × List (Out × Shape)) (mk:List Bool) (ts:List (List Nat)) (b:IJ S mk ts) {β:Type} (ds:List V) (k:Nat→List V→Option β):Option β:=
 (Loop (fun x=>IK S mk ts b (DY S.1 mk ds) x (j5 (tT S.1 mk) ⊕ qy (qA ts S.2)) (fun y=>some (.inl y)) (fun r=>some (.inr r))) (DZ S.1 mk ds)).bind (wT (II S.1 mk (DY S.1 mk ds)) k (qA ts S.2))
theorem cr {c:Code} (S:Shape × List (Out × Shape)) (mk:List Bool) (ts:List (List Nat)) (b:IJ S mk ts) (hS:A.gS f (keyOf c+1)=some S) (hL:gY P A C L f n m c)
  (tO: ∀ds,bj S.1 (zL S.1 mk (DY S.1 mk ds) (DZ S.1 mk ds))=bj S.1 ds) (IH: ∀i x,DZ S.1 mk (zL S.1 mk i x)=x)
  (e1: ∀i x (β:Type) (k:(List V ⊕ (Nat × List V))→Option β),gX P A C L f n m c (bj S.1 (zL S.1 mk i x)) (fun o st=>(mF m S.1 S.2 (some (o,st))).bind k)=
   IK S mk ts b i x β (fun y=>k (.inl (zL S.1 mk i y))) (wT (II S.1 mk i) (fun j l=>k (.inr (j,l))) (qA ts S.2)))
  (hl: ∀(β:Type) ds (k:Nat→List V→Option β),L β (keyOf c+1) ds k=cj S mk ts b ds k):
  cy P A C L f n m (.loop c):=
 Y0 hS hL (zL S.1 mk) (fun i r=>wm (II S.1 mk i) _ r) (DY S.1 mk) (DZ S.1 mk) (fun e=>Pr e.1 _ e.2) (IK S mk ts b) tO IH (fun i r=>YZ _ _ r)
  (fun i x β k=>by
   rw[e1]
   congr 1
   funext r
   exact DW _ _ _ r)
  (fun β ds k=>by
   rw[hl]
   unfold cj
   congr 1
   funext r
   exact DW _ _ _ r)
abbrev Pw (S:Shape × List (Out × Shape)) (ts:List (List Nat)):Type 1:=wi S.1.ks ((β:Type)→(qy (qA ts S.2)→Option β)→Option β)
noncomputable def iJ (S:Shape × List (Out × Shape)) (ts:List (List Nat)) (b:Pw S ts) {β:Type} (ds:List V) (k:Nat→List V→Option β):Option β:=
 tR S.1.ks b (oc _ (S.1.norm ds)) β (wT (kI S.1.ks (oc _ (S.1.norm ds))) k (qA ts S.2))
theorem jb {t:Nat} {x y:Code} (S:Shape × List (Out × Shape)) (ts:List (List Nat)) (b:Pw S ts) (hS:A.gS f (t*16+15)=some S) (hx:gY P A C L f n m x) (hy:gY P A C L f n m y)
  (tO: ∀ds,bj S.1 (kI S.1.ks (oc _ (S.1.norm ds)))=bj S.1 ds)
  (e1: ∀i (β:Type) (k:Nat→List V→Option β),IC P A C L f n m t S x y (kI S.1.ks i) k=tR S.1.ks b i β (wT (kI S.1.ks i) k (qA ts S.2)))
  (hl: ∀(β:Type) ds (k:Nat→List V→Option β),L β (t*16+15) ds k=iJ S ts b ds k):
  cy P A C L f n m (.cond t x y):=
 YX hS hx hy (kI S.1.ks) (fun i r=>wm (kI S.1.ks i) _ r) (fun ds=>oc _ (S.1.norm ds)) (tR S.1.ks b) tO
  (fun i β k=>by
   rw[e1]
   exact congrArg (tR S.1.ks b i β) (funext fun r=>DW _ _ _ r))
  (fun β ds k=>by
   rw[hl]
   exact congrArg (tR S.1.ks b (oc _ (S.1.norm ds)) β) (funext fun r=>DW _ _ _ r))
end
def cb:cB:=fun _ _ _ _=>none
end Go.AM
