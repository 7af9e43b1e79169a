/-
  Functions of the program, lifted to plain data.
-/
import Derived.Conc.MuLone
import Derived.Defers
import Derived.Carry
import Derived.OpenShut
import Derived.Deep.Slices
import Derived.Test.YtppefogdkedaiaaP2
set_option linter.unusedVariables false
set_option linter.unusedSimpArgs false
namespace Go.AM
section
variable {P:Program} {A:cB} {w w':World} {I I' I2:Nat→Prop} {μ β β' bQ:Nat→Option Nat} {hp hp' hp0 bp:Nat→Option an} {C:ag} {B:Nat} {M:Nat→Prop} {w0:Start}
structure kI (w:World) (I:Nat→Prop) (β:Nat→Option Nat) (hp:Nat→Option an) (w':World) (I':Nat→Prop) (β':Nat→Option Nat) (hp':Nat→Option an):Prop where
 c9: ∀b,I b→I' b
 b8: ∀b,I b→w'.heap[b]? =w.heap[b]?
 blk: ∀id blk,hp id=some blk→∃blk',hp' id=some blk'∧blk.le blk'∧(blk'≠ .dead→β' id=β id)
 size: ∀id blk blk' b,hp id=some blk→hp' id=some blk'→blk'≠ .dead→β id=some b→bsize w' b=bsize w b
theorem Le.DB (h:Le P w I β hp w' I' β' hp'):kI w I β hp w' I' β' hp':=⟨h.c9,h.b8,h.blk,h.size⟩
theorem kI.trans {yX:World} {yY:Nat→Prop} {yZ:Nat→Option Nat} {y4:Nat→Option an} (h1:kI w I β hp w' I' β' hp') (U:kI w' I' β' hp' yX yY yZ y4):kI w I β hp yX yY yZ y4:=by
 refine ⟨fun b h=>U.c9 b (h1.c9 b h),fun b h=>(U.b8 b (h1.c9 b h)).trans (h1.b8 b h),fun id blk h=> ?_,fun id blk td b h rK hd hb=> ?_⟩
 ·obtain ⟨blk',e',l',b'⟩:=h1.blk id blk h
  obtain ⟨td,dt,p9,GW⟩:=U.blk id blk' e'
  refine ⟨td,dt,an.le_trans l' p9,fun hd=> ?_⟩
  have eo:blk'≠ .dead:=fun e=>hd (an.oX (e▸p9))
  exact (GW hd).trans (b' eo)
 ·obtain ⟨blk',e',l',b'⟩:=h1.blk id blk h
  obtain ⟨gE,e3,l3,b3⟩:=U.blk id blk' e'
  obtain rfl:gE=td:=by rw[e3] at rK;exact cY rK
  have eo:blk'≠ .dead:=fun e=>hd (an.oX (e▸l3))
  rw[U.size id blk' gE b e' e3 hd ((b' eo).trans hb),h1.size id blk blk' b h e' eo hb]
def ou (P:Program) (w:World) (μ:Nat→Option Nat) (hp0:Nat→Option an) (b:Nat):Prop:= ∃j blk,hp0 j=some blk∧bt P w (μ j) blk b
structure XJ (P:Program) (A:cB) (key:Nat) (w:World) (I:Nat→Prop) (μ:Nat→Option Nat) (ds es:List V) (w':World) (v:Value) (I2:Nat→Prop) (bQ:Nat→Option Nat):Prop where
 wa:aE P w' I2 bQ (bn (A.so key es) (A.lv key es)).hp w.heap.size (ou P w μ (bn (A.sin key) ds).hp) ⟨w,I⟩
 le:kI w I μ (bn (A.sin key) ds).hp w' I2 bQ (bn (A.so key es) (A.lv key es)).hp
 res:ao P w' I2 bQ (bn (A.so key es) (A.lv key es)).hp v (oV (eX (A.so key es).bK (A.lv key es)))
def kJ (P:Program) (A:cB) (C:ag):Prop:=
 ∀key ds es,C key ds=some es→∃fn c,P.funcs[A.aV key]? =some fn∧fn.body=some c∧
  ∀(w:World) (I:Nat→Prop) (μ:Nat→Option Nat) (vals:List Value),
   tc P w I μ (bn (A.sin key) ds).hp w.heap.size (ou P w μ (bn (A.sin key) ds).hp)→fZ P A.aD w I→
   vals.length=(A.sin key).bK.length→(∀(j:Nat) v x,vals[j]? =some v→(ff ((A.sin key).bK.map (·.2)) ds)[j]? =some x→ao P w I μ (bn (A.sin key) ds).hp v x)→
   Calls P (A.aV key) vals.toArray w fun e w'=> ∃v I2 bQ,e= .returned v∧XJ P A key w I μ ds es w' v I2 bQ
theorem dN.tK {p:Place} {o:Option Nat} {blk:an} {b:Nat} (h:dN P w β hp p o blk) (ho:bt P w o blk b):
  ∃qv,hp p.id=some qv∧bt P w (β p.id) qv b∧∀e es,qv≠ .arr e es true:=by
 cases h with
 | var h=>exact ⟨_,h,.root (by simp) (ho.flat (by simp)),by simp⟩
 | arr h=>exact ⟨_,h,.root (by simp) (ho.flat (by simp)),by simp⟩
 | map h=>exact ⟨_,h,.root (by simp) (ho.flat (by simp)),by simp⟩
 | nest h=>
  refine ⟨_,h,?_,by simp⟩
  cases ho with
  | root _ hb=>exact .root (by simp) hb
  | row hb ha=>exact .row hb ha
 | row h hb ha _ _ _ _ _=>
  have:=ho.flat (by simp)
  cases this
  exact ⟨_,h,.row hb ha,by simp⟩
theorem aE.XK (S:aE P w I β hp B M w0) {id b:Nat} {blk:an} (ab:hp id=some blk) (ho:bt P w (β id) blk b) (hf: ∀e es,blk≠ .arr e es true): ¬I b:=by
 have hr:=S.h.rel id blk ab
 generalize β id=o at hr ho
 cases hr with
 | var hb _ _ hI _ _=>have:=ho.flat (by simp);rw[hb] at this;cases this;exact hI
 | dx hb=>have:=ho.flat (by simp);rw[hb] at this;cases this
 | @arr e es fz _ _ _ hb _ _ _ dU _=>
  have:=ho.flat (by simp)
  rw[hb] at this;cases this
  cases fz with
  | true=>exact absurd rfl (hf e es)
  | false=>exact dU rfl
 | dead=>exact absurd rfl ho.alive
 | map _ hb _ _ hI _ _=>have:=ho.flat (by simp);rw[hb] at this;cases this;exact hI
 | nest hb hr _=>
  cases ho with
  | root _ az=>rw[hb] at az;cases az;exact (hr _ _ _ _ .here).nI
  | row az ha=>rw[hb] at az;cases az;exact (hr _ _ _ _ ha).nI
theorem DC {a b:List Nat} (h:vl a b=false) {x:Nat} (ha:x∈a):x∉b:=by
 intro hb
 unfold vl at h
 rw[List.any_eq_false] at h
 exact h x ha (vO hb)
theorem XL (S:aE P w I β hp B M w0) {pl:List Place} {upd:List (Nat × an)} {o:Nat→Option Nat} (j7:(pl.map Place.id).Nodup) (DD:vl (upd.map (·.1)) (pl.map Place.id)=false)
  (hl: ∀j blk,hp0 j=some blk→∃p,dR pl j=some p∧dN P w β hp p (o j) blk)
  (cC:(∀j blk,hp0 j=some blk→∀b,bt P w (o j) blk b→¬iA P w I β hp upd b)→∀j blk,hp0 j=some blk→dK P w (iA P w I β hp upd) o hp0 (o j) blk) (aP: ∀b,iA P w I β hp upd b→b<w.heap.size):
  tc P w (iA P w I β hp upd) o hp0 w.heap.size (ou P w o hp0):=by
 have cK: ∀j blk,hp0 j=some blk→∀b,bt P w (o j) blk b→¬iA P w I β hp upd b:=by
  intro j blk hj b ho hI
  obtain ⟨p,bp,gF⟩:=hl j blk hj
  obtain ⟨qv,k1,k2,k3⟩:=gF.tK ho
  rcases hI with hI|⟨q,hq,bP,q1,q2⟩
  ·exact S.XK k1 k2 k3 hI
  ·have:=S.h.inj _ _ _ _ b q1 k1 q2 k2
   refine DC DD (gz.2 ⟨q,hq,rfl⟩) ?_
   rw[this]
   rw[lr] at bp
   exact gz.2 ⟨p,jq bp,rfl⟩
 refine ⟨cC cK,fun j1 j2 b1 b2 b h1 U o1 o2=> ?_,fun j blk b h1 o1=> .inl ⟨j,blk,h1,o1⟩,aP⟩
 obtain ⟨p1,q1,q2⟩:=hl j1 b1 h1
 obtain ⟨p2,r1,r2⟩:=hl j2 b2 U
 obtain ⟨c1,x1,x2,_⟩:=q2.tK o1
 obtain ⟨c2,y1,y2,_⟩:=r2.tK o2
 have ab:=S.h.inj _ _ _ _ b x1 y1 x2 y2
 rw[lr] at q1 r1
 have m1:(pl.map Place.id)[j1]? =some p1.id:=by rw[fO,q1];rfl
 have m2:(pl.map Place.id)[j2]? =some p2.id:=by rw[fO,r1];rfl
 rw[←ab] at m2
 obtain ⟨z1,z2⟩:=br.1 m1
 obtain ⟨z3,z4⟩:=br.1 m2
 exact (List.getElem_inj j7).1 (z2.trans z4.symm)
def NI:V→Prop
 | .list .. =>False
 | .pref .. =>False
 | .agg _=>False
 | .bd _=>False
 | .fn .. =>False
 | _=>True
theorem ao.free {v:Value} {x:V} (h:ao P w I β hp v x) (hx:NI x):ao P w I' β hp v x:=by
 cases h with
 | undef=>exact .undef
 | int=>exact .int
 | bool=>exact .bool
 | str h=>exact .str h
 | list h=>exact hx.elim
 | nilS=>exact .nilS
 | agg=>exact hx.elim
 | bd=>exact hx.elim
 | c8=>exact .c8
 | fn=>exact hx.elim
 | pref=>exact hx.elim
 | dS h=>exact .dS h
 | fQ h=>exact .fQ h
 | jW h=>exact .jW h
 | dw h hb=>exact .dw h hb
 | whole h hb a b c=>exact .whole h hb a b c
 | eb h hb a b c=>exact .eb h hb a b c
 | fA h hb=>exact .fA h hb
 | sub h hb a b c=>exact .sub h hb a b c
 | ptr h hd hb=>exact .ptr h hd hb
 | jt h qp=>exact .jt h qp
 | ju h qp=>exact .ju h qp
 | row h hb a b c d=>exact .row h hb a b c d
 | cA h hb a b c d e=>exact .cA h hb a b c d e
 | dk=>exact .dk
 | g9 h=>exact .g9 h
 | cp h hb=>exact .cp h hb
theorem zC {l:LS} {ds:List V} (hs:l.safe=true):NI (iq l ds):=by
 cases l<;>simp only[LS.safe] at hs<;>first|(cases hs;done)|trivial
theorem zD: ∀{ls:List LS} {ds:List V} {j:Nat} {y:V},(gU ls ds)[j]? =some y→∃l e7,l∈ls∧y=iq l e7
 | [],ds,j,y,h=>by simp[gU] at h
 | l::ls,ds,j,y,h=>by
  simp only[gU] at h
  cases j with
  | zero=>simp at h;exact ⟨l,ds,ru ..,h.symm⟩
  | succ j=>
   obtain ⟨l',e7,h1,U⟩:=zD (j:=j) (by simpa using h)
   exact ⟨l',e7,kX _ h1,U⟩
theorem NJ: ∀{ls:List VS} {ds:List V} {j:Nat} {y:V},(ff ls ds)[j]? =some y→∃l e7,l∈ls∧y=kA l e7
 | [],ds,j,y,h=>by simp[ff] at h
 | l::ls,ds,j,y,h=>by
  simp only[ff] at h
  cases j with
  | zero=>simp at h;exact ⟨l,ds,ru ..,h.symm⟩
  | succ j=>
   obtain ⟨l',e7,h1,U⟩:=NJ (j:=j) (by simpa using h)
   exact ⟨l',e7,kX _ h1,U⟩
theorem NK {s:VS} {ds:List V} {v:Value} (h:ao P w I β hp v (kA s ds)) (hs:s.safe=true):ao P w I' β hp v (kA s ds):=by
 cases s with
 | one l=>exact h.free (zC hs)
 | agg ls=>
  simp only[kA] at h⊢
  obtain ⟨cs,rfl,e1,e2⟩:=h.kE
  refine .agg e1 fun j v x hj hx=> ?_
  obtain ⟨l,e7,k1,rfl⟩:=zD hx
  exact (e2 j v _ hj hx).free (zC (fc.1 hs l k1))
 | bd ls=>
  simp only[kA] at h⊢
  obtain ⟨cs,rfl,e1,e2⟩:=h.tm
  refine .bd e1 fun j v x hj hx=> ?_
  obtain ⟨l,e7,k1,rfl⟩:=zD hx
  exact (e2 j v _ hj hx).free (zC (fc.1 hs l k1))
 | fn f a b=>
  simp only[VS.safe,aK] at hs
  simp only[kA] at h⊢
  cases h with
  | fn a1 a2 b1 b2=>
   refine .fn a1 (fun j v x hj hx=> ?_) b1 (fun j v x hj hx=> ?_)
   ·obtain ⟨l,e7,k1,rfl⟩:=zD hx
    exact (a2 j v _ hj hx).free (zC (fc.1 hs.1 l k1))
   ·obtain ⟨l,e7,k1,rfl⟩:=zD hx
    exact (b2 j v _ hj hx).free (zC (fc.1 hs.2 l k1))
 | pref ts ls=>cases hs
theorem Pure.scalar {t:TypeId} {v:Value} {x:V} (h:Pure P w I t v x) (hn: ∀e,P.underlying t≠some (.slice e)):Pure P w I' t v x:=by
 cases h with
 | int h=>exact .int h
 | bool h=>exact .bool h
 | str h hl=>exact .str h hl
 | nil h=>exact absurd h (hn _)
 | emp h=>exact absurd h (hn _)
 | list g h=>exact absurd h (hn _)
theorem XM {e t:TypeId} {j:Nat} (h:yJ P e=true) (ht:(aS P e)[j]? =some t) (e':TypeId):P.underlying t≠some (.slice e'):=by
 intro hu
 have U:=fc.1 h t (jq ht)
 rw[hu] at U
 cases U
theorem XN {o:Option Nat} {b:BS} {ds:List V} (h:dK P w I2 β hp o (fw b ds)) (hs:b.safe P=true) (hi: ∀b,I b→I2 b):dK P w I β hp o (fw b ds):=by
 cases b with
 | dead=>exact .dead
 | var T0 ls=>
  simp only[fw] at h⊢
  cases h with
  | var hb hh aU hI hx fS=>
   refine .var hb hh aU (fun h=>hI (hi _ h)) (fun j v x hj cu=> ?_) fS
   obtain ⟨l,e7,k1,rfl⟩:=NJ cu
   exact NK (hx j v _ hj cu) (fc.1 hs l k1)
 | arr e fz=>
  simp only[BS.safe,aK,lO] at hs
  obtain ⟨rfl,zB⟩:=hs
  simp only[fw] at h⊢
  generalize (V.nth ds 0).toList=es at h⊢
  cases h with
  | dx hb=>exact .dx hb
  | arr a1 a2 a3 a4 a5 a6 a7=>
   refine .arr a1 a2 a3 a4 (fun h=>by cases h) (fun _ h=>a6 rfl (hi _ h)) fun i j x t' y1 y2 y3=> ?_
   obtain ⟨v,z1,z2⟩:=a7 i j x t' y1 y2 y3
   exact ⟨v,z1,z2.scalar (XM zB y2)⟩
 | nest e=>
  simp only[fw] at h⊢
  generalize (V.nth ds 0).toList=es at h⊢
  cases h with
  | nest hb cD og=>
   refine .nest hb (fun q b' e1 m1 hq=> ?_) og
   obtain ⟨ok,⟨Ca,c1,c2,c3⟩,nI⟩:=cD q b' e1 m1 hq
   refine ⟨ok,⟨Ca,c1,c2,fun i j x t' y1 y2 y3=> ?_⟩,fun h=>nI (hi _ h)⟩
   obtain ⟨v,z1,z2⟩:=c3 i j x t' y1 y2 y3
   refine ⟨v,z1,?_⟩
   generalize bH P e1 x j=y at z2⊢
   cases z2 with
   | fy a p=>
    refine .fy a (p.scalar fun e hu=> ?_)
    unfold fv at a
    rw[hu] at a
    cases a
   | emp a b=>exact .emp a b
   | row a b c d e=>exact .row a b c d e
 | map t=>
  simp only[fw] at h⊢
  cases h with
  | map a1 a2 a3 a4 a5 a6 a7=>exact .map a1 a2 a3 a4 (fun h=>a5 (hi _ h)) a6 a7
theorem H5: ∀{l:List BS} {ds:List V} {j:Nat} {y:an},(ek l ds)[j]? =some y→∃b e7,l[j]? =some b∧y=fw b e7
 | [],ds,j,y,h=>by simp[ek] at h
 | b::l,ds,j,y,h=>by
  simp only[ek] at h
  cases j with
  | zero=>simp at h;exact ⟨b,ds,rfl,h.symm⟩
  | succ j=>
   obtain ⟨b',e7,h1,U⟩:=H5 (j:=j) (by simpa using h)
   exact ⟨b',e7,by simpa using h1,U⟩
theorem NL: ∀{l:List (Nat × VS)} {ds:List V} {q:Nat × V},q∈eX l ds→∃s e7,(q.1,s)∈l∧q.2=kA s e7
 | [],ds,q,h=>by simp[eX] at h
 | (k,s)::l,ds,q,h=>by
  simp only[eX,dg] at h
  rcases h with h|h
  ·subst h;exact ⟨s,ds,ru ..,rfl⟩
  ·obtain ⟨s',e7,h1,U⟩:=NL h
   exact ⟨s',e7,kX _ h1,U⟩
theorem XO {S:Shape} {es:List V} (hs:S.safe P=true) (hi: ∀b,I b→I2 b) {N:Nat→Prop} {st:Start} (h:aE P w' I2 bQ (bn S es).hp B N st) (h0: ∀b,I b→st.I b):
  aE P w' I bQ (bn S es).hp B N st∧∀v,ao P w' I2 bQ (bn S es).hp v (oV (eX S.bK es))→ao P w' I bQ (bn S es).hp v (oV (eX S.bK es)):=by
 unfold Shape.safe at hs
 simp only[aK] at hs
 obtain ⟨iz,nc⟩:=hs
 have one: ∀q∈eX S.bK es,∀v,ao P w' I2 bQ (bn S es).hp v q.2→ao P w' I bQ (bn S es).hp v q.2:=by
  intro q hq v hv
  obtain ⟨s,e7,k1,k2⟩:=NL hq
  rw[k2] at hv⊢
  exact NK hv (fc.1 iz _ k1)
 refine ⟨⟨⟨fun j blk hj=> ?_,h.h.inj,h.h.own,fun b hb=>h.h.jv b (hi b hb)⟩,h.b8,h.size,fun b hb=> .inl (h0 b hb),h.io⟩,fun v hv=> ?_⟩
 ·have hr:=h.h.rel j blk hj
  have gj:=hj
  simp only[bn,mk,gM] at gj
  obtain ⟨b,e7,k1,rfl⟩:=H5 gj
  exact XN hr (fc.1 nc _ (jq k1)) hi
 ·generalize eX S.bK es=l at one hv⊢
  match l,one,hv with
  | [],_,hv=>
   simp only[oV,gA] at hv⊢
   obtain ⟨cs,rfl,e1,e2⟩:=hv.tm
   exact .bd e1 fun j v x _ hx=>by simp at hx
  | [q],one,hv=>exact one q (dX.2 rfl) v hv
  | q::q2::l,one,hv=>
   simp only[oV] at hv⊢
   obtain ⟨cs,rfl,e1,e2⟩:=hv.tm
   refine .bd e1 fun j v x hj hx=> ?_
   obtain ⟨y,hy,rfl⟩:=gz.1 (jq hx)
   exact one y hy v (e2 j v _ hj hx)
end
section
variable {P:Program} {A:cB} {w w':World} {I I' I2:Nat→Prop} {μ β β' bQ:Nat→Option Nat} {hp hp' hp0 bp:Nat→Option an} {C:ag} {B:Nat} {M:Nat→Prop} {w0:Start}
inductive fW (σ:List Place):an→an→Prop
 | dead:fW σ .dead .dead
 | var {T:TypeId} {cs:List V}:fW σ (.var T cs) (.var T (cs.map (Cz σ)))
 | arr {e:TypeId} {es:List V} {fz:Bool}:fW σ (.arr e es fz) (.arr e es fz)
 | nest {e:TypeId} {es:List V} {v1 v2:List Nat}:fW σ (.nest e es v1) (.nest e es v2)
 | map {t:TypeId} {es:List V}:fW σ (.map t es) (.map t es)
theorem fW.of (σ:List Place) (b:an):fW σ b (s4 σ b):=by
 cases b with
 | dead=>exact .dead
 | var T cs=>exact .var
 | arr e es fz=>exact .arr
 | nest e es v=>exact .nest
 | map t es=>exact .map
theorem NM {σ:List Place}: ∀{pl:List Place} {bs:List an} {acc:List (Nat × an)} {k:List (Nat × an)→Rd R} {r:R} {rd:List Nat},(pW σ pl bs acc k).run C hp=some (r,rd)→
  pl.length≤bs.length∧∃bk eJ,(k bk).run C hp=some (r,eJ)∧(∀q∈bk,q∈acc∨∃(j:Nat) (b:an),pl[j]? =some (.blk q.1)∧bs[j]? =some b∧fW σ b q.2∧((∃e es v2,q.2= .nest e es v2)→∃e es aq e' aH,hp q.1=some (.nest e es aq)∧q.2= .nest e' aH (aq.map (· +1))))∧
   (∀q∈acc,q∈bk)∧∀(j:Nat) p,pl[j]? =some p→∃id b,p= .blk id∧(id,b)∈bk
 | [],bs,acc,k,r,rd,h=>⟨ko _,acc,rd,by simpa only[pW] using h,fun q hq=> .inl hq,fun q hq=>hq,fun j p hp=>by simp at hp⟩
 | .row _ _ _::pl,bs,acc,k,r,rd,h=>by
  cases bs<;>(simp only[pW] at h;cases h)
 | .blk id::pl,[],acc,k,r,rd,h=>by simp only[pW] at h;cases h
 | .blk id::pl,b::bs,acc,k,r,rd,h=>by
  have fin: ∀{b2:an} {jd:List Nat},(pW σ pl bs ((id,b2)::acc) k).run C hp=some (r,jd)→fW σ b b2→((∃e es v2,b2= .nest e es v2)→∃e es aq e' aH,hp id=some (.nest e es aq)∧b2= .nest e' aH (aq.map (· +1)))→
    (Place.blk id::pl).length≤(b::bs).length∧∃bk eJ,(k bk).run C hp=some (r,eJ)∧(∀q∈bk,q∈acc∨∃(j:Nat) (b':an),(Place.blk id::pl)[j]? =some (.blk q.1)∧(b::bs)[j]? =some b'∧fW σ b' q.2∧((∃e es v2,q.2= .nest e es v2)→∃e es aq e' aH,hp q.1=some (.nest e es aq)∧q.2= .nest e' aH (aq.map (· +1))))∧
     (∀q∈acc,q∈bk)∧∀(j:Nat) p,(Place.blk id::pl)[j]? =some p→∃id b,p= .blk id∧(id,b)∈bk:=by
   intro b2 jd h1 hb hn
   obtain ⟨a0,bk,eJ,a1,a2,a3,a4⟩:=NM h1
   refine ⟨by simp only[List.length_cons];omega,bk,eJ,a1,fun q hq=> ?_,fun q hq=>a3 q (kX _ hq),fun j p hj=> ?_⟩
   ·rcases a2 q hq with h|⟨j,b',k1,k2,k3,k4⟩
    ·rcases dg.1 h with e|h
     ·subst e;exact .inr ⟨0,b,rfl,rfl,hb,hn⟩
     ·exact .inl h
    ·exact .inr ⟨j+1,b',by simpa using k1,by simpa using k2,k3,k4⟩
   ·cases j with
    | zero=>simp at hj;subst hj;exact ⟨id,b2,rfl,a3 _ (ru ..)⟩
    | succ j=>exact a4 j p (by simpa using hj)
  cases b with
  | nest e es v=>
   simp only[pW] at h
   obtain ⟨l,h⟩:=run_get h
   cases ab:hp id with
   | none=>rw[ab] at h;cases h
   | some blk=>
    rw[ab] at h
    cases blk with
    | nest e0 GX aq=>exact fin h .nest fun _=>⟨e0,GX,aq,e,es,ab,rfl⟩
    | _=>cases h
  | dead=>exact fin h (.of σ _) fun ⟨_,_,_,h⟩=>by cases h
  | var T cs=>exact fin h (.of σ _) fun ⟨_,_,_,h⟩=>by cases h
  | arr e es fz=>exact fin h (.of σ _) fun ⟨_,_,_,h⟩=>by cases h
  | map t es=>exact fin h (.of σ _) fun ⟨_,_,_,h⟩=>by cases h
theorem NN {σ:List Place}: ∀{bs:List an} {n:Nat} {q:Nat × an},q∈pX σ n bs→∃i b,bs[i]? =some b∧q=(n+i,s4 σ b)
 | [],n,q,h=>by simp[pX] at h
 | b::bs,n,q,h=>by
  simp only[pX,dg] at h
  rcases h with h|h
  ·exact ⟨0,b,rfl,h⟩
  ·obtain ⟨i,b',h1,U⟩:=NN h
   exact ⟨i+1,b',by simpa using h1,by rw[U];congr 1;omega⟩
theorem NO {σ:List Place}: ∀{bs:List an} {n i:Nat} {b:an},bs[i]? =some b→(n+i,s4 σ b)∈pX σ n bs
 | [],n,i,b,h=>by simp at h
 | b0::bs,n,i,b,h=>by
  simp only[pX,dg]
  cases i with
  | zero=>simp at h;subst h;exact .inl rfl
  | succ i=>exact .inr (by rw[show n+(i+1)=n+1+i by omega];exact NO (by simpa using h))
theorem DE: ∀{k n i:Nat},i<k→(rI n k)[i]? =some (.blk (n+i))
 | 0,n,i,h=>by omega
 | k+1,n,0,h=>rfl
 | k+1,n,i+1,h=>by
  simp only[rI,List.getElem?_cons_succ]
  rw[DE (by omega)]
  congr 2
  omega
theorem H6: ∀{k n:Nat},(rI n k).length=k
 | 0,_=>rfl
 | k+1,n=>by simp[rI,H6]
theorem NP: ∀{bs:List (Nat × an)} {k:Rd R} {r:R} {rd:List Nat},(CA bs k).run C hp=some (r,rd)→(∀q∈bs,hp q.1=none)∧∃eJ,k.run C hp=some (r,eJ)
 | [],k,r,rd,h=>⟨by simp,rd,h⟩
 | (id,b)::l,k,r,rd,h=>by
  simp only[CA] at h
  obtain ⟨l1,h⟩:=run_get h
  cases ab:hp id with
  | some blk=>rw[ab] at h;cases h
  | none=>
   rw[ab] at h
   obtain ⟨h1,U⟩:=NP h
   refine ⟨fun q hq=> ?_,U⟩
   rcases dg.1 hq with e|hq
   ·subst e;exact ab
   ·exact h1 q hq
structure pc (σ:List Place) (bQ:Nat→Option Nat) (bp:Nat→Option an) (β':Nat→Option Nat) (hp':Nat→Option an):Prop where
 blk: ∀j b,bp j=some b→∃id b',dR σ j=some (.blk id)∧hp' id=some b'∧fW σ b b'∧(b≠ .dead→β' id=bQ j)
 none: ∀j,bp j=none→dR σ j=none
 aht: ∀j id ver path,dR σ j≠some (.row id ver path)
theorem pc.leaf {σ:List Place} (T:pc σ bQ bp β' hp') {v:Value} {x:V} (h:ao P w I bQ bp v x):ao P w I β' hp' v (jU σ x):=by
 have look: ∀{j b},bp j=some b→∃id b',dR σ j=some (.blk id)∧hp' id=some b'∧fW σ b b'∧(b≠ .dead→β' id=bQ j):=fun h=>T.blk _ _ h
 cases h with
 | undef=>exact .undef
 | int=>exact .int
 | bool=>exact .bool
 | str h=>exact .str h
 | list h=>exact .list h
 | nilS=>exact .nilS
 | agg=>exact .undef
 | bd=>exact .undef
 | c8=>exact .c8
 | fn=>exact .undef
 | pref a b c=>exact .pref a b c
 | @dS _ e j h=>
  obtain ⟨id,b',k1,k2,k3,k4⟩:=look h
  simp only[jU,k1]
  cases k3
  exact .dS k2
 | @fQ _ e j _ _ h=>
  obtain ⟨id,b',k1,k2,k3,k4⟩:=look h
  simp only[jU,k1]
  cases k3
  exact .fQ k2
 | @jW _ j _ _ h=>
  obtain ⟨id,b',k1,k2,k3,k4⟩:=look h
  simp only[jU,k1]
  cases k3
  exact .jW k2
 | @dw e j fz _ h hb=>
  obtain ⟨id,b',k1,k2,k3,k4⟩:=look h
  simp only[jU,k1]
  cases k3
  exact .dw k2 ((k4 (by simp)).trans hb)
 | @whole e j es fz b cap h hb a1 a2 a3=>
  obtain ⟨id,b',k1,k2,k3,k4⟩:=look h
  simp only[jU,k1]
  cases k3
  exact .whole k2 ((k4 (by simp)).trans hb) a1 a2 a3
 | @eb e j es aq b cap h hb a1 a2 a3=>
  obtain ⟨id,b',k1,k2,k3,k4⟩:=look h
  simp only[jU,k1]
  cases k3
  exact .eb k2 ((k4 (by simp)).trans hb) a1 a2 a3
 | @fA e j fz _ h hb=>
  obtain ⟨id,b',k1,k2,k3,k4⟩:=look h
  simp only[jU,k1]
  cases k3
  exact .fA k2 ((k4 (by simp)).trans hb)
 | @sub e j off len es fz b o cap h hb a1 a2 a3=>
  obtain ⟨id,b',k1,k2,k3,k4⟩:=look h
  simp only[jU,k1]
  cases k3
  exact .sub k2 ((k4 (by simp)).trans hb) a1 a2 a3
 | @ptr j i c b blk h hd hb=>
  obtain ⟨id,b',k1,k2,k3,k4⟩:=look h
  simp only[jU,k1]
  have hs:blk.sz P=b'.sz P:=by cases k3<;>rfl
  rw[hs]
  exact .ptr k2 (by intro e;subst e;cases k3;exact hd rfl) ((k4 hd).trans hb)
 | jt=>exact .undef
 | ju=>exact .undef
 | row=>exact .undef
 | cA=>exact .undef
 | dk=>exact .dk
 | @g9 _ t j h=>
  obtain ⟨id,b',k1,k2,k3,k4⟩:=look h
  simp only[jU,k1]
  cases k3
  exact .g9 k2
 | @cp t j b es h hb=>
  obtain ⟨id,b',k1,k2,k3,k4⟩:=look h
  simp only[jU,k1]
  cases k3
  exact .cp k2 ((k4 (by simp)).trans hb)
theorem pc.one {σ:List Place} (T:pc σ bQ bp β' hp') {v:Value} {x:V} (h:ao P w I bQ bp v x):ao P w I β' hp' v (GL σ x):=by
 cases x with
 | agg xs=>
  obtain ⟨cs,rfl,e1,e2⟩:=h.kE
  exact .agg (by simpa using e1) fun j v y hj hy=>by
   rw[fO] at hy
   cases hx:xs[j]? with
   | none=>rw[hx] at hy;cases hy
   | some x=>rw[hx] at hy;cases hy;exact T.leaf (e2 j v x hj hx)
 | fn f a b=>
  cases h with
  | fn a1 a2 b1 b2=>
   refine .fn (by simpa using a1) (fun j v y hj hy=> ?_) (by simpa using b1) (fun j v y hj hy=> ?_)
   ·rw[fO] at hy
    cases hx:a[j]? with
    | none=>rw[hx] at hy;cases hy
    | some x=>rw[hx] at hy;cases hy;exact T.leaf (a2 j v x hj hx)
   ·rw[fO] at hy
    cases hx:b[j]? with
    | none=>rw[hx] at hy;cases hy
    | some x=>rw[hx] at hy;cases hy;exact T.leaf (b2 j v x hj hx)
 | _=>exact T.leaf h
theorem pc.val {σ:List Place} (T:pc σ bQ bp β' hp') {v:Value} {x:V} (h:ao P w I bQ bp v x):ao P w I β' hp' v (Cz σ x):=by
 cases x with
 | bd xs=>
  obtain ⟨cs,rfl,e1,e2⟩:=h.tm
  exact .bd (by simpa using e1) fun j v y hj hy=>by
   rw[fO] at hy
   cases hx:xs[j]? with
   | none=>rw[hx] at hy;cases hy
   | some x=>rw[hx] at hy;cases hy;exact T.one (e2 j v x hj hx)
 | _=>exact T.one h
theorem pc.NQ {σ:List Place} (T:pc σ bQ bp β' hp') {o:Option Nat} {b b':an} (h:dK P w I bQ bp o b) (hb:fW σ b b'):dK P w I β' hp' o b':=by
 cases hb with
 | dead=>exact .dead
 | var=>
  cases h with
  | var a1 a2 a3 a4 a5 a6=>
   refine .var a1 a2 (by simpa using a3) a4 (fun j v y hj hy=> ?_) a6
   rw[fO] at hy
   cases hx:(_:List V)[j]? with
   | none=>rw[hx] at hy;cases hy
   | some x=>rw[hx] at hy;cases hy;exact T.val (a5 j v x hj hx)
 | arr=>
  cases h with
  | dx hb=>exact .dx hb
  | arr a1 a2 a3 a4 a5 a6 a7=>exact .arr a1 a2 a3 a4 a5 a6 a7
 | nest=>
  cases h with
  | nest a1 a2 a3=>exact .nest a1 a2 a3
 | map=>
  cases h with
  | map a1 a2 a3 a4 a5 a6 a7=>exact .map a1 a2 a3 a4 a5 a6 a7
theorem fW.tK {σ:List Place} {o:Option Nat} {b b':an} (h:fW σ b b') {m:Nat} (ho:bt P w o b' m):bt P w o b m:=by
 cases h with
 | dead=>exact absurd rfl ho.alive
 | var=>exact .root (by simp) (ho.flat (by simp))
 | arr=>exact .root (by simp) (ho.flat (by simp))
 | map=>exact .root (by simp) (ho.flat (by simp))
 | nest=>
  cases ho with
  | root _ hb=>exact .root (by simp) hb
  | row hb ha=>exact .row hb ha
theorem fW.NR {σ:List Place} {b b':an} (h:fW σ b b'):b'≠ .dead→b≠ .dead:=by
 intro h1 U;subst U;cases h;exact h1 rfl
end
section
variable {P:Program} {A:cB} {w w':World} {I I' I2:Nat→Prop} {μ β β' bQ:Nat→Option Nat} {hp hp' hp0 bp:Nat→Option an} {C:ag} {B:Nat} {M:Nat→Prop} {w0:Start}
theorem NS: ∀{vs:List Nat} {k:Nat},k<vs.length→bA (vs.map (· +1)) k=bA vs k+1
 | [],k,h=>by simp at h
 | v::vs,0,h=>rfl
 | v::vs,k+1,h=>by simp only[cQ,bA];exact NS (by simpa using h)
theorem NT: ∀{vs:List Nat} {k:Nat},bA vs k≤bA (vs.map (· +1)) k
 | [],k=>by simp[bA]
 | v::vs,0=>by simp[bA]
 | v::vs,k+1=>by simp only[cQ,bA];exact NT
def zF (hp:Nat→Option an) (q:Nat × an):Prop:=(∃e es v2,q.2= .nest e es v2)→∃e es aq e' aH,hp q.1=some (.nest e es aq)∧q.2= .nest e' aH (aq.map (· +1))
theorem dN.H7 {id:Nat} {o:Option Nat} {blk:an} (h:dN P w β hp (.blk id) o blk):o=β id∧∃b0,hp id=some b0∧b0≠ .dead:=by
 cases h with
 | var h=>exact ⟨rfl,_,h,by simp⟩
 | arr h=>exact ⟨rfl,_,h,by simp⟩
 | nest h=>exact ⟨rfl,_,h,by simp⟩
 | map h=>exact ⟨rfl,_,h,by simp⟩
theorem dN.XP {id:Nat} {o:Option Nat} {c b b' b0:an} {σ:List Place} (h:dN P w β hp (.blk id) o c) (h0:hp id=some b0) (hle:c.le b) (hb:fW σ b b') (hn:zF hp (id,b')):b0.le b':=by
 cases h with
 | var h=>
  rw[h] at h0;cases h0
  cases hb with
  | dead=>trivial
  | var=>trivial
  | arr=>exact hle.elim
  | nest=>exact hle.elim
  | map=>exact hle.elim
 | arr h=>
  rw[h] at h0;cases h0
  cases hb with
  | dead=>trivial
  | var=>exact hle.elim
  | arr=>exact hle
  | nest=>exact hle.elim
  | map=>exact hle.elim
 | map h=>
  rw[h] at h0;cases h0
  cases hb with
  | dead=>trivial
  | map=>exact hle
  | _=>exact hle.elim
 | nest h=>
  rw[h] at h0;cases h0
  cases hb with
  | dead=>trivial
  | var=>exact hle.elim
  | arr=>exact hle
  | map=>exact hle.elim
  | @nest e es v1 v2=>
   obtain ⟨e1,cj,tL,e2,bW,k1,k2⟩:=hn ⟨_,_,_,rfl⟩
   cases k2
   change hp id=_ at k1
   rw[h] at k1;cases k1
   exact ⟨hle.1,hle.2.1,by simp,fun k=>NT⟩
theorem dN.other {p:Place} {o:Option Nat} {blk:an} (h:dN P w β hp p o blk) (he:hp' p.id=hp p.id):dN P w β hp' p o blk:=by
 cases h with
 | var h=>exact .var (he.trans h)
 | arr h=>exact .arr (he.trans h)
 | nest h=>exact .nest (he.trans h)
 | map h=>exact .map (he.trans h)
 | row h a b c d e f g=>exact .row (he.trans h) a b c d e f g
open Classical in
theorem NU (S:aE P w I β hp B M w0) {pl:List Place} {o:Nat→Option Nat} {bs:List an} {nb:Nat} {bk fr:List (Nat × an)} {σ:List Place} (qw:σ=pl++rI nb (bs.length-pl.length)) (zG:fr=pX σ nb (bs.drop pl.length))
  (j7:(pl.map Place.id).Nodup) (qf:pl.length≤bs.length)
  (pd: ∀(j:Nat) p,pl[j]? =some p→∃id b,p= .blk id∧(id,b)∈bk) (DF: ∀q∈bk,∃(j:Nat) (b:an),pl[j]? =some (.blk q.1)∧bs[j]? =some b∧fW σ b q.2∧zF hp q)
  (hl: ∀j blk,hp0 j=some blk→∃p,dR pl j=some p∧dN P w β hp p (o j) blk) (hd: ∀j,j<pl.length→∃blk,hp0 j=some blk)
  (Sc:aE P w' I2 bQ (jr bs) w.heap.size (ou P w o hp0) ⟨w,I⟩) (wc:kI w I o hp0 w' I2 bQ (jr bs)) (rY: ∀q∈fr,hp q.1=none):
  ∃β',Le P w I β hp w' I2 β' (bG hp (fr++bk))∧aE P w' I2 β' (bG hp (fr++bk)) B M w0∧pc σ bQ (jr bs) β' (bG hp (fr++bk)):=by
 generalize H8:bG hp (fr++bk)=gF
 let β':Nat→Option Nat:=fun n=>if∃q∈fr,q.1=n then bQ (pl.length+(n-nb)) else β n
 have NV: ∀(j:Nat) id,pl[j]? =some (.blk id)→∃c,hp0 j=some c∧dN P w β hp (.blk id) (o j) c:=by
  intro j id hj
  obtain ⟨c,hc⟩:=hd j (br.1 hj).1
  obtain ⟨p,h1,U⟩:=hl j c hc
  rw[lr,hj] at h1
  cases h1
  exact ⟨c,hc,U⟩
 have uniq: ∀(j1 j2:Nat) id,pl[j1]? =some (.blk id)→pl[j2]? =some (.blk id)→j1=j2:=by
  intro j1 j2 id h1 U
  have m1:(pl.map Place.id)[j1]? =some id:=by rw[fO,h1];rfl
  have m2:(pl.map Place.id)[j2]? =some id:=by rw[fO,U];rfl
  obtain ⟨z1,z2⟩:=br.1 m1
  obtain ⟨z3,z4⟩:=br.1 m2
  exact (List.getElem_inj j7).1 (z2.trans z4.symm)
 have cls: ∀id,(∃i b,id=nb+i∧bs[pl.length+i]? =some b∧gF id=some (s4 σ b)∧hp id=none∧β' id=bQ (pl.length+i))∨
   (∃(j:Nat) (b b' c b0:an),pl[j]? =some (.blk id)∧bs[j]? =some b∧hp0 j=some c∧dN P w β hp (.blk id) (o j) c∧hp id=some b0∧b0.le b'∧gF id=some b'∧fW σ b b'∧zF hp (id,b')∧β' id=β id∧c.le b∧(b≠ .dead→bQ j=β id))∨
   (gF id=hp id∧(∀j:Nat,pl[j]? ≠some (.blk id))∧β' id=β id):=by
  intro id
  by_cases hm: ∃b,(id,b)∈fr++bk
  ·obtain ⟨b,hm⟩:=hm
   obtain ⟨b',CO,he⟩:=CL (hp:=hp) hm
   rw[H8] at he
   rcases ei.1 CO with h|h
   ·have h0:=rY _ h
    have ov:β' id=bQ (pl.length+(id-nb)):=aj ⟨_,h,rfl⟩
    rw[zG] at h
    obtain ⟨i,b1,k1,k2⟩:=NN h
    rw[gR] at k1
    cases k2
    exact .inl ⟨i,b1,rfl,k1,he,h0,by rw[ov];congr 2;omega⟩
   ·obtain ⟨j,b1,q1,q2,q3,q4⟩:=DF _ h
    obtain ⟨c,c1,c2⟩:=NV j id q1
    obtain ⟨c3,b0,c4,c5⟩:=c2.H7
    obtain ⟨b2,d1,d2,d3⟩:=wc.blk j c c1
    rw[gM,q2] at d1
    cases d1
    refine .inr (.inl ⟨j,b1,b',c,b0,q1,q2,c1,c2,c4,c2.XP c4 d2 q3 q4,he,q3,q4,ah ?_,d2,fun h=>(d3 h).trans c3⟩)
    rintro ⟨q,hq,XQ⟩
    rw[←XQ,rY q hq] at c4
    cases c4
  ·refine .inr (.inr ⟨?_,fun j hj=> ?_,ah ?_⟩)
   ·rcases ti (hp:=hp) (l:=fr++bk) (id:=id) with h|⟨b,hb,_⟩
    ·rw[H8] at h;exact h
    ·exact absurd ⟨b,hb⟩ hm
   ·obtain ⟨aC,b,e,hb⟩:=pd j _ hj
    cases e
    exact hm ⟨b,ei.2 (.inr hb)⟩
   ·rintro ⟨q,hq,rfl⟩
    exact hm ⟨q.2,ei.2 (.inl hq)⟩
 have NW: ∀b,ou P w o hp0 b→∃(j id:Nat) (b1:an),pl[j]? =some (.blk id)∧hp id=some b1∧bt P w (β id) b1 b∧∀e es,b1≠ .arr e es true:=by
  rintro b ⟨j,c,hc,ho⟩
  obtain ⟨p,h1,U⟩:=hl j c hc
  rw[lr] at h1
  obtain ⟨id,b2,rfl,_⟩:=pd j p h1
  obtain ⟨b1,k1,k2,k3⟩:=U.tK ho
  exact ⟨j,id,b1,h1,k1,k2,k3⟩
 have other: ∀id blk b,hp id=some blk→bt P w (β id) blk b→(∀j:Nat,pl[j]? ≠some (.blk id))→¬ou P w o hp0 b∧w'.heap[b]? =w.heap[b]? ∧(I2 b→I b):=by
  intro id blk b e1 e3 e4
  have mf: ¬ou P w o hp0 b:=by
   intro hx
   obtain ⟨j,aC,b1,i1,i2,i3,_⟩:=NW b hx
   have:=S.h.inj id aC _ _ b e1 i2 e3 i3
   subst this
   exact e4 j i1
  have aP:=S.h.lt e1 e3
  refine ⟨mf,Sc.b8 b aP mf,fun h=> ?_⟩
  rcases Sc.new b h with h|h|h
  ·exact h
  ·exact absurd h mf
  ·omega
 have rT:pc σ bQ (jr bs) β' gF:=by
  refine ⟨fun j b hj=> ?_,fun j hj=> ?_,fun j id ver path hj=> ?_⟩
  ·rw[gM] at hj
   by_cases b9:j<pl.length
   ·obtain ⟨id,b1,e,lp⟩:=pd j _ (bz b9)
    have DG:pl[j]? =some (.blk id):=by rw[bz b9,e]
    have H9:dR σ j=some (.blk id):=by rw[qw];exact ot (by rw[lr];exact DG)
    rcases cls id with ⟨i,b2,c1,c2,c3,c4,c5⟩|⟨j',b2,b',c,b0,q1,q2,q3,q4,q5,q6,q7,q8,q9,pe,we,qx⟩|⟨c1,c2,c3⟩
    ·obtain ⟨c,d1,d2⟩:=NV j id DG
     obtain ⟨_,b0,d3,_⟩:=d2.H7
     rw[d3] at c4;cases c4
    ·obtain rfl:=uniq _ _ _ q1 DG
     rw[hj] at q2;cases q2
     exact ⟨id,b',H9,q7,q8,fun h=>pe.trans (qx h).symm⟩
    ·exact absurd DG (c2 j)
   ·have NX:=(br.1 hj).1
    have H9:dR σ j=some (.blk (nb+(j-pl.length))):=by
     rw[qw,lr,il (by omega)]
     exact DE (by omega)
    have hm:(nb+(j-pl.length),s4 σ b)∈fr:=by
     rw[zG]
     refine NO ?_
     rw[gR,show pl.length+(j-pl.length)=j by omega]
     exact hj
    rcases cls (nb+(j-pl.length)) with ⟨i,b2,c1,c2,c3,c4,c5⟩|⟨j',b2,b',c,b0,q1,q2,q3,q4,q5,q6,q7,q8,q9,pe,we,qx⟩|⟨c1,c2,c3⟩
    ·have hi:i=j-pl.length:=by omega
     subst hi
     rw[show pl.length+(j-pl.length)=j by omega] at c2 c5
     rw[hj] at c2;cases c2
     exact ⟨_,_,H9,c3,.of σ _,fun _=>c5⟩
    ·rw[rY _ hm] at q5;cases q5
    ·obtain ⟨b',CO,he⟩:=CL (hp:=hp) (l:=fr++bk) (ei.2 (.inl hm))
     rw[H8,c1,rY _ hm] at he
     cases he
  ·rw[gM] at hj
   have:=List.getElem?_eq_none_iff.1 hj
   rw[qw,lr,List.getElem?_eq_none_iff,cx,H6]
   omega
  ·rw[qw,lr] at hj
   by_cases b9:j<pl.length
   ·rw[ik b9] at hj
    obtain ⟨aC,b1,e,_⟩:=pd j _ hj
    cases e
   ·have NX:j-pl.length<bs.length-pl.length:=by
     have:=(br.1 hj).1
     rw[cx,H6] at this
     omega
    rw[il (by omega),DE NX] at hj
    cases hj
 have hle:Le P w I β hp w' I2 β' gF:=by
  refine ⟨wc.c9,wc.b8,fun id blk ab=> ?_,fun id blk blk' b ab bB qy hb=> ?_,fun id e es aq e' aH vers' b q i c t v e1 l ab bB hb aP hv ht hc=> ?_⟩
  ·rcases cls id with ⟨i,b2,c1,c2,c3,c4,c5⟩|⟨j',b2,b',c,b0,q1,q2,q3,q4,q5,q6,q7,q8,q9,pe,we,qx⟩|⟨c1,c2,c3⟩
   ·rw[ab] at c4;cases c4
   ·rw[ab] at q5;cases q5
    exact ⟨b',q7,q6,fun _=>pe⟩
   ·exact ⟨blk,c1.trans ab,an.le_refl _,fun _=>c3⟩
  ·rcases cls id with ⟨i,b2,c1,c2,c3,c4,c5⟩|⟨j',b2,b',c,b0,q1,q2,q3,q4,q5,q6,q7,q8,q9,pe,we,qx⟩|⟨c1,c2,c3⟩
   ·rw[ab] at c4;cases c4
   ·rw[q7] at bB;cases bB
    exact wc.size j' c b2 b q3 (by rw[gM];exact q2) (q8.NR qy) (q4.H7.1.trans hb)
   ·rw[c1,ab] at bB
    cases bB
    simp only[bsize,(other id blk b ab (.root qy hb) c2).2.1]
  ·rcases cls id with ⟨i2,b2,c1,c2,c3,c4,c5⟩|⟨j',b2,b',c',b0,q1,q2,q3,q4,q5,q6,q7,q8,q9,pe,we,qx⟩|⟨c1,c2,c3⟩
   ·rw[ab] at c4;cases c4
   ·rw[q7] at bB;cases bB
    obtain ⟨_,_,tL,_,_,k1,k2⟩:=q9 ⟨_,_,_,rfl⟩
    change hp id=_ at k1
    rw[ab] at k1;cases k1
    cases k2
    rw[NS aP] at hv
    omega
   ·rw[c1,ab] at bB
    cases bB
    exact ⟨l,rfl,hc.mono fun _ _ _ _ h=>(other id _ _ ab (.row hb h) c2).2.1⟩
 have place: ∀id blk b,gF id=some blk→bt P w' (β' id) blk b→(∃j c,jr bs j=some c∧bt P w' (bQ j) c b∧dR σ j=some (.blk id))∨(b<w.heap.size∧¬ou P w o hp0 b∧hp id=some blk∧bt P w (β id) blk b):=by
  intro id blk b e1 e3
  rcases cls id with ⟨i,b2,c1,c2,c3,c4,c5⟩|⟨j',b2,b',c,b0,q1,q2,q3,q4,q5,q6,q7,q8,q9,pe,we,qx⟩|⟨c1,c2,c3⟩
  ·rw[c3] at e1;cases e1
   rw[c5] at e3
   refine .inl ⟨pl.length+i,b2,by rw[gM];exact c2,(fW.of σ b2).tK e3,?_⟩
   have:=(br.1 c2).1
   rw[qw,lr,il (by omega),DE (by omega),c1]
   congr 3
   omega
  ·rw[q7] at e1;cases e1
   have qy:b2≠ .dead:=q8.NR e3.alive
   rw[pe,←qx qy] at e3
   exact .inl ⟨j',b2,by rw[gM];exact q2,q8.tK e3,by rw[qw];exact ot (by rw[lr];exact q1)⟩
  ·rw[c1] at e1
   rw[c3] at e3
   have:=e3.mono (w:=w) fun b hb=>(other id blk b e1 hb c2).2.1
   exact .inr ⟨S.h.lt e1 this,(other id blk b e1 this c2).1,e1,this⟩
 have rM: ∀b,ou P w o hp0 b∨w.heap.size≤b→M b∨B≤b:=by
  rintro b (h|h)
  ·obtain ⟨j,id,b1,i1,i2,i3,_⟩:=NW b h
   exact S.h.own id b1 b i2 i3
  ·exact .inr (lN S.size h)
 have Ia: ∀j c b,jr bs j=some c→bt P w' (bQ j) c b→ou P w o hp0 b∨w.heap.size≤b:=fun j c b h1 U=>Sc.h.own j c b h1 U
 refine ⟨β',hle,⟨⟨fun id blk ab=> ?_,fun i1 i2 b1 b2 b e1 e2 f1 f2=> ?_,fun id blk b ab hb=> ?_,Sc.h.jv⟩,fun b hb hM=> ?_,lN S.size Sc.size,fun b hb=> ?_,⟨Sc.io.1.trans S.io.1,Sc.io.2.trans S.io.2⟩⟩,rT⟩
 ·rcases cls id with ⟨i,b2,c1,c2,c3,c4,c5⟩|⟨j',b2,b',c,b0,q1,q2,q3,q4,q5,q6,q7,q8,q9,pe,we,qx⟩|⟨c1,c2,c3⟩
  ·rw[c3] at ab;cases ab
   rw[c5]
   exact rT.NQ (Sc.h.rel _ b2 (by rw[gM];exact c2)) (.of σ b2)
  ·rw[q7] at ab;cases ab
   have:=rT.NQ (Sc.h.rel j' b2 (by rw[gM];exact q2)) q8
   by_cases qy:b2= .dead
   ·subst qy
    cases q8
    exact .dead
   ·rw[pe,←qx qy]
    exact this
  ·rw[c1] at ab
   rw[c3]
   exact (S.h.rel id blk ab).mono hle fun b hb=>(other id blk b ab hb c2).2
 ·rcases place i1 b1 b e1 f1 with ⟨j1,c1,g1,g2,g3⟩|⟨g1,g2,g3,g4⟩<;>rcases place i2 b2 b e2 f2 with ⟨j2,c2,k1,k2,k3⟩|⟨k1,k2,k3,k4⟩
  ·have:=Sc.h.inj j1 j2 c1 c2 b g1 k1 g2 k2
   subst this
   rw[g3] at k3
   cases k3
   rfl
  ·rcases Ia j1 c1 b g1 g2 with h|h
   ·exact absurd h k2
   ·omega
  ·rcases Ia j2 c2 b k1 k2 with h|h
   ·exact absurd h g2
   ·omega
  ·exact S.h.inj i1 i2 _ _ b g3 k3 g4 k4
 ·rcases place id blk b ab hb with ⟨j1,c1,g1,g2,g3⟩|⟨g1,g2,g3,g4⟩
  ·exact rM b (Ia j1 c1 b g1 g2)
  ·exact S.h.own id blk b g3 g4
 ·refine (Sc.b8 b (rk hb S.size) fun hx=> ?_).trans (S.b8 b hb hM)
  rcases rM b (.inl hx) with h|h
  ·exact hM h
  ·omega
 ·rcases Sc.new b hb with h|h|h
  ·exact S.new b h
  ·exact .inr (rM b (.inl h))
  ·exact .inr (rM b (.inr h))
end
section
variable {P:Program} {A:cB} {w w':World} {I I' I2:Nat→Prop} {μ β β' bQ:Nat→Option Nat} {hp hp' hp0 bp:Nat→Option an} {C:ag} {B:Nat} {M:Nat→Prop} {w0:Start}
theorem NY (hp:Nat→Option an): ∀(a b:List (Nat × an)),bG hp (a++b)=bG (bG hp b) a
 | [],b=>rfl
 | (i,x)::a,b=>by simp only[List.cons_append,bG,NY hp a b]
theorem wg {hp:Nat→Option an} {l:List (Nat × an)} {id:Nat} (h: ∀q∈l,q.1≠id):bG hp l id=hp id:=by
 rcases ti (hp:=hp) (l:=l) (id:=id) with h1|⟨b,hb,_⟩
 ·exact h1
 ·exact absurd rfl (h _ hb)
def yj (P : Program) : Prop := ∀ (f : Nat) fn, P.funcs[f]? = some fn → (fn.name == "runtime.NumGoroutine") = false
def NZ (P:Program) (f:FuncId) (e:TypeId):Prop:=
 (∀args w,(callFunc f args).run P w= .ok (.enter f args) w)∧∃t,P.underlying t=some (.slice e)∧
  ∀(s:Value) (w:World) (Q:Ending→World→Prop),(s= .slice none 0 0→Q (.returned (.slice none 0 0)) w)→
   (∀a n c,s= .slice (some a) n c→∃v w',(Builtin.append_ #[t,t] t #[.slice (some ⟨w.heap.size,0,none⟩) 0 0,s]).run P (w.alloc (.cells #[] e))= .ok v w'∧Q (.returned v) w')→
   (s= .slice none 0 0∨∃a n c,s= .slice (some a) n c)→Calls P f #[s] w Q
structure iH (P:Program) (A:cB):Prop where
 count:yj P
 ext: ∀f T,A.ext f=some T→∀(b:Nat) (C:Array Value) (w:World),w.heap[b]? =some (.cells C T (0,0))→C.size=P.cellsOf T→(C[0]? =some (.pointer none)∨C[0]? =some (.pointer (some ⟨b,0,none⟩)))→
  (callFunc f #[.pointer (some ⟨b,0,none⟩)]).run P w= .ok (.enter f #[.pointer (some ⟨b,0,none⟩)]) w∧
  Calls P f #[.pointer (some ⟨b,0,none⟩)] w fun e w'=>e= .returned (.tuple #[])∧(w'=w∨w'=w.setCell ⟨b,0,none⟩ (.pointer (some ⟨b,0,none⟩)))
 idle: ∀f,A.idle f=true→(∀args w,(callFunc f args).run P w= .ok (.enter f args) w)∧
  ∀args w,CallsD P f args .returning w fun e u' w'=>(∃v,e= .returned v)∧u'= .returning∧w'=w
 nV: ∀f e,A.nV f=some e→NZ P f e
theorem iH.here {P:Program} {A:cB} (h:iH P A) (f id:Nat):iH P (A.here f id):=⟨h.count,h.ext,h.idle,h.nV⟩
def zH (E:FuncId→Bool) (d:Deferred):Prop:= ∃f cap,d.target= .fn (.func f) cap∧E f=true
theorem Ib {P:Program} {A:cB} (hP:iH P A) {fn:Func} {tmps:Array Value} {R:Ending→World→Prop} {w:World} {v:Value} (hv:(results fn tmps).run P w= .ok v w) (hR:R (.returned v) w):
  ∀ds:List Deferred,(∀d∈ds,zH A.idle d)→Leaves P fn tmps R ds .returning w
 | [],_=>⟨v,hv,hR⟩
 | d::ds,h=>by
  obtain ⟨f,cap,ht,hf⟩:=h d (by simp)
  obtain ⟨k1,k2⟩:=hP.idle f hf
  obtain ⟨t,N0⟩:=d
  simp only at ht
  subst ht
  refine leaves_cons (f:=f) (args:=N0++cap) (by simp) ?_ ?_
  ·simp only[invoke];exact k1 _ w
  ·refine (k2 (N0++cap) w).mono fun e u' w' hr=> ?_
   obtain ⟨⟨v',rfl⟩,rfl,rfl⟩:=hr
   exact Ib hP hv hR ds fun d hd=>h d (kX _ hd)
def zI (P:Program) (A:cB) (o:Oper) (a:Act) (w:World) (I:Nat→Prop) (β:Nat→Option Nat) (hp:Nat→Option an) (B:Nat) (M:Nat→Prop) (w0:Start) (r:R):Prop:=
 ∀(next:Act→World→Prop) (Q:Exit→Act→World→Prop),
  (∀v w' I' β' ds,Le P w I β hp w' I' β' (bG hp r.upd)→aE P w' I' β' (bG hp r.upd) B M w0→ao P w' I' β' (bG hp r.upd) v r.v→(∀d∈ds,d∈a.defers∨zH A.idle d)→next ({a with defers:=ds}.put o.dst v) w')→o.wp P a w next Q
theorem oY.step {o:Oper} {a:Act} {r:R} (h:oY P ((execOp a.eval o).run P w) w I β hp B M w0 r):zI P A o a w I β hp B M w0 r:=by
 obtain ⟨v,w',I',β',h1,U,h3,h4⟩:=h
 intro next Q hn
 unfold Oper.wp
 rcases h1 with h1|⟨h1,rfl⟩
 ·rw[h1];exact hn v w' I' β' a.defers U h3 h4 fun d hd=> .inl hd
 ·rw[h1];exact hn _ w' I' β' a.defers U h3 h4 fun d hd=> .inl hd
theorem N3: ∀(l:List (Nat × VS)),nX l=rH (l.map (·.2))
 | []=>rfl
 | (_,s)::l=>by simp only[nX,cQ,rH,N3 l]
theorem XR (hC:kJ P A C) (S:aE P w I β hp B M w0) (hg:fZ P A.aD w I) {vals:List Value} {args:List V} {nb key:Nat} {f:FuncId} {r:R} {rd:List Nat} (hlen:vals.length=args.length)
  (cC: ∀(j:Nat) v x,vals[j]? =some v→args[j]? =some x→ao P w I β hp v x) (h:(yQ P A nb key f args).run C hp=some (r,rd)):
  ∃fn c,P.funcs[f]? =some fn∧fn.body=some c∧Calls P f vals.toArray w fun e w'=> ∃v I' β',e= .returned v∧Le P w I β hp w' I' β' (bG hp r.upd)∧aE P w' I' β' (bG hp r.upd) B M w0∧ao P w' I' β' (bG hp r.upd) v r.v:=by
 unfold yQ at h
 obtain ⟨N4,h0⟩:=aF h
 clear h
 rw[aR] at N4
 subst N4
 obtain ⟨h1,jd,d1,u1,a1,a2,a3,a5,a4⟩:=H3 S h0 hlen cC
 obtain ⟨U,rX,d2,u2,b1,b2,b3,b4⟩:=NF S a1
 clear h0 a1
 obtain ⟨hc,h3⟩:=aF b1
 clear b1
 simp only[aK,aR,lO] at hc
 obtain ⟨bZ,DD⟩:=hc
 have rZ:=a2.trans b2
 have kV:U.ds=d1++d2:=by have:=rZ.ds;simpa using this
 have DH:U.upd=u1++u2:=by have:=rZ.upd;simpa using this
 have j7:(U.pl.map Place.id).Nodup:=rZ.nodup (by simp)
 obtain ⟨c1,o,c2,c3⟩:=b4 []
 simp only[dJ] at c1 c2 c3
 cases zJ:C key U.ds with
 | none=>
  simp only[Rd.run,zJ] at h3
  cases h3
 | some es=>
  have qc: ∃eJ,(yP P (A.so key es) nb U (A.lv key es)).run C hp=some (r,eJ):=by
   obtain ⟨x,hx,e⟩:=bind_some h3
   rw[zJ] at hx
   cases hx
   unfold cB.so cB.lv
   cases cb:A.alt key with
   | none=>rw[cb] at e;exact ⟨_,e⟩
   | some S2=>
    rw[cb] at e
    simp only[Rd.run] at e
    cases hb:(V.nth es 0).toBool<;>(rw[hb] at e;exact ⟨_,e⟩)
  clear h3
  obtain ⟨eJ,h3⟩:=qc
  unfold yP at h3
  simp only at h3
  generalize gG:ek (A.so key es).a8 ((A.lv key es).drop (nX (A.so key es).bK))=bs at h3
  generalize qw:U.pl++rI nb (bs.length-U.pl.length)=σ at h3
  generalize zG:pX σ nb (bs.drop U.pl.length)=fr at h3
  obtain ⟨p0,bk,rd4,p1,p2,_,p3⟩:=NM h3
  obtain ⟨rY,rd5,p4⟩:=NP p1
  obtain rfl:=aN p4
  have qf:U.pl.length≤bs.length:=by rw[ft] at p0;omega
  have DF: ∀q∈bk,∃(j:Nat) (b:an),U.pl[j]? =some (.blk q.1)∧bs[j]? =some b∧fW σ b q.2∧zF hp q:=by
   intro q hq
   rcases p2 q hq with hx|⟨j,b,k1,k2,k3,k4⟩
   ·simp at hx
   ·have hj:=(br.1 k1).1
    rw[eO hj] at k2
    exact ⟨j,b,k1,k2,k3,k4⟩
  obtain ⟨fn,c,hf,hb,Ic⟩:=hC key U.ds es zJ
  refine ⟨fn,c,hf,hb,?_⟩
  have XS:ek (A.sin key).a8 (U.ds.drop (nX (A.sin key).bK))=ek (A.sin key).a8 d2:=by
   rw[kV,N3,nf a3]
  have Ie:(bn (A.sin key) U.ds).hp=jr (ek (A.sin key).a8 d2):=by
   simp only[bn,mk,XS]
  have hl: ∀j blk,(bn (A.sin key) U.ds).hp j=some blk→∃p,dR U.pl j=some p∧dN P w β hp p (o j) blk:=by
   intro j blk hj
   rw[Ie,gM] at hj
   obtain ⟨p,k1,k2⟩:=c2 j blk hj
   rw[ga] at k1
   exact ⟨p,k1,k2⟩
  have hd: ∀j,j<U.pl.length→∃blk,(bn (A.sin key) U.ds).hp j=some blk:=by
   intro j hj
   rw[Ie,gM]
   exact ⟨_,bz (by rw[c1,←bZ];exact hj)⟩
  have N5:zz P w β hp U.pl o (bn (A.sin key) U.ds).hp:=by
   intro j p hj
   obtain ⟨blk,k1⟩:=hd j (by rw[lr] at hj;exact (br.1 hj).1)
   obtain ⟨p',k2,k3⟩:=hl j blk k1
   rw[hj] at k2
   cases k2
   exact ⟨blk,k1,k3⟩
  obtain ⟨qm,S1⟩:=y9 S rZ.Dx
  rw[←DH] at qm S1
  have i1: ∀b,I b→iA P w I β hp U.upd b:=fun b h=> .inl h
  have entry:=XL (hp0:=(bn (A.sin key) U.ds).hp) S j7 DD hl (fun cK j blk hj=>by
   have gj:=hj
   rw[Ie,gM] at gj
   exact c3 (iA P w I β hp U.upd) o _ i1 (fun q hq b hb=> .inr ⟨q,by rw[DH];exact ei.2 (.inr hq),hb⟩) U.pl [] (by simp) N5 j blk gj (cK j blk hj)) S1.h.jv
  have XT:vals.length=(A.sin key).bK.length:=by rw[hlen,←a5];simp
  have ha:=Ic w (iA P w I β hp U.upd) o vals entry (hg.mono i1 fun _ _=>rfl) XT fun j v x hj hx=>by
   rw[kV] at hx
   exact (((a4.zA b2) (iA P w I β hp U.upd) o _ i1 (fun q hq b hb=> .inr ⟨q,by rw[DH];exact hq,hb⟩) U.pl [] (by simp) N5) d2).2 j v x hj hx
  refine ha.mono fun e w' zK=> ?_
  obtain ⟨v,I2,bQ,rfl,ha⟩:=zK
  have wh:(bn (A.so key es) (A.lv key es)).hp=jr bs:=by simp only[bn,mk,gG]
  cases XU:(A.so key es).safe P with
  | true=>
   simp only[cond_true,dJ]
   have gJ: ∀b,I b→I2 b:=fun b h=>ha.le.c9 b (i1 b h)
   obtain ⟨s1,s2⟩:=XO XU gJ ha.wa i1
   have wc:kI w I o (bn (A.sin key) U.ds).hp w' I bQ (jr bs):=by
    rw[←wh]
    exact ⟨fun _ h=>h,fun b h=>ha.le.b8 b (i1 b h),ha.le.blk,ha.le.size⟩
   obtain ⟨β',k1,k2,k3⟩:=NU S qw.symm zG.symm j7 qf p3 DF hl hd (by rw[←wh];exact ⟨s1.h,s1.b8,s1.size,fun b h=> .inl h,s1.io⟩) wc rY
   exact ⟨v,I,β',rfl,k1,k2,k3.val (by have:=s2 v ha.res;rw[wh] at this;exact this)⟩
  | false=>
   simp only[cond_false]
   rw[←cr,NY]
   have mf: ∀p∈U.pl,bG hp U.upd p.id=hp p.id:=fun p hp=>wg fun q hq e=>
    DC DD (gz.2 ⟨q,hq,rfl⟩) (e▸gz.2 ⟨p,hp,rfl⟩)
   have XV: ∀q∈bk,∃(j:Nat) (b:an),U.pl[j]? =some (.blk q.1)∧bs[j]? =some b∧fW σ b q.2∧zF (bG hp U.upd) q:=by
    intro q hq
    obtain ⟨j,b,k1,k2,k3,k4⟩:=DF q hq
    refine ⟨j,b,k1,k2,k3,fun hn=> ?_⟩
    have:=mf _ (jq k1)
    simp only[Place.id] at this
    rw[this]
    exact k4 hn
   have vC: ∀j blk,(bn (A.sin key) U.ds).hp j=some blk→∃p,dR U.pl j=some p∧dN P w β (bG hp U.upd) p (o j) blk:=by
    intro j blk hj
    obtain ⟨p,k1,k2⟩:=hl j blk hj
    exact ⟨p,k1,k2.other (mf p (by rw[lr] at k1;exact jq k1))⟩
   have XW: ∀q∈fr,bG hp U.upd q.1=none:=by
    intro q hq
    rw[wg fun q' zL e=> ?_]
    ·exact rY q hq
    ·obtain ⟨e1,cj,_,h5⟩:=rZ.Dx q' (DH▸zL)
     rw[e,rY q hq] at h5
     rcases h5 with ⟨_,h5⟩|⟨_,h5⟩<;>cases h5
   obtain ⟨β',k1,k2,k3⟩:=NU S1 qw.symm zG.symm j7 qf p3 XV vC hd (by rw[←wh];exact ha.wa) (by rw[←wh];exact ha.le) XW
   exact ⟨v,I2,β',rfl,qm.trans k1,k2,k3.val (by have:=ha.res;rw[wh] at this;exact this)⟩
theorem N6 (hC:kJ P A C) (hP:iH P A) (S:aE P w I β hp B M w0) (hg:fZ P A.aD w I) {a:Act} {nb key:Nat} {o:Oper} {f:FuncId} {vals:List Value} {args:List V} (hlen:vals.length=args.length)
  (cC: ∀(j:Nat) v x,vals[j]? =some v→args[j]? =some x→ao P w I β hp v x) {r:R} {rd:List Nat} (h:(yQ P A nb key f args).run C hp=some (r,rd))
  (hex:(execOp a.eval o).run P w=(callFunc f vals.toArray).run P w):zI P A o a w I β hp B M w0 r:=by
 intro next Q hn
 obtain ⟨fn,c,hf,hb,Ic⟩:=XR hC S hg hlen cC h
 unfold Oper.wp
 rw[hex,MuLone.run_callFunc_enter hf (hP.count f _ hf) hb,Oper.upon_enter]
 refine Ic.mono fun e w' zK=> ?_
 obtain ⟨v,I2,bQ,rfl,k1,k2,k3⟩:=zK
 exact hn v w' I2 bQ a.defers k1 k2 k3 fun d hd=> .inl hd
theorem kC.args {a:Act} {sl:Nat→V} (hs:kC P w I β hp a sl) (hg:fZ P A.aD w I) {args:Array Operand} {ts:Array TypeId} (aU:args.size=ts.size):
  (args.map a.eval).toList.length=((args.toList.zip ts.toList).map fun p=>aO P A.aD p.2 sl p.1).length∧
  ∀(j:Nat) v x,(args.map a.eval).toList[j]? =some v→((args.toList.zip ts.toList).map fun p=>aO P A.aD p.2 sl p.1)[j]? =some x→ao P w I β hp v x:=by
 refine ⟨by simp;omega,fun j v x hv hx=> ?_⟩
 simp only[Array.toList_map,fO,List.getElem?_zip_eq_some,yw] at hv hx
 obtain ⟨x1,zM,rfl⟩:=hv
 obtain ⟨⟨y1,t1⟩,⟨N7,_⟩,rfl⟩:=hx
 rw[zM] at N7
 cases N7
 exact hs.ev hg t1 _
theorem N8 {vs us:List Value} {xs ys:List V} (h1:vs.length=xs.length) (U: ∀(j:Nat) v x,vs[j]? =some v→xs[j]? =some x→ao P w I β hp v x)
  (h3: ∀(j:Nat) v x,us[j]? =some v→ys[j]? =some x→ao P w I β hp v x) (j:Nat) (v:Value) (x:V) (hv:(vs++us)[j]? =some v) (hx:(xs++ys)[j]? =some x):ao P w I β hp v x:=by
 by_cases hj:j<vs.length
 ·rw[ik hj] at hv
  rw[ik (by omega)] at hx
  exact U j v x hv hx
 ·rw[il (by omega)] at hv
  rw[il (by omega)] at hx
  rw[h1] at hv
  exact h3 _ v x hv hx
theorem XX (hP:iH P A) (S:aE P w I β hp B M w0) (hg:fZ P A.aD w I) {a:Act} {sl:Nat→V} (hs:kC P w I β hp a sl) {dst:Option Tmp} {ty e:TypeId} {pos:String} {after:Array Edge} {guard:Option (Nat × Bool)} {f:FuncId}
  {args:Array Operand} {argTypes:Array TypeId} {nb:Nat} {r:R} {rd:List Nat} (kH:A.nV f=some e)
  (h:((match args.toList with
    | [x]=> .aB (cL P e) (rF e (aO P A.aD ty sl x) fun xs=> .aB (Nat.ble (xs.length*P.bytesOf e) cI) (iW nb (.arr e xs false) (.whole e nb) []))
    | _=> .fail):Rd R).run C hp=some (r,rd)):zI P A (Oper.mk dst (.call (Go.Call.mk (.value (.func f)) args argTypes)) ty pos after guard) a w I β hp B M w0 r:=by
 cases ha:args.toList with
 | nil=>rw[ha] at h;cases h
 | cons x l=>
  rw[ha] at h
  cases l with
  | cons _ _=>cases h
  | nil=>
   simp only at h
   have e1:args= #[x]:=by rw[←Array.toArray_toList (xs:=args),ha]
   subst e1
   have hx:=hs.ev hg ty x
   obtain ⟨au,h⟩:=aF h
   have fin: ∀{w1:World} {DI:Nat→Option Nat},(∀id blk,hp id=some blk→dK P w1 I DI hp (DI id) blk)→ao P w1 I DI hp (a.eval x) (aO P A.aD ty sl x)→∃xs,(((∃a',a.eval x= .slice a' 0 0)∧xs=[])∨∃a' c news,Row P w1 I e (a.eval x) xs a' c news)∧
     xs.length*P.bytesOf e≤cI∧hp nb=none∧r=⟨.whole e nb,[(nb,.arr e xs false)]⟩:=by
    intro w1 DI h1 U
    obtain ⟨xs,lq,l,h⟩:=Df h1 au U h
    obtain ⟨dF,h⟩:=aF h
    rw[dP] at dF
    obtain ⟨hn,rfl⟩:=m7 h
    exact ⟨xs,lq,dF,hn,rfl⟩
   obtain ⟨c1,t,hu,c2⟩:=hP.nV f e kH
   intro next Q wi
   unfold Oper.wp
   have e2:(execOp a.eval ⟨dst,.call ⟨.value (.func f),#[x],argTypes⟩,ty,pos,after,guard⟩).run P w= .ok (.enter f #[a.eval x]) w:=by
    have eK:a.eval (.func f)= .func (.func f) #[] #[]:=rfl
    simpa[execOp,resolve,eK,Deferred.ofValue,invoke] using c1 #[a.eval x] w
   rw[e2,Oper.upon_enter]
   refine c2 _ w _ (fun zN=> ?_) (fun b n c qk=> ?_) ?_
   ·obtain ⟨xs,lq,dF,hn,rfl⟩:=fin S.h.rel hx
    have gk:xs=[]:=by
     rcases lq with ⟨_,h⟩|⟨a,c,news,hr⟩
     ·exact h
     ·have:=hr.val.symm.trans zN
      cases this
    subst gk
    obtain ⟨a1,a2⟩:=CP S e hn
    exact wi _ w I _ a.defers a1 a2 (.dw (cR _ _ _) (cR _ _ _)) fun d hd=> .inl hd
   ·obtain ⟨m1,m2⟩:=Vu (w':=w.alloc (.cells #[] e)) S (fun b hb=>heap_alloc_old w _ b hb) (by simp) ⟨rfl,rfl⟩
    obtain ⟨xs,lq,dF,hn,rfl⟩:=fin m2.h.rel (hx.mono m1)
    obtain ⟨v,w',β',a1,a2,a3,a4⟩:=Hu (ty:=t) (a0:=some ⟨w.heap.size,0,none⟩) m2 hu au hn dF lq
    exact ⟨v,w',a1,wi v w' I β' a.defers (m1.trans a2) a3 a4 fun d hd=> .inl hd⟩
   ·obtain ⟨xs,lq,dF,hn,rfl⟩:=fin S.h.rel hx
    rcases lq with ⟨⟨b,h⟩,_⟩|⟨b,c,news,hr⟩
    ·rw[h]
     cases b with
     | none=>exact .inl rfl
     | some b=>exact .inr ⟨_,_,_,rfl⟩
    ·exact .inr ⟨_,_,_,hr.val⟩
theorem XY (hP:iH P A) (S:aE P w I β hp B M w0) (hg:fZ P A.aD w I) {a:Act} {sl:Nat→V} (hs:kC P w I β hp a sl) {dst:Option Tmp} {ty T0:TypeId} {pos:String} {after:Array Edge} {guard:Option (Nat × Bool)} {f:FuncId}
  {args:Array Operand} {argTypes:Array TypeId} {r:R} {rd:List Nat} (zO:A.ext f=some T0)
  (h:((match args.toList with
   | [x]=>
    match aO P A.aD ty sl x with
    | .ptr id i c=>Rd.get id fun
     | some (.var T cs)=> .aB (Nat.beq T T0&&(oR P T&&(Nat.beq cs.length (P.cellsOf T)&&(Nat.beq i 0&&Nat.beq c 0)))) (.ret ⟨.bd [],[(id,.var T (.undef::cs.tail))]⟩)
     | _=> .fail
    | _=> .fail
   | _=> .fail):Rd R).run C hp=some (r,rd)):zI P A (Oper.mk dst (.call (Go.Call.mk (.value (.func f)) args argTypes)) ty pos after guard) a w I β hp B M w0 r:=by
 cases ha:args.toList with
 | nil=>rw[ha] at h;cases h
 | cons x l=>
  rw[ha] at h
  cases l with
  | cons _ _=>cases h
  | nil=>
   simp only at h
   have e1:args= #[x]:=by rw[←Array.toArray_toList (xs:=args),ha]
   subst e1
   have hx:=hs.ev hg ty x
   cases e6:aO P A.aD ty sl x<;>rw[e6] at h hx<;>simp only at h<;>first|(cases h;done)|skip
   rename_i id i c
   obtain ⟨l,h1⟩:=run_get h
   cases ab:hp id with
   | none=>rw[ab] at h1;cases h1
   | some blk=>
    rw[ab] at h1
    cases blk<;>simp only at h1<;>first|(cases h1;done)|skip
    rename_i T cs
    obtain ⟨U,h3⟩:=aF h1
    simp only[aK,aR] at U
    obtain ⟨rfl,ca,wj,rfl,rfl⟩:=U
    obtain rfl:=aN h3
    obtain ⟨b,hb,he⟩:=hx.gH ab (by simp)
    have hr:=S.h.rel id _ ab
    rw[hb] at hr
    cases hr with
    | @var _ b' Ca _ az hh aU hI gk fS=>
     cases az
     have gI:a.eval x= .pointer (some ⟨b,0,none⟩):=by rw[he];simp[an.sz]
     obtain ⟨q1,q2⟩:=hP.ext f T zO b Ca w hh (aU.trans wj) (fS ca)
     have h0:0<Ca.size:=by
      rcases fS ca with k|k<;>exact (gS.1 k).1
     have oe:(V.undef::cs.tail).length=cs.length:=by
      cases cs with
      | nil=>rw[aU] at h0;simp at h0
      | cons _ _=>rfl
     have rel: ∀(C':Array Value),(∀j,0<j→C'[j]? =Ca[j]?)→∀(j:Nat) v y,C'[j]? =some v→(V.undef::cs.tail)[j]? =some y→ao P w I β hp v y:=by
      intro C' vT j v y hj hy
      cases j with
      | zero=>simp at hy;subst hy;exact .undef
      | succ j=>
       rw[vT _ (by omega)] at hj
       refine gk (j+1) v y hj ?_
       cases cs with
       | nil=>rw[aU] at h0;simp at h0
       | cons _ _=>simpa using hy
     have fin: ∀w' C',(∀b',b'≠b→w'.heap[b']? =w.heap[b']?)→w'.heap[b]? =some (.cells C' T (0,0))→C'.size=Ca.size→w.heap.size≤w'.heap.size→w'.os=w.os∧w'.output=w.output→
       (∀j,0<j→C'[j]? =Ca[j]?)→(C'[0]? =some (.pointer none)∨C'[0]? =some (.pointer (some ⟨b,0,none⟩)))→
       Le P w I β hp w' I β (aG hp id (some (.var T (V.undef::cs.tail))))∧aE P w' I β (aG hp id (some (.var T (V.undef::cs.tail)))) B M w0:=by
      intro w' C' k1 k2 k3 k4 k5 k6 k7
      exact CR (w':=w') (blk':= .var T (V.undef::cs.tail)) S ab (by simp) rfl hb hI (by simp) k1 (by rw[mV k2,mV hh,k3]) k4 k5 fun hle=>
       .var rfl k2 (by rw[k3,aU,oe]) hI (fun j v y hj hy=>(rel C' k6 j v y hj hy).mono hle) fun _=>k7
     intro next Q hn
     unfold Oper.wp
     have e2:(execOp a.eval ⟨dst,.call ⟨.value (.func f),#[x],argTypes⟩,ty,pos,after,guard⟩).run P w= .ok (.enter f #[.pointer (some ⟨b,0,none⟩)]) w:=by
      have eK:a.eval (.func f)= .func (.func f) #[] #[]:=rfl
      simpa[execOp,resolve,eK,Deferred.ofValue,invoke,gI] using q1
     rw[e2,Oper.upon_enter]
     refine q2.mono fun e w' zK=> ?_
     obtain ⟨rfl,hw⟩:=zK
     have N9:Le P w I β hp w' I β (aG hp id (some (.var T (V.undef::cs.tail))))∧aE P w' I β (aG hp id (some (.var T (V.undef::cs.tail)))) B M w0:=by
      rcases hw with rfl|rfl
      ·exact fin w' Ca (fun _ _=>rfl) hh rfl (ch _) ⟨rfl,rfl⟩ (fun _ _=>rfl) (fS ca)
      ·refine fin (w.setCell ⟨b,0,none⟩ (.pointer (some ⟨b,0,none⟩))) (Ca.setIfInBounds 0 (.pointer (some ⟨b,0,none⟩))) (fun b' bu=> ?_) ?_ (by simp) (by simp[World.setCell]) ⟨rfl,rfl⟩ (fun j hj=> ?_) (.inr ?_)
       ·simp only[World.setCell,yv]
        rw[ah (fun e=>bu e.symm)]
       ·simp[World.setCell,yv,hh]
       ·rw[B8 (by omega)]
       ·rw[Gu h0]
     exact hn (.tuple #[]) w' I β a.defers N9.1 N9.2 (.bd rfl fun j v y hj _=>by simp at hj) fun d hd=> .inl hd
theorem XZ (hC:kJ P A C) (hP:iH P A) (S:aE P w I β hp B M w0) (hg:fZ P A.aD w I) {a:Act} {sl:Nat→V} (hs:kC P w I β hp a sl) {ix nb:Nat} {o:Oper} {r:R} {rd:List Nat}
  (h:(fg P A sl ix nb o).run C hp=some (r,rd)):zI P A o a w I β hp B M w0 r:=by
 cases hc:HT o.op with
 | false=>exact (Xp S hg hs hc h).step
 | true=>
  obtain ⟨dst,op,ty,pos,after,guard⟩:=o
  cases op<;>simp only[HT] at hc<;>first|(cases hc;done)|skip
  case defer c=>
   obtain ⟨callee,args,argTypes⟩:=c
   cases callee with
   | invoke r m=>simp only[fg] at h;cases h
   | builtin b=>simp only[fg] at h;cases h
   | value f=>
   cases f with
   | tmp t=>
    simp only[fg] at h
    cases ca:sl t<;>rw[ca] at h<;>simp only at h<;>first|(cases h;done)|skip
    rename_i f xs ys
    obtain ⟨h1,U⟩:=aF h
    obtain rfl:=aN U
    have hv:=hs t
    rw[ca] at hv
    generalize tD:a.tmps.getD t undef=vt at hv
    cases hv with
    | @fn _ fs cs _ _ q1 q2 q3 q4=>
     intro next Q hn
     unfold Oper.wp
     have eK:a.eval (.tmp t)= .func (.func f) fs cs:=tD
     have e1:(execOp a.eval ⟨dst,.defer ⟨.value (.tmp t),args,argTypes⟩,ty,pos,after,guard⟩).run P w= .ok (.defer {target:= .fn (.func f) cs,args:=fs++args.map a.eval}) w:=by
      simp[execOp,resolve,eK,Deferred.ofValue]
     rw[e1,Oper.upon_defer]
     exact hn undef w I β _ (Le.refl w I β hp) S .undef fun d hd=>by
      rcases dg.1 hd with rfl|hd
      ·exact .inr ⟨f,cs,rfl,h1⟩
      ·exact .inl hd
   | func f=>simp only[fg] at h;cases h
   | const _=>simp only[fg] at h;cases h
   | global _=>simp only[fg] at h;cases h
  rename_i c
  obtain ⟨callee,args,argTypes⟩:=c
  cases callee with
  | invoke r m=>cases hc
  | builtin b=>cases hc
  | value f=>
   cases f with
   | func f=>
    simp only[fg] at h
    cases zO:A.ext f with
    | some T0=>
     rw[zO] at h
     simp only at h
     exact XY hP S hg hs zO h
    | none=>
    rw[zO] at h
    simp only at h
    cases kH:A.nV f with
    | some e0=>
     rw[kH] at h
     simp only at h
     exact XX hP S hg hs kH h
    | none=>
    rw[kH] at h
    simp only at h
    obtain ⟨h1,U⟩:=aF h
    rw[aR] at h1
    obtain ⟨k1,k2⟩:=hs.args hg h1
    refine N6 hC hP S hg k1 k2 U ?_
    have e1:(args.map a.eval).toList.toArray=args.map a.eval:=Array.toArray_toList
    rw[e1]
    simp[execOp,resolve,Act.eval,Deferred.ofValue,invoke]
   | tmp t=>
    simp only[fg] at h
    cases ca:sl t<;>rw[ca] at h<;>simp only at h<;>first|(cases h;done)|skip
    rename_i f xs ys
    obtain ⟨h1,U⟩:=aF h
    rw[aR] at h1
    obtain ⟨k1,k2⟩:=hs.args hg h1
    have hv:=hs t
    rw[ca] at hv
    generalize tD:a.tmps.getD t undef=vt at hv
    cases hv with
    | @fn _ fs cs _ _ q1 q2 q3 q4=>
     have l1:fs.toList.length=xs.length:=by simpa using q1
     have l3:cs.toList.length=ys.length:=by simpa using q3
     have r1: ∀(j:Nat) v x,fs.toList[j]? =some v→xs[j]? =some x→ao P w I β hp v x:=fun j v x hj hx=>q2 j v x (by simpa using hj) hx
     have r3: ∀(j:Nat) v x,cs.toList[j]? =some v→ys[j]? =some x→ao P w I β hp v x:=fun j v x hj hx=>q4 j v x (by simpa using hj) hx
     refine N6 hC hP S hg (vals:=fs.toList++(args.map a.eval).toList++cs.toList) (args:=xs++((args.toList.zip argTypes.toList).map fun p=>aO P A.aD p.2 sl p.1)++ys) (by simp only[cx];omega) ?_ U ?_
     ·exact N8 (by simp only[cx];omega) (N8 l1 r1 k2) r3
     ·have e1:(fs.toList++(args.map a.eval).toList++cs.toList).toArray=fs++args.map a.eval++cs:=by
       apply Array.toList_inj.1;simp
      rw[e1]
      have eK:a.eval (.tmp t)= .func (.func f) fs cs:=tD
      simp[execOp,resolve,eK,Deferred.ofValue,invoke]
   | _=>cases hc
end
section
variable {P:Program} {A:cB} {w w':World} {I I' I2:Nat→Prop} {μ β β':Nat→Option Nat} {hp hp':Nat→Option an} {C:ag} {B:Nat} {M:Nat→Prop} {w0:Start}
structure iI (P:Program) (E:FuncId→Bool) (G:Nat→V) (w:World) (I:Nat→Prop) (β:Nat→Option Nat) (n:Nat) (a:Act) (st:St):Prop where
 sl:kC P w I β st.hp a st.sl
 size:a.tmps.size=n
 defers: ∀d∈a.defers,zH E d
 aD:fZ P G w I
theorem Ig {E:FuncId→Bool} {G:Nat→V} {n:Nat} {a:Act} {st:St} {o:Oper} {v:Value} {x:V} {hp':Nat→Option an} {ds:List Deferred} (h:iI P E G w I β n a st) (hle:Le P w I β st.hp w' I' β' hp') (hd:rJ o n=true)
  (hv:ao P w' I' β' hp' v x) (kV: ∀d∈ds,d∈a.defers∨zH E d):iI P E G w' I' β' n ({a with defers:=ds}.put o.dst v) ⟨gV st.sl o.dst x,hp',st.nb⟩:=by
 have Oa: ∀d∈ds,zH E d:=fun d hd=>(kV d hd).elim (h.defers d) id
 cases X0:o.dst with
 | none=>exact ⟨fun k=>(h.sl k).mono hle,h.size,Oa,h.aD.mono hle.c9 hle.b8⟩
 | some d=>
  have aP:d<a.tmps.size:=by
   unfold rJ at hd
   rw[X0] at hd
   rw[h.size]
   simpa using hd
  refine ⟨fun k=> ?_,by simp[Act.put,h.size],Oa,h.aD.mono hle.c9 hle.b8⟩
  simp only[Act.put,gV,aG]
  cases hb:Nat.beq k d with
  | true=>
   rw[aR] at hb
   subst hb
   simpa[aP] using hv
  | false=>
   have bu:d≠k:=fun e=>by rw[e,jo] at hb;cases hb
   have:=(h.sl k).mono hle
   simpa[B8 bu] using this
theorem Ob {E:FuncId→Bool} {G:Nat→V} {n:Nat} {a:Act} {st:St} {d:Nat} {b:Bool} (h:iI P E G w I β n a st) (hd:st.sl d= .bool b):a.tmps[d]? =some (.bool b):=by
 have:=h.sl d
 rw[hd] at this
 have:=this.jZ
 cases ht:a.tmps[d]? with
 | none=>simp[ht] at this;cases this
 | some v=>simp[ht] at this;rw[this]
theorem X1 {x:V} {b:Bool} (h:kZ x=some (some b)):x= .bool b:=by
 cases x with
 | bool c=>simp only[kZ] at h;injection h with h;injection h with h;rw[h]
 | bd vs=>cases vs<;>simp[kZ] at h
 | _=>simp[kZ] at h
theorem X2 {x:V} (h:kZ x=some none):x= .bd []:=by
 cases x with
 | bd vs=>cases vs with
  | nil=>rfl
  | cons _ _=>simp[kZ] at h
 | bool c=>simp[kZ] at h
 | _=>simp[kZ] at h
theorem ao.X3 {v:Value} (h:ao P w I β hp v (.bd [])):v= .tuple #[]:=by
 cases h with
 | @bd cs _ hs _=>
  have:cs= #[]:=by
   apply Array.eq_empty_of_size_eq_zero
   simpa using hs
  rw[this]
theorem ao.Oc:ao P w I β hp Go.undef (.bd []):= .bd (by rfl) (fun j v x _ hx=>by simp at hx)
theorem Od (hC:kJ P A C) (hP:iH P A) {ops:Array Oper} {n i nb:Nat} {o:Oper} (ho:ops[i]? =some o) {a:Act} {st st':St} {R W:List Nat} (S:aE P w I β st.hp B M w0) (hA:iI P A.idle A.aD w I β n a st)
  (h:gD P A C n ops i o nb st=some (st',R,W)) {K:Act→World→Prop} {Q:Exit→Act→World→Prop}
  (hK: ∀a' w' I' β',Le P w I β st.hp w' I' β' st'.hp→aE P w' I' β' st'.hp B M w0→iI P A.idle A.aD w' I' β' n a' st'→K a' w'):wpOp P ops Q i K a w:=by
 unfold gD at h
 cases hd:rJ o n with
 | false=>rw[hd] at h;cases h
 | true=>
  rw[hd] at h
  simp only[cond_true] at h
  have go: ∀{Ih:St} {R W:List Nat},(((fg P A st.sl i (nb+64*i) o).run C st.hp).bind fun r=>some ((⟨gV st.sl o.dst r.1.v,bG st.hp r.1.upd,st.nb⟩:St),p5 r.2 r.1.upd,fx st.hp r.1.upd))=some (Ih,R,W)→Ih=st'→
    o.wp P a w K Q:=by
   intro Ih R W h e
   obtain ⟨⟨r,rd⟩,h1,U⟩:=bind_some h
   cases U
   subst e
   exact XZ hC hP S hA.aD hA.sl h1 K Q fun v w' I' β' ds k1 k2 k3 k4=>hK _ w' I' β' k1 k2 (Ig hA k1 hd k3 k4)
  unfold wpOp
  rw[ho]
  simp only
  cases hg:o.guard with
  | none=>
   rw[hg] at h
   simp only[Region.wanted,hg,dj]
   exact .inl (go h rfl)
  | some gw=>
   obtain ⟨g,want⟩:=gw
   rw[hg] at h
   simp only at h
   cases lu:(ops[g]?).bind (·.dst) with
   | none=>rw[lu] at h;cases h
   | some d=>
    rw[lu] at h
    simp only at h
    cases mg:kZ (st.sl d) with
    | none=>rw[mg] at h;cases h
    | some ob=>
    rw[mg] at h
    cases ob with
    | none=>
     have qk:=X2 mg
     have hy:yielded ops a.tmps g=none:=by
      unfold yielded
      rw[lu]
      have:=hA.sl d
      rw[qk] at this
      have hu:=ao.X3 this
      simp only[Option.bind_some]
      cases ht:a.tmps[d]? with
      | none=>rfl
      | some v=>simp[ht] at hu;subst hu;rfl
     simp only[Region.wanted,hg,hy]
     injection h with h
     injection h with h3 h4
     subst h3
     have U:((none:Option Bool)==some want)=false:=rfl
     simp only[U,Bool.false_eq_true,gb]
     exact hK _ w I β (Le.refl w I β st.hp) S (Ig (ds:=a.defers) hA (Le.refl w I β st.hp) hd ao.Oc fun d h=> .inl h)
    | some b=>
    simp only at h
    have qk:=X1 mg
    have hy:yielded ops a.tmps g=some b:=by
     unfold yielded
     rw[lu]
     simp only[Option.bind_some,Ob hA qk]
    simp only[Region.wanted,hg,hy]
    by_cases hb:b=want
    ·subst hb
     simp only[beq_self_eq_true,cond_true] at h
     simp only[beq_self_eq_true,dj]
     exact .inl (go h rfl)
    ·have h1:(b==want)=false:=by simp[hb]
     have U:(some b==some want)=false:=by simp[hb]
     rw[h1] at h
     simp only[cond_false] at h
     injection h with h
     injection h with h3 h4
     subst h3
     simp only[U,Bool.false_eq_true,gb]
     exact hK _ w I β (Le.refl w I β st.hp) S (Ig (ds:=a.defers) hA (Le.refl w I β st.hp) hd ao.Oc fun d h=> .inl h)
def tM (hp hp':Nat→Option an) (c:Nat):Prop:=hp' c=hp c∧(KB≤c→fP (hp' (c-KB))=fP (hp (c-KB)))
theorem tM.symm {c:Nat} (h:tM hp hp' c):tM hp' hp c:=⟨h.1.symm,fun hc=>(h.2 hc).symm⟩
theorem r0 {α:Type}: ∀{p:Rd α} {r:α} {rd:List Nat},p.run C hp=some (r,rd)→(∀id∈rd,tM hp hp' id)→p.run C hp'=some (r,rd)
 | .ret a,r,rd,h,_=>h
 | .fail,r,rd,h,_=>by cases h
 | .get id k,r,rd,h,he=>by
  obtain ⟨x,h1,U⟩:=bind_some h
  cases U
  have e1:hp' id=hp id:=(he id (by simp)).1
  have:=r0 (p:=k (hp id)) (r:=x.1) (rd:=x.2) h1 (fun i hi=>he i (by simp[hi]))
  simp only[Rd.run,e1,this,Option.bind_some]
 | .live id ok k,r,rd,h,he=>by
  simp only[Rd.run] at h⊢
  cases hk:ok (fP (hp id)) with
  | false=>rw[hk] at h;cases h
  | true=>
   rw[hk] at h
   obtain ⟨x,h1,U⟩:=bind_some h
   cases U
   have e1:fP (hp' id)=fP (hp id):=by
    have:=(he (id+KB) (by simp)).2 (Nat.le_add_left _ _)
    rwa [ve] at this
   have:=r0 (p:=k) (r:=x.1) (rd:=x.2) h1 (fun i hi=>he i (by simp[hi]))
   rw[e1,hk,this]
   rfl
 | .opt o k,r,rd,h,he=>by
  obtain ⟨x,h1,U⟩:=bind_some h
  simp only[Rd.run,h1,Option.bind_some]
  exact r0 U he
 | .aB b k,r,rd,h,he=>by
  obtain ⟨h1,U⟩:=aF h
  simp only[Rd.run,h1,cond_true]
  exact r0 U he
 | .call key ds k,r,rd,h,he=>by
  obtain ⟨x,h1,U⟩:=bind_some h
  simp only[Rd.run,h1,Option.bind_some]
  exact r0 U he
 | .alt true x y,r,rd,h,he=>r0 (p:=x) h he
 | .alt false x y,r,rd,h,he=>r0 (p:=y) h he
theorem X4 {G:Nat→V} {sl sl':Nat→V} {t:TypeId} {x:Operand} (h: ∀k,x= .tmp k→sl k=sl' k):aO P G t sl x=aO P G t sl' x:=by
 cases x with
 | tmp k=>exact h k rfl
 | _=>rfl
theorem X5 {sl sl':Nat→V} {ix nb:Nat} {o:Oper} (h: ∀x∈o.op.operands,∀k,x= .tmp k→sl k=sl' k):fg P A sl ix nb o=fg P A sl' ix nb o:=by
 have eK: ∀t x,x∈o.op.operands→aO P A.aD t sl x=aO P A.aD t sl' x:=fun t x hx=>X4 (h x hx)
 obtain ⟨dst,op,ty,pos,after,guard⟩:=o
 have Oe: ∀(t:TypeId) (ps:Array (Nat × Operand)),(∀x∈ps.map (·.2),aO P A.aD t sl x=aO P A.aD t sl' x)→
   (ps.toList.map fun p=>(p.1,aO P A.aD t sl p.2))=ps.toList.map fun p=>(p.1,aO P A.aD t sl' p.2):=fun t ps hp=>
  ry fun p hm=>by rw[hp p.2 (Array.mem_map.2 ⟨p,oO.1 hm,rfl⟩)]
 have X6: ∀(t:TypeId) (ps:Array (Nat × Operand)),(∀x∈ps.map (·.2),aO P A.aD t sl x=aO P A.aD t sl' x)→
   (ps.toList.map fun p=>(aO P A.aD t sl p.2).cells)=ps.toList.map fun p=>(aO P A.aD t sl' p.2).cells:=fun t ps hp=>
  ry fun p hm=>by rw[hp p.2 (Array.mem_map.2 ⟨p,oO.1 hm,rfl⟩)]
 cases op<;>simp only[Op.operands] at eK<;>simp only[fg]
 case pick c x y=>rw[eK ty c (by simp),eK ty x (by simp),eK ty y (by simp)]
 case build t ps=>rw[Oe ty ps fun x hx=>eK ty x (by simpa using hx),X6 ty ps fun x hx=>eK ty x (by simpa using hx)]
 case buildSlice t len ps=>
  split
  ·rename_i e _
   rw[Oe e ps fun x hx=>eK e x (by simpa using hx)]
  ·rfl
 case slice t x lo hi mx=>
  cases mx with
  | some m=>
   have e1:lo.map (aO P A.aD 0 sl)=lo.map (aO P A.aD 0 sl'):=by
    cases lo with
    | none=>rfl
    | some l=>simp only[Option.map_some,eK 0 l (by simp)]
   have e2:hi.map (aO P A.aD 0 sl)=hi.map (aO P A.aD 0 sl'):=by
    cases hi with
    | none=>rfl
    | some l=>simp only[Option.map_some,eK 0 l (by simp)]
   have e3:=eK 0 m (by simp)
   simp only[eK ty x (by simp),e1,e2,e3]
  | none=>
   have e1:lo.map (aO P A.aD 0 sl)=lo.map (aO P A.aD 0 sl'):=by
    cases lo with
    | none=>rfl
    | some l=>simp only[Option.map_some,eK 0 l (by simp)]
   have e2:hi.map (aO P A.aD 0 sl)=hi.map (aO P A.aD 0 sl'):=by
    cases hi with
    | none=>rfl
    | some l=>simp only[Option.map_some,eK 0 l (by simp)]
   simp only[eK ty x (by simp),e1,e2]
 case call c=>
  obtain ⟨callee,args,argTypes⟩:=c
  have tN: ∀t x,x∈args→aO P A.aD t sl x=aO P A.aD t sl' x:=fun t x hx=>eK t x (by simp[Call.operands,hx])
  have hl: ∀t (l:List Operand),(∀x∈l,x∈args)→l.map (aO P A.aD t sl)=l.map (aO P A.aD t sl'):=fun t l hl=>ry fun x hx=>tN t x (hl x hx)
  have hz:((args.toList.zip argTypes.toList).map fun p=>aO P A.aD p.2 sl p.1)=(args.toList.zip argTypes.toList).map fun p=>aO P A.aD p.2 sl' p.1:=
   ry fun p hp=>tN p.2 p.1 (oO.1 (List.of_mem_zip hp).1)
  cases callee with
  | invoke r m=>rfl
  | builtin b=>
   have cb: ∀x∈args.toList,∀t,aO P A.aD t sl x=aO P A.aD t sl' x:=fun x hx t=>tN t x (oO.1 hx)
   have Ii: ∀t (l:List Operand),(∀x∈l,∀t,aO P A.aD t sl x=aO P A.aD t sl' x)→l.map (aO P A.aD t sl)=l.map (aO P A.aD t sl'):=fun t l h=>ry fun x hx=>h x hx t
   cases b<;>first|rfl|skip
   case append=>
    dsimp only
    generalize args.toList=al at cb
    match al,cb,argTypes.toList with
    | [s,x],cb,[t,u]=>simp only[cb s (by simp),cb x (by simp)]
    | [],_,_=>rfl
    | [_],_,_=>rfl
    | _::_::_::_,_,_=>rfl
    | [_,_],_,[]=>rfl
    | [_,_],_,[_]=>rfl
    | [_,_],_,_::_::_::_=>rfl
   case copy=>
    dsimp only
    generalize args.toList=al at cb
    match al,cb,argTypes.toList with
    | [s,x],cb,[t,u]=>simp only[cb s (by simp),cb x (by simp)]
    | [],_,_=>rfl
    | [_],_,_=>rfl
    | _::_::_::_,_,_=>rfl
    | [_,_],_,[]=>rfl
    | [_,_],_,[_]=>rfl
    | [_,_],_,_::_::_::_=>rfl
   case len=>
    dsimp only
    generalize args.toList=al at cb
    match al,cb,argTypes.toList with
    | [x],cb,[t]=>simp only[cb x (by simp)]
    | [],_,_=>rfl
    | _::_::_,_,_=>rfl
    | [_],_,[]=>rfl
    | [_],_,_::_::_=>rfl
   case clear=>
    dsimp only
    generalize args.toList=al at cb
    match al,cb,argTypes.toList with
    | [x],cb,[t]=>simp only[cb x (by simp)]
    | [],_,_=>rfl
    | _::_::_,_,_=>rfl
    | [_],_,[]=>rfl
    | [_],_,_::_::_=>rfl
   case unsafeSliceData=>
    dsimp only
    generalize args.toList=al at cb
    match al,cb with
    | [],_=>rfl
    | [x],cb=>simp only[cb x (by simp)]
    | _::_::_,_=>rfl
   case unsafeString=>
    dsimp only
    generalize args.toList=al at cb
    match al,cb,argTypes.toList with
    | [s,x],cb,[t,u]=>simp only[cb s (by simp),cb x (by simp)]
    | [],_,_=>rfl
    | [_],_,_=>rfl
    | _::_::_::_,_,_=>rfl
    | [_,_],_,[]=>rfl
    | [_,_],_,[_]=>rfl
    | [_,_],_,_::_::_::_=>rfl
   case max=>
    dsimp only
    generalize args.toList=al at cb
    match al,cb with
    | [],_=>rfl
    | x::l,cb=>simp only[cb x (by simp),Ii ty l (fun y hy=>cb y (by simp[hy]))]
   case min=>
    dsimp only
    generalize args.toList=al at cb
    match al,cb with
    | [],_=>rfl
    | x::l,cb=>simp only[cb x (by simp),Ii ty l (fun y hy=>cb y (by simp[hy]))]
  | value f=>
   cases f<;>first|rfl|skip
   ·rename_i t
    have ht:sl t=sl' t:=h (.tmp t) (by simp[Op.operands,Call.operands]) t rfl
    simp only[hz,ht]
   ·simp only[hz]
    cases hx:args.toList with
    | nil=>rfl
    | cons x l=>
     cases l with
     | cons _ _=>rfl
     | nil=>simp only[tN ty x (oO.1 (by rw[hx];simp))]
 case defer c=>
  obtain ⟨callee,args,argTypes⟩:=c
  cases callee with
  | invoke r m=>rfl
  | builtin b=>rfl
  | value f=>
   cases f<;>first|rfl|skip
   rename_i t
   have ht:sl t=sl' t:=h (.tmp t) (by simp[Op.operands,Call.operands]) t rfl
   simp only[ht]
 case makeFunc fn a b=>
  cases fn<;>first|rfl|skip
  have e1:a.toList.map (aO P A.aD ty sl)=a.toList.map (aO P A.aD ty sl'):=ry fun x hx=>eK ty x (by simp[oO.1 hx])
  have e2:b.toList.map (aO P A.aD ty sl)=b.toList.map (aO P A.aD ty sl'):=ry fun x hx=>eK ty x (by simp[oO.1 hx])
  dsimp only
  rw[e1,e2]
 case makeMap t r=>cases r<;>rfl
 all_goals first
  | rfl
  | (simp[eK];done)
end
section
variable {P:Program} {A:cB} {w w':World} {I I' I2:Nat→Prop} {μ β β':Nat→Option Nat} {hp hp':Nat→Option an} {C:ag} {B:Nat} {M:Nat→Prop} {w0:Start}
theorem Ij {q:Nat × an} {upd:List (Nat × an)} (h:q∈upd):q.1∈fx hp upd:=by
 unfold fx
 rw[List.mem_flatMap]
 refine ⟨q,h,?_⟩
 cases Nat.beq (fP (hp q.1)) (fP (some q.2))<;>simp
theorem X7 {upd:List (Nat × an)} (h: ∀q∈upd,fP (hp' q.1)=fP (hp q.1)):fx hp' upd=fx hp upd:=by
 unfold fx
 induction upd with
 | nil=>rfl
 | cons q l ih=>
  rw[mM,mM,ih fun x hx=>h x (kX _ hx),h q (by simp)]
theorem Of {c:Nat}: ∀{upd:List (Nat × an)},c∉fx hp upd→tM hp (bG hp upd) c:=fun {upd} h=>by
 refine ⟨wg fun q hq e=>h (e▸Ij hq),fun hc=> ?_⟩
 induction upd with
 | nil=>rfl
 | cons q l ih=>
  have hl:c∉fx hp l:=fun hx=>h (by unfold fx at*;rw[mM];exact List.mem_append_right _ hx)
  have hq:fP (hp q.1)=fP (some q.2)∨c≠q.1+KB:=by
   cases hb:Nat.beq (fP (hp q.1)) (fP (some q.2)) with
   | true=>exact .inl (yn hb)
   | false=>
    refine .inr fun e=>h ?_
    unfold fx
    rw[mM,hb,e]
    simp
  show fP (aG (bG hp l) q.1 (some q.2) (c-KB))=_
  simp only[aG]
  cases hb:Nat.beq (c-KB) q.1 with
  | false=>exact ih hl
  | true=>
   have e:=yn hb
   rcases hq with hq|hq
   ·rw[cond_true,e];exact hq.symm
   ·exact absurd (by omega) hq
theorem Og {n i nb:Nat} {ops:Array Oper} {o:Oper} {st st':St} {R W:List Nat} (h:gD P A C n ops i o nb st=some (st',R,W)):
  ∃x upd,st'=⟨gV st.sl o.dst x,bG st.hp upd,st.nb⟩∧W=fx st.hp upd∧∀dO:St,(∀d∈o.looksAt ops,dO.sl d=st.sl d)→(∀id∈R,tM st.hp dO.hp id)→
   gD P A C n ops i o nb dO=some (⟨gV dO.sl o.dst x,bG dO.hp upd,dO.nb⟩,R,W)∧W=fx dO.hp upd:=by
 unfold gD at h
 cases hd:rJ o n with
 | false=>rw[hd] at h;cases h
 | true=>
  rw[hd] at h
  simp only[cond_true] at h
  have go:(((fg P A st.sl i (nb+64*i) o).run C st.hp).bind fun r=>some ((⟨gV st.sl o.dst r.1.v,bG st.hp r.1.upd,st.nb⟩:St),p5 r.2 r.1.upd,fx st.hp r.1.upd))=some (st',R,W)→
    ∃x upd,st'=⟨gV st.sl o.dst x,bG st.hp upd,st.nb⟩∧W=fx st.hp upd∧∀dO:St,(∀d∈o.looksAt ops,dO.sl d=st.sl d)→(∀id∈R,tM st.hp dO.hp id)→
     (((fg P A dO.sl i (nb+64*i) o).run C dO.hp).bind fun r=>some ((⟨gV dO.sl o.dst r.1.v,bG dO.hp r.1.upd,dO.nb⟩:St),p5 r.2 r.1.upd,fx dO.hp r.1.upd))=some (⟨gV dO.sl o.dst x,bG dO.hp upd,dO.nb⟩,R,W)∧W=fx dO.hp upd:=by
   intro h
   obtain ⟨⟨r,rd⟩,h1,U⟩:=bind_some h
   cases U
   refine ⟨r.v,r.upd,rfl,rfl,fun dO hs hh=> ?_⟩
   have hw:fx dO.hp r.upd=fx st.hp r.upd:=X7 fun q hq=>by
    have:=(hh (q.1+KB) (List.mem_append_right _ (gz.2 ⟨q,hq,rfl⟩))).2 (Nat.le_add_left _ _)
    rwa [ve] at this
   rw[X5 (sl':=st.sl) fun x hx k hk=> ?_,r0 h1 fun c hc=>hh c (List.mem_append_left _ hc)]
   ·refine ⟨?_,hw.symm⟩
    rw[Option.bind_some,hw]
   ·subst hk
    exact hs k (List.mem_append_left _ (List.mem_filterMap.2 ⟨.tmp k,by simpa using hx,rfl⟩))
  cases hg:o.guard with
  | none=>
   rw[hg] at h
   obtain ⟨x,upd,e1,e2,e3⟩:=go h
   refine ⟨x,upd,e1,e2,fun dO hs hh=> ?_⟩
   unfold gD
   simp only[hd,cond_true,hg]
   exact e3 dO hs hh
  | some gw=>
   obtain ⟨g,want⟩:=gw
   rw[hg] at h
   simp only at h
   cases lu:(ops[g]?).bind (·.dst) with
   | none=>rw[lu] at h;cases h
   | some d=>
    rw[lu] at h
    simp only at h
    have Ik:d∈o.looksAt ops:=List.mem_append_right _ (by rw[hg];simp[lu])
    cases mg:kZ (st.sl d) with
    | none=>rw[mg] at h;cases h
    | some ob=>
    rw[mg] at h
    cases ob with
    | none=>
     injection h with h
     injection h with h3 h4
     injection h4 with h5 h6
     subst h5;subst h6
     refine ⟨.bd [],[],h3.symm,rfl,fun dO hs hh=> ?_⟩
     unfold gD
     simp only[hd,cond_true,hg,lu,hs d Ik,mg]
     exact ⟨rfl,rfl⟩
    | some b=>
    simp only at h
    cases hb:b==want with
    | true=>
     rw[hb] at h
     obtain ⟨x,upd,e1,e2,e3⟩:=go h
     refine ⟨x,upd,e1,e2,fun dO hs hh=> ?_⟩
     unfold gD
     simp only[hd,cond_true,hg,lu,hs d Ik,mg,hb]
     exact e3 dO hs hh
    | false=>
     rw[hb] at h
     simp only[cond_false] at h
     injection h with h
     injection h with h3 h4
     injection h4 with h5 h6
     subst h5;subst h6
     refine ⟨.bd [],[],h3.symm,rfl,fun dO hs hh=> ?_⟩
     unfold gD
     simp only[hd,cond_true,hg,lu,hs d Ik,mg,hb,cond_false]
     exact ⟨rfl,rfl⟩
theorem Oh {sl:Nat→V} {d:Option Nat} {x:V} {k:Nat} (h:d≠some k):gV sl d x k=sl k:=by
 cases d with
 | none=>rfl
 | some d=>exact dV _ _ fun e=>h (by rw[e])
theorem X8 {hp:Nat→Option an} {a b:List (Nat × an)} (h: ∀q∈a,∀q'∈b,q.1≠q'.1):bG (bG hp a) b=bG (bG hp b) a:=by
 funext id
 by_cases ha: ∃q∈a,q.1=id
 ·have hb: ∀q∈b,q.1≠id:=by
   obtain ⟨q,hq,rfl⟩:=ha
   exact fun q' zL e=>h q hq q' zL e.symm
  rw[wg hb]
  obtain ⟨q,hq,rfl⟩:=ha
  have same: ∀(bp gF:Nat→Option an) (l:List (Nat × an)) (q:Nat × an),q∈l→bG bp l q.1=bG gF l q.1:=by
   intro bp gF l
   induction l with
   | nil=>intro q hq;simp at hq
   | cons p l ih=>
    intro q hq
    simp only[bG,aG]
    cases hb:Nat.beq q.1 p.1 with
    | true=>rfl
    | false=>
     simp only[cond_false]
     refine ih q ((dg.1 hq).resolve_left fun e=> ?_)
     rw[e,jo] at hb;cases hb
  exact same _ _ a q hq
 ·rw[wg (hp:=bG hp b) (l:=a) fun q hq e=>ha ⟨q,hq,e⟩]
  have same: ∀(bp gF:Nat→Option an) (l:List (Nat × an)),bp id=gF id→bG bp l id=bG gF l id:=by
   intro bp gF l he
   induction l with
   | nil=>exact he
   | cons p l ih=>
    simp only[bG,aG]
    cases hb:Nat.beq id p.1 with
    | true=>rfl
    | false=>exact ih
  exact same _ _ b (wg fun q hq e=>ha ⟨q,hq,e⟩)
structure Oi (ops:Array Oper) (o1 o2:Oper) (R1 W1 R2 W2:List Nat):Prop where
 apart:Oper.apart ops o1 o2=true
 w: ∀id∈W1,id∉R2∧id∉W2
 r: ∀id∈R1,id∉W2
theorem X9 {n i j nb:Nat} {ops:Array Oper} {o1 o2:Oper} {st iJ dO:St} {R1 W1 R2 W2:List Nat} (h1:gD P A C n ops i o1 nb st=some (iJ,R1,W1)) (U:gD P A C n ops j o2 nb iJ=some (dO,R2,W2))
  (hi:Oi ops o1 o2 R1 W1 R2 W2): ∃DJ,gD P A C n ops j o2 nb st=some (DJ,R2,W2)∧gD P A C n ops i o1 nb DJ=some (dO,R1,W1):=by
 obtain ⟨x1,u1,e1,f1,g1⟩:=Og h1
 obtain ⟨x2,u2,e2,f2,g2⟩:=Og U
 obtain ⟨a1,a2,a3⟩:=Oper.apart_spec hi.apart
 subst e1
 have k2:=g2 st (fun d hd=>by simp only;rw[Oh fun e=>a1 d e hd]) fun c hc=>(Of fun hw=>(hi.w c (by rw[f1];exact hw)).1 hc).symm
 refine ⟨_,k2.1,?_⟩
 rw[(g1 _ (fun d hd=> ?_) (fun c hd=> ?_)).1,e2]
 ·congr 3
  ·funext k
   cases DK:o1.dst with
   | none=>rfl
   | some d1=>
    cases iB:o2.dst with
    | none=>rfl
    | some d2=>
     have bu:d2≠d1:=fun e=>a2 d1 DK (by rw[iB,e])
     simp only[gV,aG]
     cases Oj:Nat.beq k d1<;>cases mh:Nat.beq k d2<;>simp only[cond_true,cond_false]
     rw[aR] at Oj mh
     exact absurd (mh.symm.trans Oj) bu
  ·exact (X8 fun q hq q' zL e=>(hi.w q.1 (by rw[f1];exact Ij hq)).2 (by rw[f2,e];exact Ij zL)).symm
 ·simp only
  rw[Oh fun e=>a3 d e hd]
 ·exact Of fun hw=>hi.r c hd (by rw[k2.2];exact hw)
def wk (P:Program) (A:cB) (C:ag) (n:Nat) (ops:Array Oper) (nb:Nat):List (Nat × Oper × List Nat × List Nat)→St→St→Prop
 | [],st,st'=>st=st'
 | (i,o,R,W)::l,st,st'=> ∃iJ,gD P A C n ops i o nb st=some (iJ,R,W)∧wk P A C n ops nb l iJ st'
def tO (x:Nat × Oper × List Nat × List Nat):Nat × List Nat × List Nat:=(x.1,x.2.2.1,x.2.2.2)
theorem Ol {n nb:Nat} {ops:Array Oper}: ∀{l:List (Nat × Oper)} {st st':St} {log DL:Log},oW P A C n ops nb l st log=some (st',DL)→
  ∃g,g.map (fun x=>(x.1,x.2.1))=l∧DL=log++g.map tO∧wk P A C n ops nb g st st'
 | [],st,st',log,DL,h=>by
  cases h
  exact ⟨[],rfl,by simp,rfl⟩
 | (i,o)::l,st,st',log,DL,h=>by
  obtain ⟨⟨iJ,R,W⟩,h1,U⟩:=bind_some h
  obtain ⟨g,a,b,c⟩:=Ol U
  exact ⟨(i,o,R,W)::g,by simp[a],by simp[b,tO],iJ,h1,c⟩
def Om (ops:Array Oper) (x y:Nat × Oper × List Nat × List Nat):Prop:=Oi ops x.2.1 y.2.1 x.2.2.1 x.2.2.2 y.2.2.1 y.2.2.2
theorem On {n nb:Nat} {ops:Array Oper} {y:Nat × Oper × List Nat × List Nat} {g2:List (Nat × Oper × List Nat × List Nat)}: ∀{g1:List (Nat × Oper × List Nat × List Nat)} {st st':St},
  wk P A C n ops nb (g1++y::g2) st st'→(∀x∈g1,Om ops x y)→∃iJ,gD P A C n ops y.1 y.2.1 nb st=some (iJ,y.2.2.1,y.2.2.2)∧wk P A C n ops nb (g1++g2) iJ st'
 | [],st,st',h,_=>h
 | x::g1,st,st',h,hi=>by
  obtain ⟨iJ,h1,U⟩:=h
  obtain ⟨dO,h3,h4⟩:=On U fun z hz=>hi z (kX _ hz)
  obtain ⟨DJ,h5,h6⟩:=X9 h1 h3 (hi x (by simp))
  exact ⟨DJ,h5,dO,h6,h4⟩
theorem Oo (hC:kJ P A C) (hP:iH P A) {n nb:Nat} {ops:Array Oper} {Q:Exit→Act→World→Prop}: ∀{g:List (Nat × Oper × List Nat × List Nat)} {st st':St} {a:Act} {w:World} {I:Nat→Prop} {β:Nat→Option Nat},
  wk P A C n ops nb g st st'→(∀x∈g,ops[x.1]? =some x.2.1)→aE P w I β st.hp B M w0→iI P A.idle A.aD w I β n a st→
  (∀a' w' I' β',Le P w I β st.hp w' I' β' st'.hp→aE P w' I' β' st'.hp B M w0→iI P A.idle A.aD w' I' β' n a' st'→Q .normal a' w')→wpOps P ops Q (g.map (·.1)) a w
 | [],st,st',a,w,I,β,h,_,S,hA,hQ=>by
  cases h
  exact hQ a w I β (Le.refl w I β _) S hA
 | x::g,st,st',a,w,I,β,h,ho,S,hA,hQ=>by
  obtain ⟨iJ,h1,U⟩:=h
  rw[cQ,wpOps_cons]
  refine Od hC hP (ho x (by simp)) S hA h1 fun a' w' I' β' k1 k2 k3=> ?_
  exact Oo hC hP U (fun y hy=>ho y (kX _ hy)) k2 k3 fun a2 w2 I2 bQ m1 m2 m3=>hQ a2 w2 I2 bQ (k1.trans m1) m2 m3
end
section
variable {P:Program} {A:cB} {w w':World} {I I' I2:Nat→Prop} {μ β β':Nat→Option Nat} {hp hp':Nat→Option an} {C:ag} {B:Nat} {M:Nat→Prop} {w0:Start}
inductive tP (ops:Array Oper):Nat→Nat→Prop
 | Oq {i x:Nat} {o:Oper} {e:Edge}:ops[i]? =some o→e∈o.after→Region.binds .any e=true→e.on=x→tP ops i x
 | trans {i x:Nat} {o:Oper} {e:Edge}:ops[i]? =some o→e∈o.after→Region.binds .any e=true→tP ops e.on x→tP ops i x
theorem Ot {acc:Array Nat} {x:Nat}: ∀{l:List Edge} {s:Nat},(l.foldl (fun s e=>if Region.binds .any e then s|||2^e.on|||acc.getD e.on 0 else s) s).testBit x=true→
  s.testBit x=true∨∃e∈l,Region.binds .any e=true∧(e.on=x∨(acc.getD e.on 0).testBit x=true)
 | [],s,h=> .inl h
 | e::l,s,h=>by
  simp only[List.foldl_cons] at h
  rcases Ot h with h1|⟨e',a,b⟩
  ·by_cases hb:Region.binds .any e=true
   ·rw[aj hb,Nat.testBit_or,Nat.testBit_or,Bool.or_eq_true,Bool.or_eq_true] at h1
    rcases h1 with (h1|h1)|h1
    ·exact .inl h1
    ·rw[Nat.testBit_two_pow] at h1
     exact .inr ⟨e,by simp,hb,.inl (by simpa using h1)⟩
    ·exact .inr ⟨e,by simp,hb,.inr h1⟩
   ·rw[ah hb] at h1
    exact .inl h1
  ·exact .inr ⟨e',kX _ a,b⟩
theorem Ou {ops:Array Oper} {x:Nat}: ∀{l:List Oper} {acc:Array Nat},(∀j o,l[j]? =some o→ops[acc.size+j]? =some o)→(∀j,(acc.getD j 0).testBit x=true→tP ops j x)→
  ∀j,((l.foldl (fun acc o=>acc.push (o.after.foldl (fun s e=>if Region.binds .any e then s|||2^e.on|||acc.getD e.on 0 else s) 0)) acc).getD j 0).testBit x=true→tP ops j x
 | [],acc,_,DM,j,h=>DM j h
 | o::l,acc,hl,DM,j,h=>by
  simp only[List.foldl_cons] at h
  refine Ou (l:=l) ?_ ?_ j h
  ·intro j o' hj
   have:=hl (j+1) o' (by simpa using hj)
   rw[Array.size_push]
   rwa [show acc.size+1+j=acc.size+(j+1) by omega]
  ·intro k hk
   simp only[vf,Array.getElem?_push] at hk
   by_cases aZ:k=acc.size
   ·rw[aj aZ] at hk
    simp only[Option.getD_some] at hk
    rw[←B9] at hk
    have ho:=hl 0 o rfl
    rw[Nat.add_zero] at ho
    rw[aZ]
    have mh:(o.after.toList.foldl (fun s e=>if Region.binds .any e then s|||2^e.on|||acc.getD e.on 0 else s) 0).testBit x=true:=by simpa[vf] using hk
    rcases Ot mh with h0|⟨e,he,hb,h1⟩
    ·simp at h0
    ·rcases h1 with h1|h1
     ·exact .Oq ho (oO.1 he) hb h1
     ·exact .trans ho (oO.1 he) hb (DM _ h1)
   ·rw[ah aZ] at hk
    exact DM k (by simpa[vf] using hk)
theorem Ya {ops:Array Oper} {i x:Nat} (h:((Region.before ops).getD i 0).testBit x=true):tP ops i x:=by
 unfold Region.before at h
 rw[←B9] at h
 refine Ou (l:=ops.toList) (acc:= #[]) (fun j o hj=>by simpa using hj) (fun j hj=>by simp at hj) i h
def Ov (ops:Array Oper) (fC:Array Bool):Prop:= ∀i o,ops[i]? =some o→fC.getD i false=true→∀e∈o.after,Region.binds .any e=true→fC.getD e.on false=true
theorem Yb {ops:Array Oper} {fC:Array Bool} (hc:Ov ops fC) {i x:Nat} (h:tP ops i x) (hi: ∀o,ops[i]? =some o→∀e∈o.after,Region.binds .any e=true→fC.getD e.on false=true):fC.getD x false=true:=by
 induction h with
 | Oq ho he hb hx=>rw[←hx];exact hi _ ho _ he hb
 | trans ho he hb _ ih=>exact ih fun o' jb e' gI az=>hc _ o' jb (hi _ ho _ he hb) e' gI az
theorem Ow: ∀{l:List Oper} {k j:Nat} {o:Oper},yT k l=true→l[j]? =some o→∀e∈o.after,Region.binds .any e=true→e.on<k+j
 | [],k,j,o,_,h=>by simp at h
 | o'::l,k,j,o,hk,h=>by
  simp only[yT,aK] at hk
  cases j with
  | zero=>
   simp at h
   subst h
   intro e he hb
   have:=fc.1 hk.1 e (oO.2 he)
   simp[hb] at this
   omega
  | succ j=>
   intro e he hb
   have:=Ow hk.2 (j:=j) (by simpa using h) e he hb
   omega
theorem Ox {ops:Array Oper} {s7:Array Nat}: ∀{l:Log},CD ops s7 l=true→l.Pairwise fun x y=>yS ops s7 x y=true
 | [],_=> .nil
 | x::l,h=>by
  simp only[CD,aK] at h
  exact .cons (fun y hy=>fc.1 h.1 y hy) (Ox h.2)
theorem Oy {fC:Array Bool} {i:Nat} (h:fC.getD i true=false):i<fC.size∧fC.getD i false=false:=by
 rcases oN i fC.size with h'|h'
 ·refine ⟨h',?_⟩
  simpa[h'] using h
 ·simp[Array.getElem?_eq_none h'] at h
theorem Oz (hC:kJ P A C) (hP:iH P A) {n nb:Nat} {ops:Array Oper} {Q:Exit→Act→World→Prop} (DN:yT 0 ops.toList=true):
  ∀(fuel:Nat) {g:List (Nat × Oper × List Nat × List Nat)} {fC:Array Bool} {st st':St} {a:Act} {w:World} {I:Nat→Prop} {β:Nat→Option Nat},
  g.length=fuel→wk P A C n ops nb g st st'→(∀x∈g,ops[x.1]? =some x.2.1)→(g.map (·.1)).Pairwise (· < ·)→(g.map tO).Pairwise (fun x y=>yS ops (Region.before ops) x y=true)→
  fC.size=ops.size→(∀i,i<ops.size→(fC.getD i false=false↔i∈g.map (·.1)))→Ov ops fC→
  aE P w I β st.hp B M w0→iI P A.idle A.aD w I β n a st→
  (∀a' w' I' β',Le P w I β st.hp w' I' β' st'.hp→aE P w' I' β' st'.hp B M w0→iI P A.idle A.aD w' I' β' n a' st'→Q .normal a' w')→wpAny P .any ops Q fuel fC a w
 | 0,g,fC,st,st',a,w,I,β,hf,hr,ho,aP,DO,aU,tQ,kH,S,hA,hQ=>by
  obtain rfl:g=[]:=kW hf
  cases hr
  refine ⟨?_,hQ a w I β (Le.refl w I β _) S hA⟩
  rw[List.eq_nil_iff_forall_not_mem]
  intro i hi
  obtain ⟨h0,_⟩:=mem_ready.1 hi
  obtain ⟨h1,U⟩:=Oy h0
  have:=(tQ i (by omega)).1 U
  simp at this
 | fuel+1,g,fC,st,st',a,w,I,β,hf,hr,ho,aP,DO,aU,tQ,kH,S,hA,hQ=>by
  refine ⟨fun zN=> ?_,fun i hi=> ?_⟩
  ·exfalso
   cases g with
   | nil=>simp at hf
   | cons x g=>
    have hx:=ho x (by simp)
    have gk:x.1<ops.size:=(gS.1 hx).1
    have lk:x.1∈Region.ready .any ops fC:=by
     rw[mem_ready]
     have h0:=(tQ x.1 gk).2 (by simp)
     refine ⟨?_,x.2.1,hx,fun e he hb=> ?_⟩
     ·have hl:x.1<fC.size:=by omega
      simpa[hl] using h0
     ·have HB:=Ow DN (j:=x.1) (by simpa using hx) e he hb
      rw[ga] at HB
      cases hle:fC.getD e.on false with
      | true=>rfl
      | false=>
       have hm:=(tQ e.on (by omega)).1 hle
       simp only[cQ,dg] at hm
       rw[cQ,sS] at aP
       rcases hm with hm|hm
       ·omega
       ·have:=aP.1 _ hm;omega
    rw[zN] at lk
    cases lk
  ·obtain ⟨h0,oi,zP,OA⟩:=mem_ready.1 hi
   obtain ⟨h1,U⟩:=Oy h0
   have Yc:=(tQ i (by omega)).1 U
   obtain ⟨y,hy,Yd⟩:=gz.1 Yc
   obtain ⟨g1,g2,rfl⟩:=List.append_of_mem hy
   subst Yd
   have OB:=ho y hy
   rw[zP] at OB
   have OC:oi=y.2.1:=cY OB
   have j7:((g1++y::g2).map (·.1)).Nodup:=aP.imp fun h=>Nat.ne_of_lt h
   have Ye: ∀x∈g1,Om ops x y:=by
    intro x hx
    have hp:yS ops (Region.before ops) (tO x) (tO y)=true:=by
     rw[gf,cQ,List.pairwise_append] at DO
     exact DO.2.2 _ (gz.2 ⟨x,hx,rfl⟩) _ (by simp)
    have Il:=ho x (ei.2 (.inl hx))
    unfold yS at hp
    rw[Bool.or_eq_true] at hp
    rcases hp with hp|hp
    ·have hl:=Yb kH (Ya hp) fun o jb e he hb=>by
      have:o=oi:=by
       have h3:ops[y.1]? =some o:=jb
       rw[zP] at h3
       exact (cY h3).symm
      subst this
      exact OA e he hb
     have gk:x.1<ops.size:=(gS.1 Il).1
     have:=(tQ x.1 gk).2 (gz.2 ⟨x,ei.2 (.inl hx),rfl⟩)
     rw[show (tO x).1=x.1 from rfl,this] at hl
     cases hl
    ·simp only[tO,vf,Il,zP,Option.getD_some,aK,lO] at hp
     obtain ⟨q1,q2,q3⟩:=hp
     refine ⟨OC▸q1,fun id ab=> ?_,fun id ab=>DC q3 ab⟩
     have:=DC q2 ab
     rw[ei] at this
     exact ⟨fun h=>this (.inl h),fun h=>this (.inr h)⟩
   obtain ⟨iJ,iz,nc⟩:=On hr Ye
   rw[←OC] at iz
   refine Od hC hP zP S hA iz fun a' w' I' β' k1 k2 k3=> ?_
   have j4:List.Sublist (g1++g2) (g1++y::g2):=List.Sublist.append_left (List.sublist_cons_self y g2) g1
   have s9: ∀j,j≠y.1→(fC.setIfInBounds y.1 true).getD j false=fC.getD j false:=fun j hj=>getD_set_ne false (Ne.symm hj)
   refine Oz hC hP DN fuel (g:=g1++g2) (st':=st') ?_ nc (fun x hx=>ho x (j4.subset hx)) (aP.sublist (j4.map _)) (DO.sublist (j4.map _)) (by simp[aU]) (fun j hj=> ?_) (fun j o Im b9 e he hb=> ?_) k2 k3 fun a2 w2 I2 bQ m1 m2 m3=>hQ a2 w2 I2 bQ (k1.trans m1) m2 m3
   ·simp at hf⊢;omega
   ·by_cases o6:j=y.1
    ·subst o6
     have hl:y.1<fC.size:=by omega
     simp only[vf,Gu hl,Option.getD_some]
     refine ⟨fun h=>(by cases h),fun h=> ?_⟩
     exfalso
     rw[gf,cQ,Cf,List.nodup_cons] at j7
     rw[gf,ei] at h
     rcases h with h|h
     ·exact j7.2.2 _ h _ (by simp) rfl
     ·exact j7.2.1.1 h
    ·rw[s9 j o6,tQ j hj]
     simp only[gf,cQ,ei,dg]
     constructor
     ·rintro (h|h|h)
      ·exact .inl h
      ·exact absurd h o6
      ·exact .inr h
     ·rintro (h|h)
      ·exact .inl h
      ·exact .inr (.inr h)
   ·by_cases o6:j=y.1
    ·subst o6
     rw[zP] at Im
     cases Im
     exact getD_set_true (OA e he hb)
    ·rw[s9 j o6] at b9
     exact getD_set_true (kH j o Im b9 e he hb)
end
section
variable {P:Program} {A:cB} {w w':World} {I I' I2:Nat→Prop} {μ β β':Nat→Option Nat} {hp hp':Nat→Option an} {C:ag} {B:Nat} {M:Nat→Prop} {w0:Start}
theorem OD: ∀{l:List Oper} {k j:Nat},(nZ k l)[j]? =(l[j]?).map fun o=>(k+j,o)
 | [],k,j=>by simp[nZ]
 | o::l,k,0=>by simp[nZ]
 | o::l,k,j+1=>by
  simp only[nZ,List.getElem?_cons_succ,OD]
  congr 1
  funext o
  rw[show k+1+j=k+(j+1) by omega]
theorem OE: ∀{l:List Oper} {k:Nat},(nZ k l).map (·.1)=List.range' k l.length
 | [],k=>rfl
 | o::l,k=>by simp[nZ,OE,List.range'_succ]
theorem Yf (hC:kJ P A C) (hP:iH P A) (hm:P.follows .mixedOrders=true) {n id:Nat} {ops:Array Oper} {draw:Bool} {st st':St} {a:Act} {Q:Exit→Act→World→Prop}
  (h:yV P A C n ops draw st=some st') (S:aE P w I β st.hp B M w0) (hA:iI P A.idle A.aD w I β n a st)
  (hQ: ∀a' w' I' β',Le P w I β st.hp w' I' β' st'.hp→aE P w' I' β' st'.hp B M w0→iI P A.idle A.aD w' I' β' n a' st'→Q .normal a' w'):(Code.region id ops draw).wp P Q a w:=by
 obtain ⟨⟨iJ,log⟩,h1,U⟩:=bind_some h
 obtain ⟨g,g1,g2,g3⟩:=Ol h1
 have DP:g.map (·.1)=List.range ops.size:=by
  have:g.map (·.1)=(g.map fun x=>(x.1,x.2.1)).map (·.1):=by simp
  rw[this,g1,OE,List.range_eq_range']
  simp
 have OF: ∀x∈g,ops[x.1]? =some x.2.1:=by
  intro x hx
  have:(x.1,x.2.1)∈nZ 0 ops.toList:=by rw[←g1];exact gz.2 ⟨x,hx,rfl⟩
  obtain ⟨j,hj⟩:=List.mem_iff_getElem?.1 this
  rw[OD] at hj
  cases ho:ops.toList[j]? with
  | none=>rw[ho] at hj;cases hj
  | some o=>
   rw[ho] at hj
   simp only[Option.map_some,ga,dI,jO] at hj
   rw[←hj.1,←hj.2]
   simpa using ho
 cases draw with
 | false=>
  simp only[sU,Bool.true_or,cond_true] at U
  cases U
  refine wp_region ?_
  rw[←DP]
  exact Oo hC hP g3 OF S hA hQ
 | true=>
  simp only[pN,Bool.false_or] at U
  cases hc:(Region.noSelect ops&&yU ops log) with
  | false=>rw[hc] at U;cases U
  | true=>
   rw[hc] at U
   cases U
   simp only[aK,yU] at hc
   obtain ⟨hns,DN,Yg⟩:=hc
   simp only[List.nil_append] at g2
   refine wp_region_any hm ?_
   have hlen:g.length=ops.size:=by
    have:=congrArg List.length DP
    simpa using this
   refine Oz hC hP DN ops.size (g:=g) (st':=st') hlen g3 OF (by rw[DP];exact List.pairwise_lt_range) (by rw[←g2];exact Ox Yg) (by simp) (fun i hi=> ?_) (fun i o ho hl=> ?_)
    (w:=w.drew) S.drew ⟨fun k=>(hA.sl k).mono (Le.drew w I β _),hA.size,hA.defers,hA.aD.mono (Le.drew (P:=P) w I β st.hp).c9 (Le.drew (P:=P) w I β st.hp).b8⟩ fun a' w' I' β' k1 k2 k3=>hQ a' w' I' β' ((Le.drew w I β _).trans k1) k2 k3
   ·rw[DP]
    simp[hi]
   ·have hi:=(gS.1 ho).1
    simp[hi] at hl
end
section
variable {P:Program} {A:cB} {E:FuncId→Bool} {G:Nat→V} {w w':World} {I I' I2:Nat→Prop} {μ β β':Nat→Option Nat} {hp hp':Nat→Option an} {C:ag} {B:Nat} {M:Nat→Prop} {w0:Start}
theorem tR: ∀{l:List Nat} {hp:Nat→Option an} {I:Nat→Prop},aE P w I β hp B M w0→∃I',Le P w I β hp w I' β (s6 hp l)∧aE P w I' β (s6 hp l) B M w0
 | [],hp,I,S=>⟨I,Le.refl w I β hp,S⟩
 | id::l,hp,I,S=>by
  simp only[s6]
  cases ab:hp id with
  | none=>exact tR S
  | some blk=>
   cases blk with
   | dead=>exact tR S
   | var _=>exact tR S
   | map _ _=>exact tR S
   | arr e es fz=>
    obtain ⟨h1,U⟩:=y9 S (upd:=[(id,.arr e es true)]) (fun p hp=>by
     simp only[dX] at hp
     subst hp
     exact ⟨e,es,rfl,.inl ⟨fz,ab⟩⟩)
    obtain ⟨I',h3,h4⟩:=tR (l:=l) U
    exact ⟨I',h1.trans h3,h4⟩
   | nest e es aq=>
    obtain ⟨h1,U⟩:=y9 S (upd:=[(id,.arr e es true)]) (fun p hp=>by
     simp only[dX] at hp
     subst hp
     exact ⟨e,es,rfl,.inr ⟨aq,ab⟩⟩)
    obtain ⟨I',h3,h4⟩:=tR (l:=l) U
    exact ⟨I',h1.trans h3,h4⟩
theorem OG {n m:Nat} {pur:List Nat} {a:Act} {st:St} (S:aE P w I β st.hp B M w0) (hA:iI P E G w I β n a st):
  ∃I',Le P w I β st.hp w I' β (freeze m pur st).hp∧aE P w I' β (freeze m pur st).hp B M w0∧iI P E G w I' β n a (freeze m pur st):=by
 obtain ⟨I',h1,U⟩:=tR (l:=(L8 st pur).filter fun id=>Nat.ble m id) S
 exact ⟨I',h1,U,fun k=>(hA.sl k).mono h1,hA.size,hA.defers,hA.aD.mono h1.c9 h1.b8⟩
structure wm (hp:Nat→Option an) (β:Nat→Option Nat) (ord:List Nat) (hp':Nat→Option an) (β':Nat→Option Nat):Prop where
 arr: ∀(j:Nat) id e es fz,ord[j]? =some id→hp id=some (.arr e es fz)→hp' j=some (.arr e es fz)
 var: ∀(j:Nat) id T cs,ord[j]? =some id→hp id=some (.var T cs)→∃hU,hp' j=some (.var T hU)
 dead: ∀(j:Nat) id,ord[j]? =some id→hp id=some .dead→hp' j=some .dead
 place: ∀(j:Nat) id,ord[j]? =some id→β' j=β id
 nest: ∀(j:Nat) id e es aq,ord[j]? =some id→hp id=some (.nest e es aq)→hp' j=some (.nest e es (aq.map fun _=>0))
 map: ∀(j:Nat) id t es,ord[j]? =some id→hp id=some (.map t es)→hp' j=some (.map t es)
theorem ly: ∀{l:List Nat} {n i j:Nat},gW l n i=some j→∃k,j=i+k∧l[k]? =some n
 | [],n,i,j,h=>by cases h
 | a::l,n,i,j,h=>by
  simp only[gW] at h
  cases hb:Nat.beq n a with
  | true=>
   rw[hb] at h
   cases h
   rw[aR] at hb
   exact ⟨0,rfl,by rw[hb];rfl⟩
  | false=>
   rw[hb] at h
   obtain ⟨k,h1,U⟩:=ly h
   exact ⟨k+1,by omega,by simpa using U⟩
def kK (hp':Nat→Option an) (β':Nat→Option Nat) (n:Nat) (bs:List an):Prop:=
 ∀(k:Nat) b,bs[k]? =some b→hp' (n+k)=some b∧β' (n+k)=none
theorem Io: ∀(aq:List Nat) (k:Nat),bA (aq.map fun _=>0) k=0
 | [],_=>rfl
 | _::_,0=>rfl
 | _::vs,k+1=>Io vs k
theorem OH {e:TypeId} {es:List V} {aq:List Nat} {path:Path} {ver:Nat} (hc:(Nat.blt 0 path.length&&(Nat.ble path.length aq.length&&Nat.beq (bA aq (path.length-1)) ver))=true)
  (h:(an.nest e es aq).ta path ver):False:=by
 simp only[aK,jN,dP,aR] at hc
 obtain ⟨h1,U,h3⟩:=hc
 rcases h with h|h|h
 ·subst h;simp at h1
 ·omega
 ·omega
theorem OI (S:aE P w I β hp B M w0) {ord:List Nat} (hR:wm hp β ord hp' β') {v:Value} {x:V} (hv:ao P w I β hp v x):ao P w I β' hp' v (gX hp ord x):=by
 cases hv with
 | undef=>exact .undef
 | int=>exact .int
 | bool=>exact .bool
 | str h=>exact .str h
 | list h=>exact .list h
 | nilS=>exact .nilS
 | agg=>exact .undef
 | bd=>exact .undef
 | c8=>exact .c8
 | fn=>exact .undef
 | pref a b c=>exact .pref a b c
 | @dS _ e id ab=>
  simp only[gX]
  cases bp:gW ord id 0 with
  | none=>simp only[ab];exact .undef
  | some j=>
   obtain ⟨k,rfl,hk⟩:=ly bp
   exact .dS (hR.dead _ id (by simpa using hk) ab)
 | @fQ _ e id off len ab=>
  simp only[gX]
  cases bp:gW ord id 0 with
  | none=>simp only[ab];exact .undef
  | some j=>
   obtain ⟨k,rfl,hk⟩:=ly bp
   exact .fQ (hR.dead _ id (by simpa using hk) ab)
 | @jW _ id i c ab=>
  simp only[gX]
  cases bp:gW ord id 0 with
  | none=>exact .undef
  | some j=>
   obtain ⟨k,rfl,hk⟩:=ly bp
   exact .jW (hR.dead _ id (by simpa using hk) ab)
 | @dw e id fz _ ab hb=>
  simp only[gX]
  cases bp:gW ord id 0 with
  | none=>
   simp only[ab]
   cases fz with
   | false=>exact .undef
   | true=>simp only[jo,cond_true];exact .list (.any fun _=>rfl)
  | some j=>
   obtain ⟨k,rfl,hk⟩:=ly bp
   have c6:ord[0+k]? =some id:=by simpa using hk
   exact .dw (hR.arr _ id _ _ _ c6 ab) ((hR.place _ id c6).trans hb)
 | @whole e id es fz b cap ab hb aU bX hm=>
  simp only[gX]
  cases bp:gW ord id 0 with
  | none=>
   simp only[ab]
   cases fz with
   | false=>exact .undef
   | true=>
    simp only[jo,cond_true]
    have hr:=S.h.rel id _ ab
    cases hr with
    | dx az=>rw[az] at hb;cases hb
    | arr au az hh hs hf dU hx=>
     rw[hb] at az;cases az
     have:=th (I':=I) (off:=0) (len:=es.length) (o:=0) hh hx (fi au) (by omega) bX (fun _=>by simp) (fun _ h=>h) (hf rfl)
     exact .list (by simpa using this)
  | some j=>
   obtain ⟨k,rfl,hk⟩:=ly bp
   have c6:ord[0+k]? =some id:=by simpa using hk
   exact .whole (hR.arr _ id _ _ _ c6 ab) ((hR.place _ id c6).trans hb) aU bX hm
 | @fA e id fz _ ab hb=>
  simp only[gX]
  cases bp:gW ord id 0 with
  | none=>
   simp only[ab]
   cases fz with
   | false=>exact .undef
   | true=>simp only[jo,cond_true];exact .list (by simpa using (iw.any (P:=P) fun _=>rfl))
  | some j=>
   obtain ⟨k,rfl,hk⟩:=ly bp
   have c6:ord[0+k]? =some id:=by simpa using hk
   exact .fA (hR.arr _ id _ _ _ c6 ab) ((hR.place _ id c6).trans hb)
 | @sub e id off len es fz b o cap ab hb kB bX ho=>
  simp only[gX]
  cases bp:gW ord id 0 with
  | none=>
   simp only[ab]
   cases fz with
   | false=>exact .undef
   | true=>
    simp only[jo,cond_true]
    have hr:=S.h.rel id _ ab
    cases hr with
    | dx az=>rw[az] at hb;cases hb
    | arr au az hh hs hf dU hx=>
     rw[hb] at az;cases az
     exact .list (th (I':=I) hh hx (fi au) kB bX ho (fun _ h=>h) (hf rfl))
  | some j=>
   obtain ⟨k,rfl,hk⟩:=ly bp
   have c6:ord[0+k]? =some id:=by simpa using hk
   exact .sub (hR.arr _ id _ _ _ c6 ab) ((hR.place _ id c6).trans hb) kB bX ho
 | @ptr id i c b blk ab hd hb=>
  simp only[gX]
  cases bp:gW ord id 0 with
  | none=>exact .undef
  | some j=>
   obtain ⟨k,rfl,hk⟩:=ly bp
   have c6:ord[0+k]? =some id:=by simpa using hk
   cases blk with
   | dead=>exact absurd rfl hd
   | var T0 cs=>
    obtain ⟨hU,h'⟩:=hR.var _ id T0 cs c6 ab
    exact .ptr (blk:= .var T0 hU) h' (by simp) ((hR.place _ id c6).trans hb)
   | arr e es fz=>exact .ptr (blk:= .arr e es fz) (hR.arr _ id _ _ _ c6 ab) (by simp) ((hR.place _ id c6).trans hb)
   | nest e es aq=>exact .ptr (blk:= .nest e es (aq.map fun _=>0)) (hR.nest _ id _ _ _ c6 ab) (by simp) ((hR.place _ id c6).trans hb)
   | map t es=>exact .ptr (blk:= .map t es) (hR.map _ id _ _ c6 ab) (by simp) ((hR.place _ id c6).trans hb)
 | dk=>exact .dk
 | @g9 _ t id ab=>
  simp only[gX]
  cases bp:gW ord id 0 with
  | none=>exact .undef
  | some j=>
   obtain ⟨k,rfl,hk⟩:=ly bp
   exact .g9 (hR.dead _ id (by simpa using hk) ab)
 | @cp t id b es ab hb=>
  simp only[gX]
  cases bp:gW ord id 0 with
  | none=>exact .undef
  | some j=>
   obtain ⟨k,rfl,hk⟩:=ly bp
   have c6:ord[0+k]? =some id:=by simpa using hk
   exact .cp (hR.map _ id _ _ c6 ab) ((hR.place _ id c6).trans hb)
 | @eb e id es aq b cap ab hb aU bX hm=>
  simp only[gX]
  cases bp:gW ord id 0 with
  | none=>simp only[ab];exact .undef
  | some j=>
   obtain ⟨k,rfl,hk⟩:=ly bp
   have c6:ord[0+k]? =some id:=by simpa using hk
   exact .eb (hR.nest _ id _ _ _ c6 ab) ((hR.place _ id c6).trans hb) aU bX hm
 | @jt v e id ver path blk ab y7=>
  simp only[gX]
  split
  ·rename_i j e1 cj aq h1 U
   rw[ab] at U
   cases U
   cases hc:(Nat.blt 0 path.length&&(Nat.ble path.length aq.length&&Nat.beq (bA aq (path.length-1)) ver)) with
   | false=>exact .undef
   | true=>exact (OH hc y7).elim
  ·exact .undef
 | @ju v id ver i c path blk ab y7=>
  simp only[gX]
  split
  ·rename_i j e1 cj aq h1 U
   rw[ab] at U
   cases U
   cases hc:(Nat.blt 0 path.length&&(Nat.ble path.length aq.length&&Nat.beq (bA aq (path.length-1)) ver)) with
   | false=>exact .undef
   | true=>exact (OH hc y7).elim
  ·exact .undef
 | @row v e e0 t id ver b i c q es l aq ab hb hq hv ht hc=>
  simp only[gX]
  split
  ·rename_i j e1 cj tL h1 U
   obtain ⟨k,rfl,hk⟩:=ly h1
   have c6:ord[0+k]? =some id:=by simpa using hk
   cases hx:(Nat.blt 0 (q++[(i,c)]).length&&(Nat.ble (q++[(i,c)]).length tL.length&&Nat.beq (bA tL ((q++[(i,c)]).length-1)) ver)) with
   | false=>exact .undef
   | true=>exact .row (hR.nest _ id _ _ _ c6 ab) ((hR.place _ id c6).trans hb) (by simpa using hq) (Io _ _) ht hc
  ·exact .undef
 | @cA e e0 t id ver b b1 len cap i0 c0 i c q es l aq ab hb hq hv ht jw hc=>
  simp only[gX]
  split
  ·rename_i j e1 cj tL h1 U
   obtain ⟨k,rfl,hk⟩:=ly h1
   have c6:ord[0+k]? =some id:=by simpa using hk
   cases hx:(Nat.blt 0 (q++[(i0,c0)]).length&&(Nat.ble (q++[(i0,c0)]).length tL.length&&Nat.beq (bA tL ((q++[(i0,c0)]).length-1)) ver)) with
   | false=>exact .undef
   | true=>exact .cA (hR.nest _ id _ _ _ c6 ab) ((hR.place _ id c6).trans hb) (by simpa using hq) (Io _ _) ht jw hc
  ·exact .undef
theorem OJ (S:aE P w I β hp B M w0) {ord:List Nat} (hR:wm hp β ord hp' β') {vs:Array Value} {xs:List V} (h: ∀(j:Nat) v x,vs[j]? =some v→xs[j]? =some x→ao P w I β hp v x) (j:Nat) (v:Value) (y:V)
  (hv:vs[j]? =some v) (hy:(xs.map (gX hp ord))[j]? =some y):ao P w I β' hp' v y:=by
 rw[fO] at hy
 cases hx:xs[j]? with
 | none=>rw[hx] at hy;cases hy
 | some x=>rw[hx] at hy;cases hy;exact OI S hR (h j v x hv hx)
theorem OK (S:aE P w I β hp B M w0) {ord:List Nat} (hR:wm hp β ord hp' β') {n:Nat} {v:Value} {x:V} (hv:ao P w I β hp v x) (hF:kK hp' β' n (vy hp ord n x).2):
  ao P w I β' hp' v (vy hp ord n x).1:=by
 cases x with
 | nilS e=>
  obtain ⟨h1,U⟩:=hF 0 _ rfl
  cases hv with
  | nilS=>exact .dw h1 U
 | fn f a b=>
  cases hv with
  | fn q1 q2 q3 q4=>exact .fn (by simpa using q1) (OJ S hR q2) (by simpa using q3) (OJ S hR q4)
 | _=>exact OI S hR hv
end
section
variable {P:Program} {A:cB} {w w':World} {I I' I2:Nat→Prop} {μ β β':Nat→Option Nat} {hp hp':Nat→Option an} {C:ag} {B:Nat} {M:Nat→Prop} {w0:Start}
theorem kK.left {n:Nat} {a b:List an} (h:kK hp' β' n (a++b)):kK hp' β' n a:=fun k x hx=>
 h k x (by rw[ik (br.1 hx).1];exact hx)
theorem kK.right {n:Nat} {a b:List an} (h:kK hp' β' n (a++b)):kK hp' β' (n+a.length) b:=fun k x hx=>by
 have:=h (a.length+k) x (by rw[il (by omega),Nat.add_sub_cancel_left];exact hx)
 rwa [←nO] at this
def mi (bs:List an):Prop:= ∀b∈bs,∃e,b= .arr e [] false
theorem mi.app {a b:List an} (h1:mi a) (U:mi b):mi (a++b):=fun x hx=>(ei.1 hx).elim (h1 x) (U x)
theorem mi.nil:mi []:=fun x hx=>by simp at hx
theorem OL {ord:List Nat} {n:Nat} {x:V}:mi (vy hp ord n x).2:=by
 cases x<;>simp only[vy]<;>first|exact .nil|skip
 intro b hb
 simp only[dX] at hb
 exact ⟨_,hb⟩
theorem Ip {ord:List Nat}: ∀{xs:List V} {n:Nat},mi (mS hp ord n xs).2
 | [],n=> .nil
 | x::xs,n=>by
  simp only[mS]
  exact OL.app Ip
theorem DQ {ord:List Nat}: ∀{xs:List V} {n:Nat},(mS hp ord n xs).1.length=xs.length
 | [],n=>rfl
 | x::xs,n=>by simp only[mS,List.length_cons,DQ]
theorem DR (S:aE P w I β hp B M w0) {ord:List Nat} (hR:wm hp β ord hp' β'): ∀{xs:List V} {vs:List Value} {n:Nat},(∀(j:Nat) v x,vs[j]? =some v→xs[j]? =some x→ao P w I β hp v x)→
  kK hp' β' n (mS hp ord n xs).2→∀(j:Nat) v y,vs[j]? =some v→(mS hp ord n xs).1[j]? =some y→ao P w I β' hp' v y
 | [],vs,n,h,hF,j,v,y,hv,hy=>by simp[mS] at hy
 | x::xs,vs,n,h,hF,j,v,y,hv,hy=>by
  simp only[mS] at hF hy
  cases j with
  | zero=>
   simp at hy
   subst hy
   exact OK S hR (h 0 v x hv rfl) hF.left
  | succ j=>
   cases vs with
   | nil=>simp at hv
   | cons v0 vs=>exact DR S hR (vs:=vs) (fun j v x hj hx=>h (j+1) v x (by simpa using hj) (by simpa using hx)) hF.right j v y (by simpa using hv) (by simpa using hy)
theorem Yh {ord:List Nat} {n:Nat} {x:V}:mi (pY hp ord n x).2:=by
 cases x<;>simp only[pY]<;>first|exact OL|exact Ip
theorem Yi (S:aE P w I β hp B M w0) {ord:List Nat} (hR:wm hp β ord hp' β') {n:Nat} {v:Value} {x:V} (hv:ao P w I β hp v x) (hF:kK hp' β' n (pY hp ord n x).2):
  ao P w I β' hp' v (pY hp ord n x).1:=by
 cases x with
 | agg cs=>
  obtain ⟨ds,rfl,h1,U⟩:=hv.kE
  simp only[pY] at hF⊢
  exact .agg (by rw[DQ];exact h1) fun j v y hj hy=>DR S hR (vs:=ds.toList) (fun j v x hj hx=>U j v x (by simpa using hj) hx) hF j v y (by simpa using hj) hy
 | bd cs=>
  obtain ⟨ds,rfl,h1,U⟩:=hv.tm
  simp only[pY] at hF⊢
  exact .bd (by rw[DQ];exact h1) fun j v y hj hy=>DR S hR (vs:=ds.toList) (fun j v x hj hx=>U j v x (by simpa using hj) hx) hF j v y (by simpa using hj) hy
 | _=>exact OK S hR hv hF
theorem OM {ord:List Nat} {sl:Nat→V}: ∀{l:List Nat} {n:Nat},mi (lb hp ord sl n l).2
 | [],n=> .nil
 | s::l,n=>by
  simp only[lb]
  exact Yh.app OM
theorem ON {ord:List Nat} {sl:Nat→V} {k:Nat} {y:V}: ∀{l:List Nat} {n:Nat},kK hp' β' n (lb hp ord sl n l).2→dv (lb hp ord sl n l).1 k=some y→
  ∃n',kK hp' β' n' (pY hp ord n' (sl k)).2∧y=(pY hp ord n' (sl k)).1
 | [],n,_,h=>by cases h
 | s::l,n,hF,h=>by
  simp only[lb] at hF h
  simp only[dv] at h
  cases hb:Nat.beq k s with
  | true=>
   rw[hb] at h
   rw[aR] at hb
   subst hb
   cases h
   exact ⟨n,hF.left,rfl⟩
  | false=>
   rw[hb] at h
   exact ON hF.right h
theorem Yj {ord:List Nat} {n id:Nat}:mi (eH hp ord n id).2:=by
 unfold eH
 split
 ·exact Ip
 ·exact .nil
 ·exact .nil
 ·exact .nil
 ·exact .nil
theorem OO {ord:List Nat}: ∀{l:List Nat} {n:Nat},mi (fh hp ord n l).2
 | [],n=> .nil
 | s::l,n=>by
  simp only[fh]
  exact Yj.app OO
theorem OP {ord:List Nat}: ∀{l:List Nat} {n:Nat},(fh hp ord n l).1.length=l.length
 | [],n=>rfl
 | x::xs,n=>by simp only[fh,List.length_cons,OP]
theorem OQ {ord:List Nat}: ∀{l:List Nat} {n j:Nat} {id:Nat},l[j]? =some id→∃n',(kK hp' β' n (fh hp ord n l).2→kK hp' β' n' (eH hp ord n' id).2)∧(fh hp ord n l).1[j]? =some (eH hp ord n' id).1
 | [],n,j,id,h=>by simp at h
 | s::l,n,j,id,h=>by
  simp only[fh]
  cases j with
  | zero=>
   simp at h
   subst h
   exact ⟨n,fun hF=>hF.left,rfl⟩
  | succ j=>
   obtain ⟨n',h1,U⟩:=OQ (n:=n+(eH hp ord n s).2.length) (j:=j) (by simpa using h)
   exact ⟨n',fun hF=>h1 hF.right,by simpa using U⟩
theorem DS: ∀{l acc:List Nat},∃t,s5 hp acc l=acc++t∧(acc.Nodup→(acc++t).Nodup)
 | [],acc=>⟨[],by simp[s5],by simp⟩
 | id::l,acc=>by
  simp only[s5]
  cases hb:(jQ acc id|| !(L7 hp id)) with
  | true=>exact DS
  | false=>
   obtain ⟨t,h1,U⟩:=DS (l:=l) (acc:=acc++[id])
   refine ⟨id::t,by simp only[cond_false,h1,cr,List.singleton_append],fun hn=> ?_⟩
   have:acc++id::t=(acc++[id])++t:=by simp
   rw[this]
   refine U ?_
   rw[Cf]
   refine ⟨hn,by simp,fun a ha b az=> ?_⟩
   simp only[dX] at az
   subst az
   intro e
   subst e
   rw[vO ha] at hb
   cases hb
theorem OR: ∀{n:Nat} {l:List Nat},∃t,grow hp n l=l++t∧(l.Nodup→(l++t).Nodup)
 | 0,l=>⟨[],by simp[grow],by simp⟩
 | n+1,l=>by
  simp only[grow]
  obtain ⟨t,h1,U⟩:=DS (hp:=hp) (acc:=l) (l:=l.flatMap (GN hp))
  rw[h1]
  obtain ⟨t',h3,h4⟩:=OR (n:=n) (l:=l++t)
  exact ⟨t++t',by rw[h3,cr],fun hn=>by rw[←cr];exact h4 (U hn)⟩
theorem Yk {m:Nat} {live:List Nat} {st:St}: ∃t,GO m live st=List.range m++t∧(List.range m++t).Nodup:=by
 unfold GO
 obtain ⟨t,h1,U⟩:=DS (hp:=st.hp) (acc:=List.range m) (l:=live.flatMap fun s=>GM (st.sl s))
 rw[h1]
 obtain ⟨t',h3,h4⟩:=OR (hp:=st.hp) (n:=3) (l:=List.range m++t)
 exact ⟨t++t',by rw[h3,cr],by rw[←cr];exact h4 (U List.nodup_range)⟩
end
section
variable {P:Program} {A:cB} {E:FuncId→Bool} {G:Nat→V} {w w':World} {I I' I2:Nat→Prop} {μ β β':Nat→Option Nat} {hp hp' hp0:Nat→Option an} {C:ag} {B:Nat} {M:Nat→Prop} {w0:Start}
theorem OS {n m:Nat} {ord live:List Nat} {a:Act} {st:St} (lg:ord.Nodup) (zQ: ∀id,id<m→ord[id]? =some id∨∃p,ord[id]? =some p∧st.hp p=none) (S:aE P w I β st.hp B M w0) (hA:iI P E G w I β n a st) (hE:kI w0.w w0.I μ hp0 w I β st.hp) (hm: ∀id blk,hp0 id=some blk→id<m) (je: ∀id e es aq,hp0 id=some (.nest e es aq)→∀k,bA aq k=0):
  ∃β',aE P w I β' (vz ord live st).hp B M w0∧iI P E G w I β' n a (vz ord live st)∧kI w0.w w0.I μ hp0 w I β' (vz ord live st).hp:=by
 have Yl:vz ord live st=mk (lb st.hp ord st.sl (ord.length+(fh st.hp ord ord.length ord).2.length) live).1
   ((fh st.hp ord ord.length ord).1++((fh st.hp ord ord.length ord).2++(lb st.hp ord st.sl (ord.length+(fh st.hp ord ord.length ord).2.length) live).2)):=by
  rfl
 rw[Yl]
 let hp':=jr ((fh st.hp ord ord.length ord).1++((fh st.hp ord ord.length ord).2++(lb st.hp ord st.sl (ord.length+(fh st.hp ord ord.length ord).2.length) live).2))
 let β':Nat→Option Nat:=fun j=>if j<ord.length then (ord[j]?).bind β else none
 have hlen:(fh st.hp ord ord.length ord).1.length=ord.length:=OP
 have iF: ∀j,j<ord.length→hp' j=(fh st.hp ord ord.length ord).1[j]? :=by
  intro j hj
  simp only[hp',gM]
  rw[ik (by omega)]
 have gL: ∀k,hp' (ord.length+k)=((fh st.hp ord ord.length ord).2++(lb st.hp ord st.sl (ord.length+(fh st.hp ord ord.length ord).2.length) live).2)[k]? :=by
  intro k
  simp only[hp',gM]
  rw[il (by omega),hlen,Nat.add_sub_cancel_left]
 have hF:kK hp' β' ord.length ((fh st.hp ord ord.length ord).2++(lb st.hp ord st.sl (ord.length+(fh st.hp ord ord.length ord).2.length) live).2):=by
  intro k b hb
  refine ⟨(gL k).trans hb,?_⟩
  simp only[β']
  rw[ah (by omega)]
 have zN:mi ((fh st.hp ord ord.length ord).2++(lb st.hp ord st.sl (ord.length+(fh st.hp ord ord.length ord).2.length) live).2):=OO.app OM
 have ov: ∀(j:Nat) id,ord[j]? =some id→β' j=β id:=by
  intro j id hj
  simp only[β']
  rw[aj (br.1 hj).1,hj]
  rfl
 have qz: ∀(j:Nat) id,ord[j]? =some id→∃n',kK hp' β' n' (eH st.hp ord n' id).2∧hp' j=some (eH st.hp ord n' id).1:=by
  intro j id hj
  obtain ⟨n',h1,U⟩:=OQ (hp:=st.hp) (hp':=hp') (β':=β') (ord:=ord) (n:=ord.length) hj
  exact ⟨n',h1 hF.left,(iF j (br.1 hj).1).trans U⟩
 have hR:wm st.hp β ord hp' β':=by
  refine ⟨fun j id e es fz hj ab=> ?_,fun j id T cs hj ab=> ?_,fun j id hj ab=> ?_,ov,fun j id e es aq hj ab=> ?_,fun j id t es hj ab=> ?_⟩
  ·obtain ⟨n',_,U⟩:=qz j id hj
   rw[U];simp only[eH,ab]
  ·obtain ⟨n',_,U⟩:=qz j id hj
   rw[U];simp only[eH,ab];exact ⟨_,rfl⟩
  ·obtain ⟨n',_,U⟩:=qz j id hj
   rw[U];simp only[eH,ab]
  ·obtain ⟨n',_,U⟩:=qz j id hj
   rw[U];simp only[eH,ab]
  ·obtain ⟨n',_,U⟩:=qz j id hj
   rw[U];simp only[eH,ab]
 have cls: ∀j blk',hp' j=some blk'→(∃id,ord[j]? =some id∧((blk'= .dead)∨∃blk,st.hp id=some blk∧blk≠ .dead∧∀o b,bt P w o blk' b→bt P w o blk b))∨(∃e,blk'= .arr e [] false∧β' j=none):=by
  intro j blk' hj
  rcases oN j ord.length with h|h
  ·have gj:=bz h
   obtain ⟨n',_,U⟩:=qz j _ gj
   rw[hj] at U
   refine .inl ⟨_,gj,?_⟩
   cases ab:st.hp ord[j] with
   | none=>left;simp only[eH,ab] at U;exact cY U
   | some blk=>
    cases blk with
    | dead=>left;simp only[eH,ab] at U;exact cY U
    | var T0 cs=>exact .inr ⟨_,rfl,by simp,fun o b h=>by simp only[eH,ab] at U;rw[cY U] at h;exact .root (by simp) (h.flat (by simp))⟩
    | arr e es fz=>exact .inr ⟨_,rfl,by simp,fun o b h=>by simp only[eH,ab] at U;rw[cY U] at h;exact .root (by simp) (h.flat (by simp))⟩
    | map t es=>exact .inr ⟨_,rfl,by simp,fun o b h=>by simp only[eH,ab] at U;rw[cY U] at h;exact .root (by simp) (h.flat (by simp))⟩
    | nest e es aq=>
     refine .inr ⟨_,rfl,by simp,fun o b h=> ?_⟩
     simp only[eH,ab] at U
     rw[cY U] at h
     cases h with
     | root _ h=>exact .root (by simp) h
     | row h1 U=>exact .row h1 U
  ·obtain ⟨k,rfl⟩: ∃k,j=ord.length+k:=⟨j-ord.length,by omega⟩
   rw[gL] at hj
   obtain ⟨e,he⟩:=zN _ (jq hj)
   exact .inr ⟨e,he,(hF k _ hj).2⟩
 refine ⟨β',⟨⟨fun j blk' hj=> ?_,fun j1 j2 b1 b2 b e1 e2 f1 f2=> ?_,fun j blk b e1 f1=> ?_,S.h.jv⟩,S.b8,S.size,S.new,S.io⟩,⟨fun k=> ?_,hA.size,hA.defers,hA.aD⟩,⟨hE.c9,hE.b8,fun id blk ab=> ?_,fun id blk blk' b ab bB hd hb=> ?_⟩⟩
 ·change hp' j=some blk' at hj
  rcases oN j ord.length with h|h
  ·have gj:=bz h
   obtain ⟨n',OT,U⟩:=qz j _ gj
   rw[hj] at U
   rw[ov j _ gj]
   cases ab:st.hp ord[j] with
   | none=>simp only[eH,ab] at U;rw[cY U];exact .dead
   | some blk=>
    have hr:=S.h.rel _ _ ab
    generalize β ord[j]=o at hr
    cases hr with
    | dead=>simp only[eH,ab] at U;rw[cY U];exact .dead
    | dx hb=>simp only[eH,ab] at U;rw[cY U];exact .dx hb
    | arr a1 a2 a3 a4 a5 a6 a7=>simp only[eH,ab] at U;rw[cY U];exact .arr a1 a2 a3 a4 a5 a6 a7
    | nest a1 a2 a3=>simp only[eH,ab] at U;rw[cY U];exact .nest a1 a2 a3
    | map a1 a2 a3 a4 a5 a6 a7=>simp only[eH,ab] at U;rw[cY U];exact .map a1 a2 a3 a4 a5 a6 a7
    | @var xs b Ca T hb hh hs cK hx fS=>
     simp only[eH,ab] at U OT
     rw[cY U]
     exact .var hb hh (by rw[DQ];exact hs) cK (fun i v y hi hy=>DR S hR (vs:=Ca.toList) (fun i v x hi cu=>hx i v x (by simpa using hi) cu) OT i v y (by simpa using hi) hy) fS
  ·rcases cls j blk' hj with ⟨id,ab,_⟩|⟨e,he,hb⟩
   ·have:=(br.1 ab).1;omega
   ·rw[he];exact .dx hb
 ·rcases cls j1 b1 e1 with ⟨Iq,o1,x1⟩|⟨e,_,hb⟩
  ·rcases cls j2 b2 e2 with ⟨cy,o2,x2⟩|⟨e,_,hb⟩
   ·obtain ⟨c1,y1,z1,g1⟩:=x1.resolve_left f1.alive
    obtain ⟨c2,y2,z2,g2⟩:=x2.resolve_left f2.alive
    rw[ov _ _ o1] at f1
    rw[ov _ _ o2] at f2
    have:=S.h.inj Iq cy c1 c2 b y1 y2 (g1 _ _ f1) (g2 _ _ f2)
    subst this
    obtain ⟨q1,q2⟩:=br.1 o1
    obtain ⟨q3,q4⟩:=br.1 o2
    exact (List.getElem_inj lg).1 (q2.trans q4.symm)
   ·subst ‹b2=_›;have:=f2.flat (by simp);rw[hb] at this;cases this
  ·subst ‹b1=_›;have:=f1.flat (by simp);rw[hb] at this;cases this
 ·rcases cls j blk e1 with ⟨Iq,o1,x1⟩|⟨e,_,hb⟩
  ·obtain ⟨c1,y1,z1,g1⟩:=x1.resolve_left f1.alive
   rw[ov _ _ o1] at f1
   exact S.h.own Iq c1 b y1 (g1 _ _ f1)
  ·subst ‹blk=_›;have:=f1.flat (by simp);rw[hb] at this;cases this
 ·change ao P w I β' hp' (a.tmps.getD k undef) (iX _ k)
  unfold iX
  cases H0:dv (lb st.hp ord st.sl (ord.length+(fh st.hp ord ord.length ord).2.length) live).1 k with
  | none=>exact .undef
  | some y=>
   obtain ⟨n',h1,U⟩:=ON hF.right H0
   simp only[Option.getD_some,U]
   exact Yi S hR (hA.sl k) h1
 ·obtain ⟨qv,k1,k2,k3⟩:=hE.blk id blk ab
  rcases zQ id (hm id blk ab) with ho|⟨p,ho,bp⟩
  ·cases qv with
   | dead=>exact ⟨.dead,hR.dead id id ho k1,k2,fun h=>absurd rfl h⟩
   | var T0 cs=>
    obtain ⟨hU,h'⟩:=hR.var id id T0 cs ho k1
    refine ⟨_,h',?_,fun _=>(ov id id ho).trans (k3 (by simp))⟩
    cases blk<;>simp_all [an.le]
   | arr e es fz=>exact ⟨_,hR.arr id id e es fz ho k1,k2,fun _=>(ov id id ho).trans (k3 (by simp))⟩
   | map t es=>exact ⟨_,hR.map id id t es ho k1,k2,fun _=>(ov id id ho).trans (k3 (by simp))⟩
   | nest e es aq=>
    refine ⟨_,hR.nest id id e es aq ho k1,?_,fun _=>(ov id id ho).trans (k3 (by simp))⟩
    obtain ⟨GX,Vo,rfl,l1,l2,_⟩:=an.GV k2
    exact ⟨rfl,l1,by simpa using l2,fun k=>by rw[je id _ _ _ ab k];exact ko _⟩
  ·obtain ⟨n',_,U⟩:=qz id p ho
   simp only[eH,bp] at U
   exact ⟨.dead,U,by cases blk<;>trivial,fun h=>absurd rfl h⟩
 ·obtain ⟨qv,k1,k2,k3⟩:=hE.blk id blk ab
  rcases zQ id (hm id blk ab) with ho|⟨p,ho,bp⟩
  ·refine hE.size id blk qv b ab k1 (fun qy=> ?_) hb
   subst qy
   have:=hR.dead id id ho k1
   change hp' id=some blk' at bB
   rw[this] at bB
   exact hd (cY bB).symm
  ·obtain ⟨n',_,U⟩:=qz id p ho
   simp only[eH,bp] at U
   change hp' id=some blk' at bB
   rw[U] at bB
   exact absurd (cY bB).symm hd
theorem Ym {n m:Nat} {live:List Nat} {a:Act} {st:St} (S:aE P w I β st.hp B M w0) (hA:iI P E G w I β n a st) (hE:kI w0.w w0.I μ hp0 w I β st.hp) (hm: ∀id blk,hp0 id=some blk→id<m) (je: ∀id e es aq,hp0 id=some (.nest e es aq)→∀k,bA aq k=0):
  ∃β',aE P w I β' (canon m live st).hp B M w0∧iI P E G w I β' n a (canon m live st)∧kI w0.w w0.I μ hp0 w I β' (canon m live st).hp:=by
 obtain ⟨t,zQ,lg⟩:=Yk (m:=m) (live:=live) (st:=st)
 refine OS (by rw[zQ];exact lg) (fun id aP=> .inl ?_) S hA hE hm je
 rw[zQ,ik (by simpa using aP)]
 simp[aP]
theorem OU: ∀{l:List Nat},pZ l=true→l.Nodup
 | [],_=> .nil
 | a::l,h=>by
  simp only[pZ,aK,lO] at h
  rw[List.nodup_cons]
  exact ⟨fun hm=>Bool.noConfusion ((vO hm).symm.trans h.1),OU h.2⟩
theorem Yn {m:Nat} {mv:List Nat} {id:Nat} (h:id<m):(nY m mv)[id]? =some id∨(nY m mv)[id]? =some (m+id):=by
 unfold nY
 rw[ik (by simpa using h),fO]
 simp only[List.getElem?_range h,Option.map_some]
 cases jQ mv id with
 | true=>exact .inr rfl
 | false=>exact .inl rfl
end
section
variable {P:Program} {A:cB} {w w':World} {I I' I2:Nat→Prop} {μ β β':Nat→Option Nat} {hp hp' hp0:Nat→Option an} {C:ag} {B:Nat} {M:Nat→Prop} {w0:Start}
theorem DT (p:Nat→Prop) (h: ∃n,p n): ∃n,p n∧∀m,p m→n≤m:=by
 obtain ⟨n,hn⟩:=h
 induction n using Nat.strongRecOn with
 | _ n ih=>
  by_cases hx: ∃m,m<n∧p m
  ·obtain ⟨m,hm,hp⟩:=hx
   exact ih m hm hp
  ·exact ⟨n,hn,fun m hm=>Nat.le_of_not_lt fun aP=>hx ⟨m,aP,hm⟩⟩
open Classical in
theorem Yo {c:Code} {Q:Exit→Act→World→Prop} (J:Nat→Act→World→Prop) (h0: ∀a w,¬J 0 a w) (round: ∀n a w,J (n+1) a w→c.wp P (Exit.then (J n) Q) a w) {n:Nat} {a:Act} {w:World} (h:J n a w):
  (Code.loop c).wp P Q a w:=by
 refine wp_loop (fun a w=> ∃n,J n a w) (fun a w=>if h: ∃n,J n a w then (DT _ h).choose else 0) ⟨n,h⟩ fun a w hJ=> ?_
 obtain ⟨h1,U⟩:=(DT _ hJ).choose_spec
 generalize hk:(DT _ hJ).choose=k at h1 U
 cases k with
 | zero=>exact absurd h1 (h0 a w)
 | succ k=>
  refine wp_mono (round k a w h1) fun e a' w' he=> ?_
  cases e with
  | normal=>
   have hex: ∃n,J n a' w':=⟨k,he⟩
   refine ⟨hex,?_⟩
   have h3:=(DT _ hex).choose_spec.2 k he
   rw[rj hex,rj hJ,hk]
   omega
  | _=>exact he
def wo:Out→Exit
 | .norm=> .normal
 | .exit id=> .exit id
 | .ret=> .ret
def Inv (P:Program) (E:FuncId→Bool) (G:Nat→V) (B:Nat) (M:Nat→Prop) (w0:Start) (μ:Nat→Option Nat) (hp0:Nat→Option an) (n:Nat) (a:Act) (w:World) (st:St):Prop:=
 ∃I β,aE P w I β st.hp B M w0∧iI P E G w I β n a st∧kI w0.w w0.I μ hp0 w I β st.hp
theorem Inv.canon {E:FuncId→Bool} {G:Nat→V} {n m:Nat} {a:Act} {st:St} {live:List Nat} (h:Inv P E G B M w0 μ hp0 n a w st) (hm: ∀id blk,hp0 id=some blk→id<m) (je: ∀id e es aq,hp0 id=some (.nest e es aq)→∀k,bA aq k=0):Inv P E G B M w0 μ hp0 n a w (canon m live st):=by
 obtain ⟨I,β,S,hA,hE⟩:=h
 obtain ⟨β',a,b,c⟩:=Ym (live:=live) S hA hE hm je
 exact ⟨I,β',a,b,c⟩
theorem DU: ∀{l:List BS} {ds:List V},(ek l ds).length=l.length
 | [],_=>rfl
 | b::l,ds=>by simp only[ek,List.length_cons,DU]
theorem Inv.enter {A:cB} {E:FuncId→Bool} {G:Nat→V} {n f:Nat} {ds:List V} {a:Act} (j7:pZ (nY (A.sin f).a8.length (A.mv f))=true) (h:Inv P E G B M w0 μ hp0 n a w (bn (A.sin f) ds)) (hm: ∀id blk,hp0 id=some blk→id<(A.sin f).a8.length)
  (je: ∀id e es aq,hp0 id=some (.nest e es aq)→∀k,bA aq k=0) (wq: ∀p,(A.sin f).a8.length≤p→(bn (A.sin f) ds).hp p=none):Inv P E G B M w0 μ hp0 n a w (CF A f ds):=by
 unfold CF
 split
 ·exact h
 ·obtain ⟨I,β,S,hA,hE⟩:=h
  obtain ⟨β',x,y,z⟩:=OS (m:=(A.sin f).a8.length) (ord:=nY (A.sin f).a8.length (A.mv f)) (live:=(A.sin f).bK.map (·.1)) (OU j7) (fun id ab=>(Yn ab).imp (fun h=>h) fun h=>⟨_,h,wq _ (by omega)⟩) S hA hE hm je
  exact ⟨I,β',x,y,z⟩
theorem Inv.reshape {E:FuncId→Bool} {G:Nat→V} {n m:Nat} {a:Act} {st:St} {S:Shape} {ds:List V} (h:Inv P E G B M w0 μ hp0 n a w st) (hs:js m S st=some ds) (hm: ∀id blk,hp0 id=some blk→id<m):Inv P E G B M w0 μ hp0 n a w (bn S ds):=by
 obtain ⟨I,β,S1,hA,hE⟩:=h
 obtain ⟨r1,r2,_,r4⟩:=AM.reshape hs S1
 refine ⟨I,β,r1,⟨fun k=>r2 k _ (hA.sl k),hA.size,hA.defers,hA.aD⟩,⟨hE.c9,hE.b8,fun id blk ab=> ?_,fun id blk blk' b ab bB hd hb=> ?_⟩⟩
 ·obtain ⟨qv,k1,k2,k3⟩:=hE.blk id blk ab
  obtain ⟨_,hle,_⟩:=Nz hs
  have hl:=hm id blk ab
  obtain ⟨bP,U⟩: ∃bP,(bn S ds).hp id=some bP:=by
   simp only[bn,mk,gM]
   exact ⟨_,bz (by rw[DU];omega)⟩
  by_cases hd:bP= .dead
  ·subst hd
   exact ⟨_,U,by cases blk<;>trivial,fun h=>absurd rfl h⟩
  ·obtain ⟨gE,e1,e2,_⟩:=r4 id bP U hd
   rw[k1] at e1;cases e1
   exact ⟨_,U,an.le_trans k2 e2,fun _=>k3 (fun e=>hd (an.oX (e▸e2)))⟩
 ·obtain ⟨gE,e1,e2,_⟩:=r4 id blk' bB hd
  exact hE.size id blk gE b ab e1 (fun e=>hd (an.oX (e▸e2))) hb
theorem kJ.here (h:kJ P A C) (f:Nat) (id:Nat):kJ P (A.here f id) C:=by
 intro key ds es hh
 obtain ⟨fn,c,h1,U,h3⟩:=h key ds es hh
 refine ⟨fn,c,h1,U,fun w I μ vals a g b d=>(h3 w I μ vals a g b d).mono fun e w' hx=> ?_⟩
 obtain ⟨v,I2,bQ,q1,q2⟩:=hx
 exact ⟨v,I2,bQ,q1,⟨q2.wa,q2.le,q2.res⟩⟩
theorem Yp {a b:Out} (h:CE a b=true):a=b:=by
 cases a<;>cases b<;>simp[CE] at h<;>first|rfl|(subst h;rfl)
theorem OV {m:Nat} {r:Out × St}: ∀{l:List (Out × Shape)} {j:Nat} {e:Nat × List V},ways m j l r=some e→j≤e.1
 | [],j,e,h=>by cases h
 | (o,S)::l,j,e,h=>by
  simp only[ways] at h
  split at h
  ·cases h;exact ch _
  ·have:=OV h;omega
theorem Ir {m:Nat} {o:Out} {s:St} {out:Out} {st':St}: ∀{l:List (Out × Shape)} {k:Nat} {e:Nat × List V},ways m k l (o,s)=some e→lU k l e.1 e.2 (fun o st=>some (o,st))=some (out,st')→
  out=o∧∃S,js m S s=some e.2∧st'=bn S e.2
 | [],k,e,h,_=>by cases h
 | (o',S)::l,k,e,h,U=>by
  simp only[ways] at h
  split at h
  ·rename_i ds hx
   cases h
   cases ho:CE o' o with
   | false=>rw[ho] at hx;cases hx
   | true=>
    rw[ho] at hx
    have:=Yp ho
    subst this
    cases l with
    | nil=>
     simp only[lU,dI,jO] at U
     exact ⟨U.1.symm,S,hx,U.2.symm⟩
    | cons p l=>
     simp only[lU,jo,cond_true,dI,jO] at U
     exact ⟨U.1.symm,S,hx,U.2.symm⟩
  ·have o7:=OV h
   cases l with
   | nil=>cases h
   | cons p l=>
    have bu:Nat.beq e.1 k=false:=by
     cases hb:Nat.beq e.1 k with
     | false=>rfl
     | true=>rw[aR] at hb;omega
    simp only[lU,bu,cond_false] at U
    exact Ir h U
theorem Yq (hC:kJ P A C) (hP:iH P A) (ng:P.follows .mixedOrders=true) {f n m:Nat} (hm: ∀id blk,hp0 id=some blk→id<m) (je: ∀id e es aq,hp0 id=some (.nest e es aq)→∀k,bA aq k=0):
  ∀(c:Code) {st st':St} {out:Out} {Q:Exit→Act→World→Prop} {a:Act} {w:World},exec P A C f n m c st=some (out,st')→Inv P A.idle A.aD B M w0 μ hp0 n a w st→
   (∀a' w',Inv P A.idle A.aD B M w0 μ hp0 n a' w' st'→Q (wo out) a' w')→c.wp P Q a w:=by
 intro c
 induction c with
 | skip=>
  intro st st' out Q a w h hI hQ
  simp only[exec,dI,jO] at h
  obtain ⟨rfl,rfl⟩:=h
  exact wp_skip (hQ a w hI)
 | exit id=>
  intro st st' out Q a w h hI hQ
  simp only[exec,dI,jO] at h
  obtain ⟨rfl,rfl⟩:=h
  exact wp_exit (hQ a w hI)
 | ret=>
  intro st st' out Q a w h hI hQ
  simp only[exec,dI,jO] at h
  obtain ⟨rfl,rfl⟩:=h
  exact wp_ret (hQ a w hI)
 | region id ops draw=>
  intro st st' out Q a w h hI hQ
  simp only[exec] at h
  obtain ⟨iJ,h1,U⟩:=bind_some h
  simp only[dI,jO] at U
  obtain ⟨rfl,rfl⟩:=U
  obtain ⟨I,β,S,hA,hE⟩:=hI
  refine Yf (hC.here f id) (hP.here f id) ng h1 S hA fun a' w' I' β' k1 k2 k3=> ?_
  obtain ⟨I2,l1,l2,l3⟩:=OG (m:=m) (pur:=A.pur f id) k2 k3
  have Yr:=(hE.trans k1.DB).trans l1.DB
  exact hQ a' w' (Inv.canon ⟨I2,β',l2,l3,Yr⟩ hm je)
 | seq x y iu iv=>
  intro st st' out Q a w h hI hQ
  simp only[exec] at h
  obtain ⟨⟨o1,iJ⟩,h1,U⟩:=bind_some h
  refine wp_seq (iu h1 hI fun a' w' jC=> ?_)
  cases o1 with
  | norm=>exact iv U jC hQ
  | exit id=>
   simp only[dI,jO] at U
   obtain ⟨rfl,rfl⟩:=U
   exact hQ a' w' jC
  | ret=>
   simp only[dI,jO] at U
   obtain ⟨rfl,rfl⟩:=U
   exact hQ a' w' jC
 | cond c x y iu iv=>
  intro st st' out Q a w h hI hQ
  cases c with
  | tmp t=>
   have go: ∀{st st':St} {out:Out} {Q:Exit→Act→World→Prop} {a:Act} {w:World},(match st.sl t with
     | .bool b=>(bif b then exec P A C f n m x st else exec P A C f n m y st).bind fun r=>
      match r.1 with
      | .norm=>some (.norm,AM.canon m (A.join f t) r.2)
      | _=>some r
     | _=>none)=some (out,st')→Inv P A.idle A.aD B M w0 μ hp0 n a w st→(∀a' w',Inv P A.idle A.aD B M w0 μ hp0 n a' w' st'→Q (wo out) a' w')→(Code.cond (.tmp t) x y).wp P Q a w:=by
    intro st st' out Q a w h hI hQ
    cases hs:st.sl t<;>rw[hs] at h<;>simp only at h<;>first|(cases h;done)|skip
    rename_i b
    obtain ⟨⟨o1,iJ⟩,h1,U⟩:=bind_some h
    obtain ⟨I,β,S,hA,hE⟩:=hI
    have eK:a.eval (.tmp t)= .bool b:=by
     have:=Ob hA hs
     simp[Act.eval,this]
    have fin: ∀a' w',Inv P A.idle A.aD B M w0 μ hp0 n a' w' iJ→Q (wo o1) a' w':=by
     intro a' w' jC
     cases o1 with
     | norm=>
      simp only[dI,jO] at U
      obtain ⟨rfl,rfl⟩:=U
      exact hQ a' w' (jC.canon hm je)
     | exit id=>
      simp only[dI,jO] at U
      obtain ⟨rfl,rfl⟩:=U
      exact hQ a' w' jC
     | ret=>
      simp only[dI,jO] at U
      obtain ⟨rfl,rfl⟩:=U
      exact hQ a' w' jC
    refine wp_cond eK ?_
    cases b with
    | true=>exact iu h1 ⟨I,β,S,hA,hE⟩ fin
    | false=>exact iv h1 ⟨I,β,S,hA,hE⟩ fin
   simp only[exec] at h
   split at h
   ·exact go h hI hQ
   ·obtain ⟨ds,h1,U⟩:=bind_some h
    obtain ⟨e,h3,h4⟩:=bind_some U
    obtain ⟨⟨o1,s1⟩,h5,h6⟩:=bind_some h3
    obtain ⟨rfl,S',k1,rfl⟩:=Ir h6 h4
    exact go h5 (hI.reshape h1 hm) fun a' w' jC=>hQ a' w' (jC.reshape k1 hm)
  | const v=>
   cases v with
   | bool b=>
    simp only[exec] at h
    refine wp_cond (t:=b) rfl ?_
    cases b with
    | true=>exact iu h hI hQ
    | false=>exact iv h hI hQ
   | _=>simp only[exec] at h;cases h
  | _=>simp only[exec] at h;cases h
 | block id c ih=>
  intro st st' out Q a w h hI hQ
  simp only[exec] at h
  obtain ⟨⟨o1,iJ⟩,h1,U⟩:=bind_some h
  refine wp_block (ih h1 hI fun a' w' jC=> ?_)
  cases o1 with
  | norm=>
   simp only[dI,jO] at U
   obtain ⟨rfl,rfl⟩:=U
   exact hQ a' w' (jC.canon hm je)
  | exit aC=>
   simp only at U
   cases hb:Nat.beq aC id with
   | true=>
    rw[hb] at U
    simp only[cond_true,dI,jO] at U
    obtain ⟨rfl,rfl⟩:=U
    rw[aR] at hb
    simp only[wo,Exit.inBlock,hb,dj]
    exact hQ a' w' (jC.canon hm je)
   | false=>
    rw[hb] at U
    simp only[cond_false,dI,jO] at U
    obtain ⟨rfl,rfl⟩:=U
    have bu:aC≠id:=fun e=>by rw[e,jo] at hb;cases hb
    simp only[wo,Exit.inBlock,bu,gb]
    exact hQ a' w' jC
  | ret=>
   simp only[dI,jO] at U
   obtain ⟨rfl,rfl⟩:=U
   exact hQ a' w' jC
 | loop c ih=>
  intro st st' out Q a w h hI hQ
  simp only[exec] at h
  split at h
  ·cases h
  ·rename_i S hS
   obtain ⟨ds,h1,U⟩:=bind_some h
   obtain ⟨e,h3,h4⟩:=bind_some U
   obtain ⟨k,hk⟩:=vh h3
   refine Yo (J:=fun k a w=> ∃ds,Inv P A.idle A.aD B M w0 μ hp0 n a w (bn S.1 ds)∧fe (fun ds=>mT m S.1 S.2 (exec P A C f n m c (bn S.1 ds))) k ds=some e) (fun a w ⟨s,_,h⟩=>by cases h) (fun k a w ⟨ds,hs,hk⟩=> ?_) ⟨ds,hI.reshape h1 hm,hk⟩
   simp only[fe] at hk
   obtain ⟨y,h5,h6⟩:=bind_some hk
   unfold mT at h5
   obtain ⟨⟨o1,s1⟩,h7,h8⟩:=bind_some h5
   refine ih h7 hs fun a' w' jC=> ?_
   have OW: ∀{e':Nat × List V},ways m 0 S.2 (o1,s1)=some e'→e'=e→Q (wo o1) a' w':=by
    intro e' q1 q2
    subst q2
    obtain ⟨rfl,S',k1,rfl⟩:=Ir q1 h4
    exact hQ a' w' (jC.reshape k1 hm)
   cases o1 with
   | norm=>
    obtain ⟨Ys,q1,q2⟩:=bind_some h8
    cases q2
    exact ⟨Ys,jC.reshape q1 hm,h6⟩
   | exit id=>
    obtain ⟨e',q1,q2⟩:=bind_some h8
    cases q2
    cases h6
    exact OW q1 rfl
   | ret=>
    obtain ⟨e',q1,q2⟩:=bind_some h8
    cases q2
    cases h6
    exact OW q1 rfl
 | _=>intro st st' out Q a w h;simp only[exec] at h;cases h
end
section
variable {P:Program} {A:cB} {w w':World} {I I' I2:Nat→Prop} {μ β β' bQ:Nat→Option Nat} {hp hp' hp0:Nat→Option an} {C:ag} {B:Nat} {M:Nat→Prop} {w0:Start}
theorem DV (S:aE P w I β hp B M w0) {a:Act} {st:St} (hs:kC P w I β hp a st.sl): ∀{l:List ResultVar} {xs:List V} {rd:List Nat},(s8 P st l).run C hp=some (xs,rd)→
  ∃vs:List Value,(l.mapM fun| .tmp t=>Pure.pure (a.tmps.getD t undef)| .cell x t=>do loadVar t (←asAddr (a.tmps.getD x undef)):Sem (List Value)).run P w= .ok vs w∧vs.length=xs.length∧l.length=xs.length∧
   ∀(j:Nat) v x,vs[j]? =some v→xs[j]? =some x→ao P w I β hp v x
 | [],xs,rd,h=>by
  cases h
  exact ⟨[],by simp,rfl,rfl,by simp⟩
 | .tmp t::l,xs,rd,h=>by
  simp only[s8] at h
  obtain ⟨ys,l1,l2,h1,U⟩:=kD h
  have h3:=GZ U
  subst h3
  obtain ⟨vs,a1,a2,a3,a4⟩:=DV S hs h1
  refine ⟨a.tmps.getD t undef::vs,by simp only[List.mapM_cons,Sem.run_bind,Sem.run_pure,Result.andThen_ok,a1],by simp[a2],by simp[a3],fun j v x hj hx=> ?_⟩
  cases j with
  | zero=>simp at hj hx;subst hj;subst hx;have:=hs t;simpa using this
  | succ j=>exact a4 j v x (by simpa using hj) (by simpa using hx)
 | .cell y t::l,xs,rd,h=>by
  simp only[s8] at h
  obtain ⟨r,l1,l2,h1,U⟩:=kD h
  obtain ⟨ys,l3,l4,h3,h4⟩:=kD U
  have h5:=GZ h4
  subst h5
  obtain ⟨v0,b1,b2,b3,ad,b4⟩:=Mr S (hs y) h1
  obtain ⟨vs,a1,a2,a3,a4⟩:=DV S hs h3
  refine ⟨v0::vs,?_,by simp[a2],by simp[a3],fun j v x hj hx=> ?_⟩
  ·have e1:(do loadVar t (←asAddr (a.tmps.getD y undef)):Sem Value).run P w= .ok v0 w:=by
    rw[b4] at b1⊢
    simpa[Instr.loadAt,Instr.sureAddr,asAddr] using b1
   simp only[List.mapM_cons,Sem.run_bind,e1,Result.andThen_ok,a1,Sem.run_pure]
  cases j with
  | zero=>simp at hj hx;subst hj;subst hx;exact b2
  | succ j=>exact a4 j v x (by simpa using hj) (by simpa using hx)
def tS:List Value→Value
 | [v]=>v
 | l=> .tuple l.toArray
theorem Yt {vs:List Value} (h:vs.length≠1):tS vs= .tuple vs.toArray:=by
 match vs,h with
 | [],_=>rfl
 | [v],h=>simp at h
 | v::v2::l,_=>rfl
theorem Yu {fn:Func} {a:Act} {st:St} (S:aE P w I β st.hp B M w0) (hs:kC P w I β st.hp a st.sl) {xs:List V} {rd:List Nat} (h:(s8 P st fn.results.toList).run C st.hp=some (xs,rd)):
  ∃vs:List Value,(results fn a.tmps).run P w= .ok (tS vs) w∧vs.length=xs.length∧
   ∀(j:Nat) v x,vs[j]? =some v→xs[j]? =some x→ao P w I β st.hp v x:=by
 obtain ⟨vs,a1,a2,_,a4⟩:=DV S hs h
 refine ⟨vs,?_,a2,a4⟩
 unfold results
 rw[Array.mapM_eq_mapM_toList]
 simp only[map_eq_pure_bind,bind_assoc,pure_bind,Sem.run_bind]
 refine (congrArg (fun r:Result (List Value)=>r.andThen _) a1).trans ?_
 simp only[Result.andThen_ok,Sem.run_pure]
 match vs with
 | []=>simp[tS]
 | [v]=>simp[tS]
 | v::v2::l=>simp[tS]
theorem OX: ∀{args:List V} {i k:Nat},dv (mU i args) k=if i≤k then args[k-i]? else none
 | [],i,k=>by simp[mU,dv]
 | v::vs,i,k=>by
  simp only[mU,dv]
  cases hb:Nat.beq k i with
  | true=>
   rw[aR] at hb
   subst hb
   simp
  | false=>
   have bu:k≠i:=fun e=>by rw[e,jo] at hb;cases hb
   simp only[cond_false,OX]
   by_cases h:i≤k
   ·rw[aj (by omega),aj h]
    obtain ⟨d,rfl⟩: ∃d,k=i+1+d:=⟨k-(i+1),by omega⟩
    rw[show i+1+d-(i+1)=d by omega,show i+1+d-i=d+1 by omega]
    rfl
   ·rw[ah (by omega),ah h]
theorem Is: ∀{l:List (Nat × VS)} {ds:List V} {i k:Nat},jV i l=true→dv (eX l ds) k=if i≤k then (ff (l.map (·.2)) ds)[k-i]? else none
 | [],ds,i,k,_=>by simp[eX,ff,dv]
 | (q,s)::l,ds,i,k,h=>by
  simp only[jV,aK,aR] at h
  obtain ⟨rfl,h⟩:=h
  simp only[eX,dv,cQ,ff]
  cases hb:Nat.beq k q with
  | true=>
   rw[aR] at hb
   subst hb
   simp
  | false=>
   have bu:k≠q:=fun e=>by rw[e,jo] at hb;cases hb
   simp only[cond_false]
   rw[Is h]
   by_cases h:q≤k
   ·rw[aj (by omega),aj h]
    obtain ⟨d,rfl⟩: ∃d,k=q+1+d:=⟨k-(q+1),by omega⟩
    rw[show q+1+d-(q+1)=d by omega,show q+1+d-q=d+1 by omega]
    rfl
   ·rw[ah (by omega),ah h]
theorem OY: ∀{l:List (Nat × VS)} {ds:List V},(eX l ds).map (·.2)=ff (l.map (·.2)) ds
 | [],_=>rfl
 | (q,s)::l,ds=>by simp only[eX,cQ,ff,OY]
theorem It: ∀{l:List VS} {ds:List V},(ff l ds).length=l.length
 | [],_=>rfl
 | s::l,ds=>by simp only[ff,List.length_cons,It]
theorem OZ: ∀{l:List (Nat × VS)} {ds:List V},(eX l ds).length=l.length
 | [],_=>rfl
 | (q,s)::l,ds=>by simp only[eX,List.length_cons,OZ]
theorem Yv {vals:List Value} {l:List (Nat × V)} (hl:vals.length=l.length) (h: ∀(j:Nat) v y,vals[j]? =some v→(l.map (·.2))[j]? =some y→ao P w I β hp v y):ao P w I β hp (tS vals) (oV l):=by
 match l,hl,h with
 | [],hl,h=>
  obtain rfl:vals=[]:=kW hl
  exact .bd rfl fun j v x _ hx=>by simp at hx
 | [(k,y)],hl,h=>
  match vals,hl,h with
  | [v],_,h=>exact h 0 v y rfl rfl
 | a::b::l,hl,h=>
  have bu:vals.length≠1:=by rw[hl];simp
  rw[Yt bu]
  simp only[oV]
  exact .bd (by simp[hl]) fun j v y hj hy=>h j v y (by simpa using hj) hy
theorem Yw {l:List BS} {ds:List V} {j:Nat} {e:TypeId} {es:List V} {aq:List Nat} (h:(ek l ds)[j]? =some (.nest e es aq)) (k:Nat):bA aq k=0:=by
 obtain ⟨b,e7,_,U⟩:=H5 h
 cases b<;>simp only[fw] at U<;>cases U
 match k with
 | 0=>rfl
 | 1=>rfl
 | 2=>rfl
 | _+3=>rfl
theorem Yx {f n m:Nat} {fn:Func} {a:Act} {st:St} {es:List V} {rd:List Nat} (hm: ∀id blk,hp0 id=some blk→id<m) (je: ∀id e es aq,hp0 id=some (.nest e es aq)→∀k,bA aq k=0)
  (hI:Inv P A.idle A.aD B M w0 μ hp0 n a w st) (mf:jV 0 (A.gg f).bK=true) (aU:(A.gg f).bK.length=fn.results.size) (h:(vB P A f fn m st).run C st.hp=some (es,rd)):
  ∃v I2 bQ,(results fn a.tmps).run P w= .ok v w∧aE P w I2 bQ (bn (A.so f es) (A.lv f es)).hp B M w0∧kI w0.w w0.I μ hp0 w I2 bQ (bn (A.so f es) (A.lv f es)).hp∧ao P w I2 bQ (bn (A.so f es) (A.lv f es)).hp v (oV (eX (A.so f es).bK (A.lv f es))):=by
 unfold vB at h
 obtain ⟨xs,l1,l2,h1,U⟩:=kD h
 obtain ⟨I,β,S,hA,hE⟩:=hI
 obtain ⟨vals,e1,e2,e3⟩:=Yu S hA.sl h1
 have e4:fn.results.size=xs.length:=by
  obtain ⟨_,_,_,q,_⟩:=DV S hA.sl h1
  simpa using q
 have fin: ∀(Sx:Shape) (es:List V),jV 0 Sx.bK=true→Sx.bK.length=fn.results.size→js m Sx (canon m (List.range xs.length) (freeze m (A.sY f) ⟨iX (mU 0 xs),st.hp,st.nb⟩))=some es→
   ∃v I2 bQ,(results fn a.tmps).run P w= .ok v w∧aE P w I2 bQ (bn Sx es).hp B M w0∧kI w0.w w0.I μ hp0 w I2 bQ (bn Sx es).hp∧ao P w I2 bQ (bn Sx es).hp v (oV (eX Sx.bK es)):=by
  intro Sx es mf aU tT
  have Yy:iI P A.idle A.aD w I β vals.length ⟨vals.toArray,[]⟩ ⟨iX (mU 0 xs),st.hp,st.nb⟩:=by
   refine ⟨fun k=> ?_,by simp,by simp,hA.aD⟩
   change ao P w I β st.hp _ (iX (mU 0 xs) k)
   unfold iX
   rw[OX]
   simp only[ko,dj,Nat.sub_zero]
   cases hk:xs[k]? with
   | none=>exact .undef
   | some x=>
    have hX:k<vals.length:=by rw[e2];exact (br.1 hk).1
    have:=e3 k vals[k] x (bz hX) hk
    have e5:(vals.toArray).getD k undef=vals[k]:=by simp[hX]
    rw[Option.getD_some]
    exact e5▸this
  obtain ⟨I2,k1,k2,k3⟩:=OG (st:=⟨iX (mU 0 xs),st.hp,st.nb⟩) (m:=m) (pur:=A.sY f) S Yy
  have Yz:Inv P A.idle A.aD B M w0 μ hp0 vals.length ⟨vals.toArray,[]⟩ w (freeze m (A.sY f) ⟨iX (mU 0 xs),st.hp,st.nb⟩):=⟨I2,β,k2,k3,hE.trans k1.DB⟩
  obtain ⟨I3,O0,q1,q2,q3⟩:=(Yz.canon (live:=List.range xs.length) hm je).reshape tT hm
  refine ⟨tS vals,I3,O0,e1,q1,q3,Yv (by rw[OZ,aU,e4,e2]) fun j v y hj hy=> ?_⟩
  have hv:=q2.sl j
  have b9:=(br.1 hj).1
  have e5:(vals.toArray).getD j undef=v:=by
   have:=(br.1 hj).2
   simp[b9,this]
  change ao P w I3 O0 _ ((vals.toArray).getD j undef) (iX (eX Sx.bK _) j) at hv
  rw[e5] at hv
  unfold iX at hv
  rw[Is mf] at hv
  simp only[ko,dj,Nat.sub_zero] at hv
  rw[OY] at hy
  rw[hy] at hv
  exact hv
 unfold cB.so cB.lv
 cases cb:A.alt f with
 | none=>
  rw[cb] at U
  simp only at U⊢
  split at U
  ·rename_i e7 tT
   have:=aN U
   subst this
   exact fin _ _ mf aU tT
  ·cases U
 | some S2=>
  rw[cb] at U
  simp only at U⊢
  split at U
  ·rename_i e7 tT
   have:=aN U
   subst this
   exact fin _ _ mf aU tT
  ·split at U
   ·rename_i e7 tT
    obtain ⟨hc,h3⟩:=aF U
    simp only[aK,aR] at hc
    have:=aN h3
    subst this
    exact fin _ _ hc.1 hc.2 tT
   ·cases U
theorem YA (hC:kJ P A C) (hP:iH P A) (ng:P.follows .mixedOrders=true):kJ P A (p6 P A C):=by
 intro f ds es h
 unfold p6 at h
 cases hf:P.funcs[A.aV f]? with
 | none=>rw[hf] at h;cases h
 | some fn=>
  rw[hf] at h
  simp only at h
  cases hb:fn.body with
  | none=>rw[hb] at h;cases h
  | some c=>
   rw[hb] at h
   simp only at h
   cases hc:(jV 0 (A.sin f).bK&&(Nat.ble (A.sin f).bK.length fn.ntmps&&((A.sin f).ok&&(jV 0 (A.gg f).bK&&(Nat.beq (A.gg f).bK.length fn.results.size&&pZ (nY (A.sin f).a8.length (A.mv f))))))) with
   | false=>rw[hc] at h;cases h
   | true=>
    rw[hc] at h
    simp only[cond_true] at h
    simp only[aK,aR,dP] at hc
    obtain ⟨j6,hnt,_,wi,aU,j7⟩:=hc
    obtain ⟨⟨out,st'⟩,h1,U⟩:=bind_some h
    refine ⟨fn,c,rfl,hb,fun w I μ vals hH YB hl hv=> ?_⟩
    have YC:(∀id,out≠ .exit id)∧∃rd,(vB P A f fn (A.sin f).a8.length st').run C st'.hp=some (es,rd):=by
     cases out with
     | exit id=>cases U
     | norm=>
      refine ⟨by simp,?_⟩
      simp only[yw] at U
      obtain ⟨⟨x,rd⟩,e1,e2⟩:=U
      simp only at e2
      subst e2
      exact ⟨rd,e1⟩
     | ret=>
      refine ⟨by simp,?_⟩
      simp only[yw] at U
      obtain ⟨⟨x,rd⟩,e1,e2⟩:=U
      simp only at e2
      subst e2
      exact ⟨rd,e1⟩
    obtain ⟨bu,rd,HV⟩:=YC
    refine calls_of_wp_defers hf hb ?_
    have hm: ∀id blk,(bn (A.sin f) ds).hp id=some blk→id<(A.sin f).a8.length:=by
     intro id blk ab
     simp only[bn,mk,gM] at ab
     have:=(br.1 ab).1
     rwa [DU] at this
    have je: ∀id e es aq,(bn (A.sin f) ds).hp id=some (.nest e es aq)→∀k,bA aq k=0:=by
     intro id e es aq ab k
     simp only[bn,mk,gM] at ab
     exact Yw ab k
    refine Yq (w0:=⟨w,I⟩) (μ:=μ) (hp0:=(bn (A.sin f) ds).hp) (B:=w.heap.size) (M:=ou P w μ (bn (A.sin f) ds).hp) hC hP ng hm je c h1 ?_ ?_
    ·refine Inv.enter j7 ?_ hm je fun p hp=>by
      simp only[bn,mk,gM]
      rw[List.getElem?_eq_none_iff,DU]
      exact hp
     refine ⟨I,μ,⟨hH,fun _ _ _=>rfl,ch _,fun b h=> .inl h,⟨rfl,rfl⟩⟩,⟨fun k=> ?_,?_,by simp,YB⟩,(Le.refl (P:=P) w I μ _).DB⟩
     ·change ao P w I μ _ _ (iX (eX (A.sin f).bK ds) k)
      unfold iX
      rw[Is j6]
      simp only[ko,dj,Nat.sub_zero]
      cases hk:(ff ((A.sin f).bK.map (·.2)) ds)[k]? with
      | none=>exact .undef
      | some x=>
       have hX:k<vals.length:=by
        have:=(br.1 hk).1
        rw[It,a9] at this
        rw[hl];exact this
       have:=hv k vals[k] x (bz hX) hk
       have e1:(vals.toArray++Array.replicate (fn.ntmps-vals.toArray.size) undef).getD k undef=vals[k]:=by
        simp[Array.getElem?_append,hX]
       rw[Option.getD_some]
       exact e1▸this
     ·simp
      omega
    ·intro a' w' hI
     obtain ⟨v,I2,bQ,q1,q2,q3,q4⟩:=Yx hm je hI wi aU HV
     obtain ⟨_,_,_,hA,_⟩:=hI
     cases out with
     | exit id=>exact absurd rfl (bu id)
     | norm=>exact Ib hP q1 ⟨v,I2,bQ,rfl,q2,q3,q4⟩ _ hA.defers
     | ret=>exact Ib hP q1 ⟨v,I2,bQ,rfl,q2,q3,q4⟩ _ hA.defers
theorem O1 (hP:iH P A) (ng:P.follows .mixedOrders=true): ∀n,kJ P A (ld P A n)
 | 0=>fun _ _ _ h=>by cases h
 | n+1=>YA (O1 hP ng n) hP ng
theorem YD (hP:iH P A) (ng:P.follows .mixedOrders=true):kJ P A (Call P A):=by
 intro f ds es h
 have hn: ∃n,ld P A n f ds=some es:=by
  unfold Call at h
  split at h
  ·rename_i hex
   have:=hex.choose_spec.choose_spec
   rw[cY h] at this
   exact ⟨_,this⟩
  ·cases h
 obtain ⟨n,hn⟩:=hn
 exact O1 hP ng n f ds es hn
end
section
variable {P:Program} {A:cB} {C:ag} {D:Nat→ag}
def zR (C:ag) (D:Nat→ag):Prop:= ∀f a r,C f a=some r→∃n,∀k,n≤k→D k f a=some r
theorem pf {α:Type} (h:zR C D) {hp:Nat→Option an}: ∀{p:Rd α} {r:α × List Nat},p.run C hp=some r→∃n,∀k,n≤k→p.run (D k) hp=some r
 | .ret a,r,e=>⟨0,fun _ _=>e⟩
 | .fail,r,e=>by cases e
 | .get id q,r,e=>by
  obtain ⟨x,h1,U⟩:=bind_some e
  obtain ⟨n,hn⟩:=pf h h1
  exact ⟨n,fun k hk=>by simp only[Rd.run,hn k hk,Option.bind_some];exact U⟩
 | .opt o q,r,e=>by
  obtain ⟨x,h1,U⟩:=bind_some e
  obtain ⟨n,hn⟩:=pf h U
  exact ⟨n,fun k hk=>by simp only[Rd.run,h1,Option.bind_some];exact hn k hk⟩
 | .live id ok q,r,e=>by
  simp only[Rd.run] at e
  cases hk:ok (fP (hp id)) with
  | false=>rw[hk] at e;cases e
  | true=>
   rw[hk] at e
   obtain ⟨x,h1,U⟩:=bind_some e
   obtain ⟨n,hn⟩:=pf h h1
   exact ⟨n,fun k mh=>by simp only[Rd.run,hk,cond_true,hn k mh,Option.bind_some];exact U⟩
 | .aB b q,r,e=>by
  obtain ⟨h1,U⟩:=aF e
  obtain ⟨n,hn⟩:=pf h U
  exact ⟨n,fun k hk=>by simp only[Rd.run,h1,cond_true];exact hn k hk⟩
 | .call f a q,r,e=>by
  obtain ⟨x,h1,U⟩:=bind_some e
  obtain ⟨n1,j6⟩:=h f a x h1
  obtain ⟨n2,wi⟩:=pf h U
  exact ⟨max n1 n2,fun k hk=>by simp only[Rd.run,j6 k (by omega),Option.bind_some];exact wi k (by omega)⟩
 | .alt true x y,r,e=>pf (p:=x) h e
 | .alt false x y,r,e=>pf (p:=y) h e
theorem YE (h:zR C D) {n i nb:Nat} {ops:Array Oper} {o:Oper} {st:St} {r:St × List Nat × List Nat} (e:gD P A C n ops i o nb st=some r): ∃N,∀k,N≤k→gD P A (D k) n ops i o nb st=some r:=by
 unfold gD at e
 have go:(((fg P A st.sl i (nb+64*i) o).run C st.hp).bind fun r=>some ((⟨gV st.sl o.dst r.1.v,bG st.hp r.1.upd,st.nb⟩:St),p5 r.2 r.1.upd,fx st.hp r.1.upd))=some r→
   ∃N,∀k,N≤k→(((fg P A st.sl i (nb+64*i) o).run (D k) st.hp).bind fun r=>some ((⟨gV st.sl o.dst r.1.v,bG st.hp r.1.upd,st.nb⟩:St),p5 r.2 r.1.upd,fx st.hp r.1.upd))=some r:=by
  intro e
  obtain ⟨x,h1,U⟩:=bind_some e
  obtain ⟨N,hN⟩:=pf h h1
  exact ⟨N,fun k hk=>by rw[hN k hk];exact U⟩
 unfold gD
 cases hd:rJ o n with
 | false=>rw[hd] at e;cases e
 | true=>
  rw[hd] at e
  simp only[cond_true] at e⊢
  cases hg:o.guard with
  | none=>rw[hg] at e;exact go e
  | some gw=>
   obtain ⟨g,want⟩:=gw
   rw[hg] at e
   simp only at e⊢
   cases lu:(ops[g]?).bind (·.dst) with
   | none=>rw[lu] at e;cases e
   | some d=>
    rw[lu] at e
    simp only at e⊢
    cases mg:kZ (st.sl d) with
    | none=>rw[mg] at e;cases e
    | some ob=>
    rw[mg] at e
    cases ob with
    | none=>exact ⟨0,fun _ _=>e⟩
    | some b=>
    simp only at e⊢
    cases hb:b==want with
    | true=>rw[hb] at e;exact go e
    | false=>rw[hb] at e;exact ⟨0,fun _ _=>e⟩
theorem O2 (h:zR C D) {n nb:Nat} {ops:Array Oper}: ∀{l:List (Nat × Oper)} {st:St} {log:Log} {r:St × Log},oW P A C n ops nb l st log=some r→∃N,∀k,N≤k→oW P A (D k) n ops nb l st log=some r
 | [],st,log,r,e=>⟨0,fun _ _=>e⟩
 | (i,o)::l,st,log,r,e=>by
  obtain ⟨x,h1,U⟩:=bind_some e
  obtain ⟨N1,ow⟩:=YE h h1
  obtain ⟨N2,qA⟩:=O2 h U
  exact ⟨max N1 N2,fun k hk=>by simp only[oW,ow k (by omega),Option.bind_some];exact qA k (by omega)⟩
theorem O3 {X R:Type} {step:X→Option (X ⊕ R)} {stepD:Nat→X→Option (X ⊕ R)} (hs: ∀x y,step x=some y→∃N,∀k,N≤k→stepD k x=some y): ∀(n:Nat) (x:X) (r:R),fe step n x=some r→∃N,∀k,N≤k→fe (stepD k) n x=some r
 | 0,x,r,e=>by cases e
 | n+1,x,r,e=>by
  simp only[fe] at e⊢
  obtain ⟨y,h1,U⟩:=bind_some e
  obtain ⟨N1,ow⟩:=hs x y h1
  cases y with
  | inl z=>
   obtain ⟨N2,qA⟩:=O3 hs n z r U
   exact ⟨max N1 N2,fun k hk=>by rw[ow k (by omega)];exact qA k (by omega)⟩
  | inr q=>exact ⟨N1,fun k hk=>by rw[ow k hk];exact U⟩
theorem YF (h:zR C D) {f n m:Nat}: ∀(c:Code) {st:St} {r:Out × St},exec P A C f n m c st=some r→∃N,∀k,N≤k→exec P A (D k) f n m c st=some r:=by
 intro c
 induction c with
 | skip=>exact fun e=>⟨0,fun _ _=>e⟩
 | exit id=>exact fun e=>⟨0,fun _ _=>e⟩
 | ret=>exact fun e=>⟨0,fun _ _=>e⟩
 | region id ops draw=>
  intro st r e
  simp only[exec] at e⊢
  obtain ⟨x,h1,U⟩:=bind_some e
  obtain ⟨y,h3,h4⟩:=bind_some h1
  obtain ⟨N,hN⟩:=O2 h h3
  refine ⟨N,fun k hk=> ?_⟩
  have:yV P (A.here f id) (D k) n ops draw st=some x:=by
   unfold yV
   rw[hN k hk]
   exact h4
  rw[this]
  exact U
 | seq x y iu iv=>
  intro st r e
  simp only[exec] at e⊢
  obtain ⟨⟨o,s1⟩,h1,U⟩:=bind_some e
  obtain ⟨N1,ow⟩:=iu h1
  cases o with
  | norm=>
   obtain ⟨N2,qA⟩:=iv U
   exact ⟨max N1 N2,fun k hk=>by rw[ow k (by omega)];exact qA k (by omega)⟩
  | exit id=>exact ⟨N1,fun k hk=>by rw[ow k hk];exact U⟩
  | ret=>exact ⟨N1,fun k hk=>by rw[ow k hk];exact U⟩
 | cond c x y iu iv=>
  intro st r e
  cases c with
  | tmp t=>
   have go: ∀{st:St} {r:Out × St},(match st.sl t with
     | .bool b=>(bif b then exec P A C f n m x st else exec P A C f n m y st).bind fun r=>
      match r.1 with
      | .norm=>some (.norm,canon m (A.join f t) r.2)
      | _=>some r
     | _=>none)=some r→∃N,∀k,N≤k→(match st.sl t with
     | .bool b=>(bif b then exec P A (D k) f n m x st else exec P A (D k) f n m y st).bind fun r=>
      match r.1 with
      | .norm=>some (.norm,canon m (A.join f t) r.2)
      | _=>some r
     | _=>none)=some r:=by
    intro st r e
    cases hs:st.sl t<;>rw[hs] at e<;>simp only at e⊢ <;>first|(cases e;done)|skip
    rename_i b
    obtain ⟨x1,h1,U⟩:=bind_some e
    cases b with
    | true=>
     obtain ⟨N,hN⟩:=iu h1
     exact ⟨N,fun k hk=>by simp only[cond_true,hN k hk,Option.bind_some];exact U⟩
    | false=>
     obtain ⟨N,hN⟩:=iv h1
     exact ⟨N,fun k hk=>by simp only[cond_false,hN k hk,Option.bind_some];exact U⟩
   simp only[exec] at e⊢
   split at e
   ·rename_i hS
    obtain ⟨N,hN⟩:=go e
    exact ⟨N,fun k hk=>hN k hk⟩
   ·rename_i S hS
    obtain ⟨ds,h1,U⟩:=bind_some e
    obtain ⟨e',h3,h4⟩:=bind_some U
    obtain ⟨r1,h5,h6⟩:=bind_some h3
    obtain ⟨N,hN⟩:=go h5
    refine ⟨N,fun k hk=> ?_⟩
    try rw[hS]
    simp only[h1,Option.bind_some]
    exact (congrArg (fun z:Option (Out × St)=>(z.bind fun r=>ways m 0 S.2 r).bind fun e=>lU 0 S.2 e.1 e.2 fun o st=>some (o,st)) (hN k hk)).trans (by simp only[Option.bind_some,h6];exact h4)
  | const v=>
   cases v with
   | bool b=>
    simp only[exec] at e⊢
    cases b with
    | true=>exact iu e
    | false=>exact iv e
   | _=>simp only[exec] at e;cases e
  | _=>simp only[exec] at e;cases e
 | block id c ih=>
  intro st r e
  simp only[exec] at e⊢
  obtain ⟨x1,h1,U⟩:=bind_some e
  obtain ⟨N,hN⟩:=ih h1
  exact ⟨N,fun k hk=>by rw[hN k hk];exact U⟩
 | loop c ih=>
  intro st r e
  simp only[exec] at e⊢
  split at e
  ·cases e
  ·rename_i S hS
   obtain ⟨ds,h1,U⟩:=bind_some e
   obtain ⟨e',h3,h4⟩:=bind_some U
   obtain ⟨q,hq⟩:=vh h3
   obtain ⟨N,hN⟩:=O3 (stepD:=fun k ds=>mT m S.1 S.2 (exec P A (D k) f n m c (bn S.1 ds))) (fun x y DW=>by
    unfold mT at DW⊢
    obtain ⟨z,h5,h6⟩:=bind_some DW
    obtain ⟨N,hN⟩:=ih h5
    exact ⟨N,fun k hk=>by rw[hN k hk];exact h6⟩) q ds e' hq
   refine ⟨N,fun k hk=> ?_⟩
   try rw[hS]
   simp only[h1,Option.bind_some]
   rw[yC (hN k hk)]
   exact h4
 | _=>intro st r e;simp only[exec] at e;cases e
theorem Iu (h:zR C D) {f:Nat} {ds es:List V} (e:p6 P A C f ds=some es): ∃N,∀k,N≤k→p6 P A (D k) f ds=some es:=by
 unfold p6 at e⊢
 cases hf:P.funcs[A.aV f]? with
 | none=>rw[hf] at e;cases e
 | some fn=>
  rw[hf] at e
  simp only at e⊢
  cases hb:fn.body with
  | none=>rw[hb] at e;cases e
  | some c=>
   rw[hb] at e
   simp only at e⊢
   cases hc:(jV 0 (A.sin f).bK&&(Nat.ble (A.sin f).bK.length fn.ntmps&&((A.sin f).ok&&(jV 0 (A.gg f).bK&&(Nat.beq (A.gg f).bK.length fn.results.size&&pZ (nY (A.sin f).a8.length (A.mv f))))))) with
   | false=>rw[hc] at e;cases e
   | true=>
    rw[hc] at e
    simp only[cond_true] at e⊢
    obtain ⟨⟨o,s1⟩,h1,U⟩:=bind_some e
    obtain ⟨N1,ow⟩:=YF h c h1
    cases o with
    | exit id=>cases U
    | norm=>
     simp only[yw] at U
     obtain ⟨x,e1,e2⟩:=U
     obtain ⟨N2,qA⟩:=pf h e1
     exact ⟨max N1 N2,fun k hk=>by rw[ow k (by omega)];simp only[Option.bind_some,qA k (by omega),Option.map_some,e2]⟩
    | ret=>
     simp only[yw] at U
     obtain ⟨x,e1,e2⟩:=U
     obtain ⟨N2,qA⟩:=pf h e1
     exact ⟨max N1 N2,fun k hk=>by rw[ow k (by omega)];simp only[Option.bind_some,qA k (by omega),Option.map_some,e2]⟩
theorem O4: ∀n f a r,ld P A n f a=some r→ld P A (n+1) f a=some r
 | 0,f,a,r,h=>by cases h
 | n+1,f,a,r,h=>by
  obtain ⟨N,hN⟩:=Iu (C:=ld P A n) (D:=fun _=>ld P A (n+1)) (fun f a r h=>⟨0,fun _ _=>O4 n f a r h⟩) h
  exact hN N (ch _)
theorem Iv {n k:Nat} (hk:n≤k) {f:Nat} {a r:List V} (h:ld P A n f a=some r):ld P A k f a=some r:=by
 induction hk with
 | refl=>exact h
 | step _ ih=>exact O4 _ _ _ _ ih
theorem DX {f:Nat} {a r:List V}:Call P A f a=some r↔∃n,ld P A n f a=some r:=by
 constructor
 ·intro h
  unfold Call at h
  split at h
  ·rename_i hex
   have:=hex.choose_spec.choose_spec
   rw[cY h] at this
   exact ⟨_,this⟩
  ·cases h
 ·rintro ⟨n,hn⟩
  have hex: ∃n r,ld P A n f a=some r:=⟨n,r,hn⟩
  unfold Call
  rw[rj hex]
  have U:=hex.choose_spec.choose_spec
  have h3:=Iv (Nat.le_max_left n hex.choose) hn
  have h4:=Iv (Nat.le_max_right n hex.choose) U
  rw[h3] at h4
  exact h4.symm
theorem YG (f:Nat) (a:List V):Call P A f a=p6 P A (Call P A) f a:=by
 apply Option.ext
 intro r
 constructor
 ·intro h
  obtain ⟨n,hn⟩:=DX.1 h
  cases n with
  | zero=>cases hn
  | succ n=>
   obtain ⟨N,hN⟩:=Iu (C:=ld P A n) (D:=fun _=>Call P A) (fun f a r h=>⟨0,fun _ _=>DX.2 ⟨n,h⟩⟩) hn
   exact hN N (ch _)
 ·intro h
  obtain ⟨N,hN⟩:=Iu (C:=Call P A) (D:=ld P A) (fun f a r h=>by
   obtain ⟨n,hn⟩:=DX.1 h
   exact ⟨n,fun k hk=>Iv hk hn⟩) h
  exact DX.2 ⟨N+1,hN N (ch _)⟩
end
end Go.AM
namespace Go.AM
open Go.ChangeShapes Go.WideShapes Go.RowKit
section
variable (P:Program)
inductive WT:TypeId→V→Prop
 | int {t:TypeId} {k:IntKind} {n:Int}:P.underlying t=some (.int k)→(Lit.int k n).wf=true→WT t (.int k n)
 | bool {t:TypeId} {b:Bool}:P.underlying t=some .bool→WT t (.bool b)
 | str {t:TypeId} {l:List UInt8}:P.underlying t=some .string→l.length≤maxLen→WT t (.str l)
 | list {t e:TypeId} {es:List V}:P.underlying t=some (.slice e)→es.length≤maxLen→
   (∀(i:Nat) x,es[i]? =some x→bE P e=true→∃xs,x= .agg xs∧xs.length=(aS P e).length)→
   (∀(i j:Nat) x t',es[i]? =some x→(aS P e)[j]? =some t'→WT t' (bH P e x j))→WT t (.list e es)
def jn (t:TypeId) (x:V):Prop:=
 (bE P t=true→∃xs,x= .agg xs∧xs.length=(aS P t).length)∧∀(j:Nat) t',(aS P t)[j]? =some t'→WT P t' (bH P t x j)
def pJ:List TypeId→List V→Prop
 | [],[]=>True
 | t::ts,x::xs=>jn P t x∧pJ ts xs
 | _,_=>False
def hasB (L:List TypeId) (t:TypeId):Bool:=L.any fun u=>Nat.beq u t
def DY (L:List TypeId):Nat→List Field→Bool
 | _,[]=>true
 | n,f::fs=>hasB L f.type&&(Nat.beq f.offset n&&(Nat.beq (P.cellsOf f.type) (aS P f.type).length&&DY L (n+P.cellsOf f.type) fs))
def zS:List Nat→List Nat→Bool
 | [],[]=>true
 | a::l,b::m=>Nat.beq a b&&zS l m
 | _,_=>false
def Iw (L:List TypeId) (t:TypeId):Bool:=
 Nat.beq (P.cellsOf t) (aS P t).length&&
 match P.underlying t with
 | some (.int _)=>true
 | some .bool=>true
 | some .string=>true
 | some (.slice e)=>hasB L e&&cL P e
 | some (.struct fs)=>DY P L 0 fs.toList&&zS (flat P t) (fs.toList.flatMap fun f=>aS P f.type)
 | some (.array n e)=>hasB L e&&(Nat.beq (P.cellsOf e) (aS P e).length&&zS (flat P t) (List.replicate n (aS P e)).flatten)
 | _=>false
def zT (L:List TypeId):Bool:=L.all fun t=>Iw P L t
end
theorem DZ {L:List TypeId} {t:TypeId} (h:hasB L t=true):t∈L:=by
 obtain ⟨u,hu,U⟩:=nR.1 h
 rw[aR] at U
 exact U▸hu
theorem Ix: ∀{l m:List Nat},zS l m=true→l=m
 | [],[],_=>rfl
 | a::l,b::m,h=>by
  simp only[zS,aK,aR] at h
  rw[h.1,Ix h.2]
 | [],_::_,h=>by cases h
 | _::_,[],h=>by cases h
section
variable {P:Program} {H:Type} {enc:TypeId × Value→H} {w:World} {base:Nat} {spare:Nat→Bool} {held:Bool} {L:List TypeId}
def nh (w:World):Nat→Prop:=fun b=>b<w.heap.size
def ni (P:Program) (w:World) (ts:List TypeId) (cs:List Value) (xs:List V):Prop:=
 cs.length=ts.length∧xs.length=ts.length∧∀(j:Nat) t',ts[j]? =some t'→∃v y,cs[j]? =some v∧xs[j]? =some y∧Pure P w (nh w) t' v y∧WT P t' y
theorem ni.app {ts vr:List TypeId} {cs hU:List Value} {xs O5:List V} (h:ni P w ts cs xs) (h':ni P w vr hU O5):ni P w (ts++vr) (cs++hU) (xs++O5):=by
 obtain ⟨a,b,c⟩:=h
 obtain ⟨a',b',c'⟩:=h'
 refine ⟨by simp[a,a'],by simp[b,b'],fun j t' hj=> ?_⟩
 by_cases aP:j<ts.length
 ·rw[ik aP] at hj
  obtain ⟨v,y,e1,e2,e3⟩:=c j t' hj
  exact ⟨v,y,by rw[ik (by omega)];exact e1,by rw[ik (by omega)];exact e2,e3⟩
 ·rw[il (by omega)] at hj
  obtain ⟨v,y,e1,e2,e3⟩:=c' _ t' hj
  exact ⟨v,y,by rw[il (by omega),a];exact e1,by rw[il (by omega),b];exact e2,e3⟩
theorem YH {w:World} {a:Addr} {v:Value} (h:w.cell? a=some v):a.spot=none∧a.block<w.heap.size:=by
 unfold World.cell? at h
 split at h
 ·rename_i hh
  split at h
  ·cases h
  ·rename_i hs
   exact ⟨by simpa using hs,(gS.1 hh).1⟩
 all_goals (first|cases h|skip)
theorem O6 {rd:TypeId→List Value→Option (DataW H × List MemPlace)} (cs:List Value)
  (ih: ∀t cs x,t∈L→rd t cs=some x→∃xs,ni P w (aS P t) cs xs): ∀(fs:List Field) (n:Nat),DY P L n fs=true→
  (∀f∈fs,∃x,rd f.type ((cs.drop f.offset).take (P.cellsOf f.type))=some x)→∃m xs,n≤m∧ni P w (fs.flatMap fun f=>aS P f.type) ((cs.drop n).take (m-n)) xs∧m-n=(fs.flatMap fun f=>aS P f.type).length
 | [],n,_,_=>⟨n,[],ch _,⟨by simp,rfl,by simp⟩,by simp⟩
 | f::fs,n,h,hx=>by
  simp only[DY,aK,aR] at h
  obtain ⟨h1,U,h3,h4⟩:=h
  obtain ⟨x,YI⟩:=hx f (by simp)
  obtain ⟨xs,gk⟩:=ih _ _ _ (DZ h1) YI
  obtain ⟨m,ys,hm,qB,Ii⟩:=O6 cs ih fs (n+P.cellsOf f.type) h4 fun g hg=>hx g (by simp[hg])
  refine ⟨m,xs++ys,by omega,?_,by simp only[mM,cx];omega⟩
  have:=gk.app qB
  rw[mM]
  rw[U] at this
  have e:(cs.drop n).take (m-n)=(cs.drop n).take (P.cellsOf f.type)++(cs.drop (n+P.cellsOf f.type)).take (m-(n+P.cellsOf f.type)):=by
   rw[show m-n=P.cellsOf f.type+(m-(n+P.cellsOf f.type)) by omega,List.take_add,pO]
  rw[e]
  exact this
theorem O7 {rd:List Value→Option (DataW H × List MemPlace)} (cs:List Value) {e:TypeId} (hs:P.cellsOf e=(aS P e).length)
  (ih: ∀cs x,rd cs=some x→∃xs,ni P w (aS P e) cs xs): ∀(n:Nat),
  (∀i,i<n→∃x,rd ((cs.drop (i*P.cellsOf e)).take (P.cellsOf e))=some x)→∃xs,ni P w (List.replicate n (aS P e)).flatten (cs.take (n*P.cellsOf e)) xs
 | 0,_=>⟨[],by simp,rfl,by simp⟩
 | n+1,hx=>by
  obtain ⟨xs,gk⟩:=O7 cs hs ih n fun i hi=>hx i (by omega)
  obtain ⟨x,zM⟩:=hx n (by omega)
  obtain ⟨ys,qB⟩:=ih _ _ zM
  refine ⟨xs++ys,?_⟩
  rw[List.replicate_succ',List.flatten_append]
  have:=gk.app qB
  rw[df,Nat.one_mul,List.take_add]
  simpa using this
theorem D0 (hL:zT P L=true): ∀(fuel:Nat) (t:TypeId) (cs:List Value) (x:DataW H × List MemPlace),t∈L→DataW.trod enc P w base spare held fuel t cs=some x→
  ∃xs,ni P w (aS P t) cs xs
 | 0,_,_,_,_,h=>by cases h
 | fuel+1,t,cs,x,ht,h=>by
  have hg:=fc.1 hL t ht
  unfold Iw at hg
  rw[aK,aR] at hg
  obtain ⟨hc,hg⟩:=hg
  have one:bE P t=false→aS P t=[t]:=fun h=>by simp[aS,h]
  cases hu:P.underlying t with
  | none=>rw[hu] at hg;cases hg
  | some d=>
   rw[hu] at hg
   cases d with
   | int k=>
    obtain ⟨n,rfl,rfl,zU⟩:=DataW.trod_int hu h
    rw[one (by simp[bE,hu])]
    exact ⟨[.int k n],rfl,rfl,fun j t' hj=>by
     cases j with
     | zero=>cases hj;exact ⟨_,_,rfl,rfl,.int hu,.int hu zU⟩
     | succ j=>simp at hj⟩
   | bool=>
    obtain ⟨b,rfl,rfl⟩:=DataW.trod_bool hu h
    rw[one (by simp[bE,hu])]
    exact ⟨[.bool b],rfl,rfl,fun j t' hj=>by
     cases j with
     | zero=>cases hj;exact ⟨_,_,rfl,rfl,.bool hu,.bool hu⟩
     | succ j=>simp at hj⟩
   | string=>
    obtain ⟨s,rfl,rfl,hl⟩:=DataW.trod_string hu h
    rw[one (by simp[bE,hu])]
    exact ⟨[.str s.data.toList],rfl,rfl,fun j t' hj=>by
     cases j with
     | zero=>cases hj;exact ⟨_,_,rfl,rfl,.str hu rfl,.str hu (by simpa using hl)⟩
     | succ j=>simp at hj⟩
   | slice e=>
    simp only[aK] at hg
    obtain ⟨he,au⟩:=hg
    rw[one (by simp[bE,hu])]
    have single: ∀v y,cs=[v]→Pure P w (nh w) t v y→WT P t y→∃xs,ni P w [t] cs xs:=by
     rintro v y rfl a b
     exact ⟨[y],rfl,rfl,fun j t' hj=>by
      cases j with
      | zero=>cases hj;exact ⟨_,_,rfl,rfl,a,b⟩
      | succ j=>simp at hj⟩
    rcases DataW.trod_slice hu h with ⟨rfl,rfl⟩|⟨a,len,cap,elems,rest,n,hn,rfl,rfl,hb,hl,hm,hlen,cN,_,_⟩
    ·exact single _ _ rfl (.nil hu) (.list hu (by simp) (by simp) (by simp))
    ·cases hn
     have ja:=(jY au).2
     have MZ:P.cellsOf e=(aS P e).length:=(fi au).symm
     have key: ∀i,i<len→∃hU xs,w.cells? base (a.add (i*P.cellsOf e)) (P.cellsOf e)=some hU∧ni P w (aS P e) hU xs:=by
      intro i hi
      have h1:=cN i hi
      rw[bz (by omega)] at h1
      obtain ⟨hU,U,h3⟩:=Option.bind_eq_some_iff.1 h1
      obtain ⟨xs,gk⟩:=D0 hL fuel e hU _ (DZ he) h3
      exact ⟨hU,xs,U,gk⟩
     by_cases h0:len=0
     ·subst h0
      exact single _ _ rfl (.emp hu) (.list hu (by simp) (by simp) (by simp))
     ·have gK:a.spot=none∧a.block<w.heap.size:=by
       obtain ⟨hU,xs,U,_⟩:=key 0 (by omega)
       obtain ⟨_,h3,h4⟩:=World.cells?_some U
       have h5:=h4 0 ja
       rw[bz (by omega)] at h5
       have:=YH h5
       simpa[Addr.add] using this
      have hF: ∃(F:Nat→List Value) (X:Nat→List V),∀i,i<len→w.cells? base (a.add (i*P.cellsOf e)) (P.cellsOf e)=some (F i)∧ni P w (aS P e) (F i) (X i):=by
       refine ⟨fun i=>if hi:i<len then (key i hi).choose else [],fun i=>if hi:i<len then (key i hi).choose_spec.choose else [],fun i hi=> ?_⟩
       simp only[rj hi]
       exact (key i hi).choose_spec.choose_spec
      obtain ⟨F,X,Iy⟩:=hF
      have hx: ∀(i j:Nat) y t',((List.range len).map fun i=>ct P e (X i))[i]? =some y→(aS P e)[j]? =some t'→i<len∧∃v,(F i)[j]? =some v∧Pure P w (nh w) t' v (bH P e y j)∧WT P t' (bH P e y j):=by
       intro i j y t' hy hj
       have hi:i<len:=by
        have:=(br.1 hy).1
        simpa using this
       refine ⟨hi,?_⟩
       simp[List.getElem?_range hi] at hy
       obtain ⟨c1,c2,c3⟩:=(Iy i hi).2
       obtain ⟨v,z,d1,d2,d3,d4⟩:=c3 j t' hj
       have:bH P e y j=z:=by
        rw[←hy]
        unfold bH ct
        cases ha:bE P e with
        | true=>
         simp only[cond_true,V.cell]
         rw[tp _ _ _ d2]
        | false=>
         simp only[cond_false]
         have:aS P e=[e]:=by simp[aS,ha]
         rw[this] at hj
         cases j with
         | zero=>rw[tp _ _ _ d2]
         | succ j=>simp at hj
       rw[this]
       exact ⟨v,d1,d3,d4⟩
      have fR: ∀i j,i<len→j<P.cellsOf e→w.cell? ⟨a.block,a.off+(i*P.cellsOf e+j),none⟩=some ((F i).getD j undef):=by
       intro i j hi hj
       obtain ⟨h1,U⟩:=Iy i hi
       obtain ⟨_,h3,h4⟩:=World.cells?_some h1
       have h5:=h4 j hj
       rw[Go.Deep.add_add] at h5
       have e1:a.add (i*P.cellsOf e+j)=⟨a.block,a.off+(i*P.cellsOf e+j),none⟩:=by
        obtain ⟨b,o,s⟩:=a
        simp only at gK
        rw[gK.1]
        exact mY ..
       rw[e1] at h5
       rw[h5,gB,bz (by omega)]
       rfl
      have ha:a=⟨a.block,a.off,none⟩:=by
       obtain ⟨b,o,s⟩:=a
       simp only at gK
       rw[gK.1]
      refine single (.slice (some a) len cap) (.list e ((List.range len).map fun i=>ct P e (X i))) rfl ?_ ?_
      ·rw[ha]
       refine .list (fun i j=>(F i).getD j undef) hu (by simp) hl (fun _=>gK.2) fR ?_
       intro i j y t' hy hj
       obtain ⟨hi,v,d1,d2,_⟩:=hx i j y t' hy hj
       rw[gB,d1]
       exact d2
      ·refine .list hu (by simp;omega) ?_ ?_
       ·intro i y hy D1
        have hi:i<len:=by
         have:=(br.1 hy).1
         simpa using this
        simp[List.getElem?_range hi] at hy
        rw[←hy]
        exact ⟨X i,by simp[ct,D1],(Iy i hi).2.2.1⟩
       ·intro i j y t' hy hj
        obtain ⟨_,v,_,_,d3⟩:=hx i j y t' hy hj
        exact d3
   | struct fs=>
    simp only[aK] at hg
    obtain ⟨xs,n,hn,rfl,hlen,mc,hx⟩:=DataW.trod_struct hu h
    cases hn
    have het:aS P t=fs.toList.flatMap fun f=>aS P f.type:=by
     rw[←Ix hg.2]
     simp[aS,bE,hu]
    obtain ⟨m,ys,_,qB,hm⟩:=O6 (w:=w) (rd:=fun t cs=>DataW.trod enc P w base spare held fuel t cs) cs (fun t cs x a b=>D0 hL fuel t cs x a b) fs.toList 0 hg.1 (by
     intro f hf
     obtain ⟨i,hi⟩:=rq hf
     rw[rr] at hi
     have qq:i<fs.size:=(gS.1 hi).1
     exact ⟨_,(hx i f hi).trans (bz (by omega))⟩)
    rw[het]
    refine ⟨ys,?_⟩
    have:(cs.drop 0).take (m-0)=cs:=by
     rw[iT,hm,←het,←hc,←hlen,pL]
    rw[this] at qB
    exact qB
   | array n e=>
    simp only[aK,aR] at hg
    obtain ⟨xs,m,hn,rfl,hlen,mc,hx⟩:=DataW.trod_array hu h
    cases hn
    have het:aS P t=(List.replicate n (aS P e)).flatten:=by
     rw[←Ix hg.2.2]
     simp[aS,bE,hu]
    obtain ⟨ys,qB⟩:=O7 (w:=w) (rd:=DataW.trod enc P w base spare held fuel e) cs hg.2.1 (fun cs x b=>D0 hL fuel e cs x (DZ hg.1) b) n (by
     intro i hi
     exact ⟨_,(hx i hi).trans (bz (by omega))⟩)
    rw[het]
    refine ⟨ys,?_⟩
    have:cs.take (n*P.cellsOf e)=cs:=by
     have:n*P.cellsOf e=cs.length:=by
      rw[hlen,hc,het,hg.2.1]
      simp
     rw[this,pL]
    rw[this] at qB
    exact qB
   | _=>cases hg
end
section
variable {P:Program} {H:Type} {enc:TypeId × Value→H} {w:World} {L:List TypeId}
theorem YJ {base Iz:Nat} {spare:Nat→Bool} {held:Bool} {r:Reach} {β:Nat→Option Nat} {hp:Nat→Option an} (hL:zT P L=true) {t:TypeId} {v:Value} {d:DataW H} {ps:List MemPlace} (ht:t∈L) (eN:Value.okWide P w r Iz t v)
  (h:DataW.Trod enc P w base spare held t v d ps): ∃x,ao P w (nh w) β hp v x∧jn P t x:=by
 obtain ⟨fuel,hf⟩:=h
 obtain ⟨xs,c1,c2,c3⟩:=D0 hL fuel t _ _ ht hf
 have hg:=fc.1 hL t ht
 unfold Iw at hg
 rw[aK,aR] at hg
 obtain ⟨_,hg⟩:=hg
 have D1:bE P t=true→∃x,ao P w (nh w) β hp v x∧jn P t x:=by
  intro ha
  have hv: ∃cs,v= .agg cs:=by
   unfold Value.okWide at eN
   unfold bE at ha
   split at eN
   ·obtain ⟨cs,e,_⟩:=eN;exact ⟨cs,e⟩
   ·obtain ⟨cs,e,_⟩:=eN;exact ⟨cs,e⟩
   ·split at ha<;>simp_all
  obtain ⟨cs,rfl⟩:=hv
  refine ⟨.agg xs,.agg (by simpa[Value.cells] using c1.trans c2.symm) fun j v x hv hx=> ?_,fun _=>⟨xs,rfl,c2⟩,fun j t' hj=> ?_⟩
  ·have hj:j<(aS P t).length:=by rw[←c2];exact (br.1 hx).1
   obtain ⟨v',y,e1,e2,e3,_⟩:=c3 j _ (bz hj)
   rw[hx] at e2
   cases e2
   have:cs[j]? =some v':=by simpa[Value.cells] using e1
   rw[hv] at this
   cases this
   exact .p8 e3
  ·obtain ⟨v',y,e1,e2,_,e4⟩:=c3 j t' hj
   have:bH P t (.agg xs) j=y:=by
    simp only[bH,ha,cond_true,V.cell]
    exact tp _ _ _ e2
   rw[this]
   exact e4
 have qn:bE P t=false→v.cells= #[v]→∃x,ao P w (nh w) β hp v x∧jn P t x:=by
  intro ha tx
  have he:aS P t=[t]:=by simp[aS,ha]
  rw[he] at c1 c2 c3
  obtain ⟨v',y,e1,e2,e3,e4⟩:=c3 0 t rfl
  rw[tx] at e1
  cases e1
  refine ⟨y,.p8 e3,⟨fun h=>absurd (ha.symm.trans h) (by simp),fun j t' hj=> ?_⟩⟩
  rw[he] at hj
  cases j with
  | succ j=>simp at hj
  | zero=>
   cases hj
   simpa[bH,ha] using e4
 unfold Value.okWide at eN
 cases hu:P.underlying t with
 | none=>rw[hu] at hg;cases hg
 | some YK=>
  rw[hu] at hg eN
  cases YK with
  | int k=>
   refine qn (by simp[bE,hu]) ?_
   simp only[Cell.okWide,Cell.ok,hu] at eN
   cases v<;>first|rfl|(simp at eN;done)|exact eN.elim
  | bool=>
   refine qn (by simp[bE,hu]) ?_
   simp only[Cell.okWide,Cell.ok,hu] at eN
   cases v<;>first|rfl|(simp at eN;done)|exact eN.elim
  | string=>
   refine qn (by simp[bE,hu]) ?_
   simp only[Cell.okWide,Cell.ok,hu] at eN
   cases v<;>first|rfl|(simp at eN;done)|exact eN.elim
  | slice e=>
   refine qn (by simp[bE,hu]) ?_
   simp only[Cell.okWide,Cell.ok,hu] at eN
   cases v<;>first|rfl|(simp at eN;done)|exact eN.elim
  | struct fs=>exact D1 (by simp[bE,hu])
  | array n e=>exact D1 (by simp[bE,hu])
  | _=>cases hg
theorem O8 {base Iz:Nat} {spare:Nat→Bool} {held:Bool} {r:Reach} {β:Nat→Option Nat} {hp:Nat→Option an} (hL:zT P L=true): ∀{ts:List TypeId} {vs:List Value} {ds:List (DataW H)} {ps:List MemPlace},
  (∀t∈ts,t∈L)→(∀(j:Nat) t v,ts[j]? =some t→vs[j]? =some v→Value.okWide P w r Iz t v)→DataW.TrodAll enc P w base spare held ts vs ds ps→
  ∃xs,vs.length=xs.length∧(∀(j:Nat) v x,vs[j]? =some v→xs[j]? =some x→ao P w (nh w) β hp v x)∧pJ P ts xs
 | [],vs,ds,ps,_,_,h=>by
  obtain ⟨rfl,rfl,rfl⟩:=trodAll_nil h
  exact ⟨[],rfl,by simp,trivial⟩
 | t::ts,vs,ds,ps,hm,eN,h=>by
  obtain ⟨v,CI,d,O9,a,b,rfl,rfl,rfl,h1,U⟩:=trodAll_cons h
  obtain ⟨x,zM,o4⟩:=YJ (β:=β) (hp:=hp) hL (hm t (by simp)) (eN 0 t v rfl rfl) h1
  obtain ⟨xs,hl,hr,hw⟩:=O8 (β:=β) (hp:=hp) hL (fun t ht=>hm t (by simp[ht])) (fun j t v a b=>eN (j+1) t v (by simpa using a) (by simpa using b)) U
  refine ⟨x::xs,by simp[hl],fun j v' x' hv hx=> ?_,o4,hw⟩
  cases j with
  | zero=>cases hv;cases hx;exact zM
  | succ j=>exact hr j v' x' (by simpa using hv) (by simpa using hx)
theorem Pb {base:Nat} {spare:Nat→Bool} {held:Bool}: ∀{ts:List TypeId} {vs:List Value} {ds:List (DataW H)} {ps:List MemPlace},DataW.TrodAll enc P w base spare held ts vs ds ps→ds.length=ts.length
 | [],vs,ds,ps,h=>by obtain ⟨rfl,rfl,rfl⟩:=trodAll_nil h;rfl
 | t::ts,vs,ds,ps,h=>by
  obtain ⟨v,CI,d,O9,a,b,rfl,rfl,rfl,h1,U⟩:=trodAll_cons h
  simp[Pb U]
theorem Pc {base:Nat} (hl:laidOutB P=true) {W W':World} {Pd:Nat→Bool}: ∀{ts:List TypeId} {vs:List Value} {ds:List (DataW H)} {ps:List MemPlace},(∀t∈ts,P.readableRec t=true∧t<P.types.size)→
  DataW.TrodAll enc P W base (fun _=>true) true ts vs ds ps→(∀p∈ps,W.sameAt W' p)→(∀p∈ps,Pd p.block=true)→DataW.TrodAll enc P W' base Pd true ts vs ds ps
 | [],vs,ds,ps,_,h,_,_=>by obtain ⟨rfl,rfl,rfl⟩:=trodAll_nil h;exact trodAll_mk0
 | t::ts,vs,ds,ps,hr,h,h1,U=>by
  obtain ⟨v,CI,d,O9,a,b,rfl,rfl,rfl,h3,h4⟩:=trodAll_cons h
  obtain ⟨r1,r2⟩:=hr t (by simp)
  exact trodAll_cons_mk (WideElems.Trod_stays hl r1 r2 h3 (fun p hp=>h1 p (by simp[hp])) (fun p hp=>U p (by simp[hp])))
   (Pc hl (fun t ht=>hr t (by simp[ht])) h4 (fun p hp=>h1 p (by simp[hp])) (fun p hp=>U p (by simp[hp])))
theorem YL {f:Func} {s:ChangeSpec} {apart fresh handsOn again:Bool} {W W':World} {args:Array Value} {v:Value} {ds gs:List (DataW H)} {before pa pv:List MemPlace}
  (hW:DataW.Whole enc P f.params.toList s.vars apart W args.toList ds gs before)
  (Pe: ∀(b:Nat) (sp:Nat→Bool) (hd:Bool),DataW.TrodAll enc P W' b sp hd f.resultTypes.toList (v.resultList f.resultTypes.size) (s.fn H (ds++gs)).results [])
  (tN: ∀sp:Nat→Bool,(∀p∈before,sp p.block=true)→DataW.TrodAll enc P W' 0 sp true f.params.toList args.toList (s.fn H (ds++gs)).args pa)
  (Pf: ∀sp:Nat→Bool,(∀p∈before,sp p.block=true)→DataW.TrodVars enc P W' sp s.vars (s.fn H (ds++gs)).vars pv)
  (D2:before=pa++pv) (hk:W.keptBut W' (· ∈before)) (IA: ∀a:Addr,a.block<W.heap.size→W'.frozen? a=W.frozen? a)
  (au: ∀(j:Nat) (t:TypeId) (r:Value),f.resultTypes[j]? =some t→(v.resultList f.resultTypes.size)[j]? =some r→Value.okWide P W' .any 0 t r):
  s.post enc P f apart fresh handsOn again W args v W':=by
 have hold: ∀p∈before,(fun b=>decide (b<W.heap.size)) p.block=true:=fun p hp=>by simpa using hW.lt p hp
 refine ⟨ds,gs,before,[],pa,pv,hW,Pe _ _ _,tN _ hold,Pf _ hold,World.keptBut_mono (fun p hp=>⟨hp,?_⟩) hk,fun _=> ?_⟩
 ·rw[D2,ei] at hp
  exact Or.inr hp
 ·have aP:=hW.lt
  obtain ⟨_,_,_,_,_,hz,hn⟩:=hW
  refine ⟨au,_,_,([]++pa)++pv,⟨[]++pa,pv,trodAll_append (tN _ (fun _ _=>rfl)) (Pe _ _ _),Pf _ (fun _ _=>rfl),rfl,?_,?_⟩,?_⟩
  ·intro b off hp
   have hb:MemPlace.cell b off∈before:=by rw[D2];simpa using hp
   rw[IA ⟨b,off,none⟩ (aP _ hb)]
   exact hz b off hb
  ·intro ha
   have:=hn ha
   rw[D2] at this
   simpa using this
  ·intro p hp _
   rw[D2]
   simpa using hp
theorem YM {A:cB} (hP:iH P A) (ng:P.follows .mixedOrders=true) {f key:Nat} {fn:Func} {tb:TypeId} {s:ChangeSpec} {apart fresh handsOn again:Bool}
  (hf:P.funcs[f]? =some fn) (IB:A.aV key=f) (hL:zT P L=true) (bZ:fn.params.toList.all (fun t=>hasB L t)=true) (D3:fn.resultTypes= #[tb]) (D4:P.underlying tb=some .bool) (D5:s.vars=[])
  (hs: ∀ds:List (DataW H),ds.length=fn.params.toList.length→s.fn H ds={results:=[.lit (.bool true)],args:=ds})
  (IC:laidOutB P=true) (ID:fn.params.toList.all (fun t=>P.readableRec t&&Nat.blt t P.types.size)=true)
  (lk:(A.sin key).a8=[]) (au:((A.sin key).bK.map (·.2)).all (VS.ok 0)=true) (IE:(A.gg key).bK=[(0,.one .bool)]) (halt:A.alt key=none)
  {W:World} {base:Nat} {args:Array Value} {ds gs:List (DataW H)} {before:List MemPlace}
  (IF:fZ P A.aD W (nh W)) (eN: ∀(j:Nat) t v,fn.params[j]? =some t→args[j]? =some v→Value.okWide P W .any base t v)
  (hW:DataW.Whole enc P fn.params.toList s.vars apart W args.toList ds gs before) (Q:List V→Prop)
  (hQ: ∀xs:List V,pJ P fn.params.toList xs→(∀(j:Nat) v x,args.toList[j]? =some v→xs[j]? =some x→ao P W (nh W) (fun _=>none) (fun _=>none) v x)→Q xs)
  (IG: ∀xs,pJ P fn.params.toList xs→Q xs→∃ds,pK ((A.sin key).bK.map (·.2)) xs=some ds∧Call P A key ds=some [.bool true]):
  Calls P f args W fun e W'=> ∃v,e= .returned v∧s.post enc P fn apart fresh handsOn again W args v W':=by
 have Pg:=hW
 obtain ⟨p,q,hA,hV,rfl,IA,j7⟩:=hW
 rw[D5] at hV
 obtain ⟨IH,hq⟩:gs=[]∧q=[]:=by
  cases gs with
  | nil=>exact ⟨rfl,hV⟩
  | cons g gs=>exact hV.elim
 subst IH
 subst hq
 obtain ⟨xs,hl,hr,Ph⟩:=O8 (β:=fun _=>none) (hp:=fun _=>none) hL (fun t ht=>DZ (fc.1 bZ t ht)) (fun j t v a b=>eN j t v (by simpa using a) (by simpa using b)) hA
 obtain ⟨ls,YN,zJ⟩:=IG xs Ph (hQ xs Ph hr)
 obtain ⟨fn',c,h1,U,h3⟩:=YD (A:=A) hP ng key ls [.bool true] zJ
 rw[IB] at h1 h3
 rw[hf] at h1
 cases h1
 have wq: ∀j,(bn (A.sin key) ls).hp j=none:=fun j=>by simp[bn,mk,lk,ek,jr]
 obtain ⟨_,r1,r2⟩:=zy (P:=P) (w:=W) (I:=nh W) (n:=0) (β:=fun _=>none) (β':=fun _=>none) (hp:=fun _=>none) (hp':=(bn (A.sin key) ls).hp) (fun j hj=>absurd hj (Nat.not_lt_zero j)) YN au
 have hlen:((A.sin key).bK.map (·.2)).length=xs.length:=by rw[←r1 [],It]
 have h4:=h3 W (nh W) (fun _=>none) args.toList ⟨fun id blk h=>(by rw[wq] at h;cases h),fun id aC blk blk' b h=>(by rw[wq] at h;cases h),fun id blk b h=>(by rw[wq] at h;cases h),fun b h=>h⟩ IF
  (by rw[hl,←hlen,a9]) (fun j v y hv hy=>r2 [] j v y (fun x hx=>hr j v x hv hx) (by rw[dJ];exact hy))
 have ea:args.toList.toArray=args:=by simp
 rw[ea] at h4
 refine h4.mono fun e W' ⟨v,I2,bQ,he,ha⟩=>⟨v,he,?_⟩
 have tu: ∀b,b<W.heap.size→W'.heap[b]? =W.heap[b]? :=fun b hb=>ha.wa.b8 b hb (by rintro ⟨j,blk,hj,_⟩;rw[wq] at hj;cases hj)
 have HF:=ha.res
 have Pj:A.so key [.bool true]=A.gg key∧A.lv key [.bool true]=[.bool true]:=by unfold cB.so cB.lv;rw[halt];exact ⟨rfl,rfl⟩
 rw[Pj.1,Pj.2,IE] at HF
 obtain rfl:v= .bool true:=HF.jZ
 have lp:Value.okWide P W' .any 0 tb (.bool true):=by simp[Value.okWide,D4,Cell.okWide,Cell.ok]
 have kV:ds.length=fn.params.toList.length:=Pb hA
 have iG: ∀p'∈p++[],W.sameAt W' p':=by
  intro p' hp'
  have aP:=Pg.lt p' hp'
  cases p' with
  | cell b o=>exact World.cell?_of_block (w:=W) (tu b aP)
  | map b=>exact tu b aP
 refine YL (pa:=p) (pv:=[]) Pg ?_ ?_ ?_ rfl ?_ ?_ ?_
 ·intro b sp hd
  rw[dJ,hs ds kV,D3]
  exact trodAll_mk1 ⟨1,by simp[DataW.trod,Value.cells,D4]⟩
 ·intro sp gK
  rw[dJ,hs ds kV]
  refine Pc IC (fun t ht=> ?_) hA (fun p' hp'=>iG p' (by simpa using hp')) (fun p' hp'=>gK p' (by simpa using hp'))
  have:=fc.1 ID t ht
  simp only[aK] at this
  exact ⟨this.1,by simpa[jN] using this.2⟩
 ·intro sp gK
  rw[D5,dJ,hs ds kV]
  exact rfl
 ·refine ⟨ha.wa.io.1,ha.wa.io.2,fun i hi=> ?_⟩
  rw[tu i hi]
  split<;>simp_all
 ·intro a aP
  exact World.frozen?_of_block (w:=W) (tu a.block aP)
 ·intro j t r hj II
  rw[D3] at hj II
  cases j with
  | zero=>
   simp[Value.resultList] at hj II
   subst hj
   subst II
   exact lp
  | succ j=>simp at hj
theorem Vh {A:cB} (hP:iH P A) (ng:P.follows .mixedOrders=true) {f key:Nat} {fn:Func} {tb:TypeId} {s:ChangeSpec} {apart fresh handsOn again:Bool}
  (hf:P.funcs[f]? =some fn) (IB:A.aV key=f) (hL:zT P L=true) (bZ:fn.params.toList.all (fun t=>hasB L t)=true) (D3:fn.resultTypes= #[tb]) (D4:P.underlying tb=some .bool) (D5:s.vars=[])
  (hs: ∀ds:List (DataW H),ds.length=fn.params.toList.length→s.fn H ds={results:=[.lit (.bool true)],args:=ds})
  (IC:laidOutB P=true) (ID:fn.params.toList.all (fun t=>P.readableRec t&&Nat.blt t P.types.size)=true)
  (lk:(A.sin key).a8=[]) (au:((A.sin key).bK.map (·.2)).all (VS.ok 0)=true) (IE:(A.gg key).bK=[(0,.one .bool)]) (halt:A.alt key=none)
  (IG: ∀xs,pJ P fn.params.toList xs→∃ds,pK ((A.sin key).bK.map (·.2)) xs=some ds∧Call P A key ds=some [.bool true])
  {W:World} {base:Nat} {args:Array Value} {ds gs:List (DataW H)} {before:List MemPlace}
  (IF:fZ P A.aD W (nh W)) (eN: ∀(j:Nat) t v,fn.params[j]? =some t→args[j]? =some v→Value.okWide P W .any base t v)
  (hW:DataW.Whole enc P fn.params.toList s.vars apart W args.toList ds gs before):
  Calls P f args W fun e W'=> ∃v,e= .returned v∧s.post enc P fn apart fresh handsOn again W args v W':=
 YM hP ng hf IB hL bZ D3 D4 D5 hs IC ID lk au IE halt IF eN hW (fun _=>True) (fun _ _ _=>trivial) fun xs h _=>IG xs h
end
end Go.AM
namespace Go.AM
@[simp] theorem V.toInt_int (k:IntKind) (n:Int):V.toInt (.int k n)=n:=by cases k<;>rfl
@[simp] theorem V.dA (b:Bool):V.toBool (.bool b)=b:=by cases b<;>rfl
@[simp] theorem V.D6 (s:List UInt8):V.toStr (.str s)=s:=by cases s<;>rfl
@[simp] theorem V.lz (e:TypeId) (es:List V):V.toList (.list e es)=es:=by cases es<;>rfl
@[simp] theorem V.ahu (e:TypeId) (es:List V):V.toList (.own e es)=es:=by cases es<;>rfl
@[simp] theorem V.YO (cs:List V) (j:Nat):V.cell (.agg cs) j=V.nth cs j:=by cases cs<;>rfl
@[simp] theorem V.ahv (cs:List V) (j:Nat):V.comp (.bd cs) j=V.nth cs j:=by cases cs<;>rfl
@[simp] theorem V.aQ (x:V) (l:List V):V.nth (x::l) 0=x:=by cases l<;>rfl
@[simp] theorem V.qC (x:V) (l:List V) (n:Nat):V.nth (x::l) (n+1)=V.nth l n:=by cases l<;>rfl
@[simp] theorem V.ahw (x y:V) (l:List V):V.nth (x::y::l) 1=y:=by cases l<;>rfl
@[simp] theorem V.ahx (x y z:V) (l:List V):V.nth (x::y::z::l) 2=z:=by cases l<;>rfl
@[simp] theorem V.ahy (x y z u:V) (l:List V):V.nth (x::y::z::u::l) 3=u:=by cases l<;>rfl
theorem wrap64 {x:Int} (h1: -9223372036854775808≤x) (U:x<9223372036854775808):IntKind.wrap .i64 x=x:=by
 rw[IntKind.wrap_i64];omega
theorem zV {x:Int} (h1:0≤x) (U:x<256):IntKind.wrap .u8 x=x:=by
 rw[IntKind.wrap_u8];omega
theorem YP {es:List V} {i:Int} {n:Nat} (h:i=n):idx es i=es[n]? :=by
 subst h;simp[idx]
@[simp] theorem Pk (es:List V) (n:Nat):idx es (n:Int)=es[n]? :=by simp[idx]
@[simp] theorem aA {α:Type} (p:Prop) [Decidable p] (a b:α):(bif decide p then a else b)=if p then a else b:=by by_cases h:p<;>simp[h]
@[simp] theorem eL {α:Type} (m n:Int) (a b:α):(bif m==n then a else b)=if m=n then a else b:=by
 by_cases h:m=n
 ·simp[h]
 ·have:(m==n)=false:=by simp[h]
  rw[this,ah h];rfl
@[simp] theorem wu {α:Type} (m n:Int) (a b:α):(bif m != n then a else b)=if m=n then b else a:=by
 by_cases h:m=n
 ·simp[h]
 ·have:(m != n)=true:=by simp[h]
  rw[this,ah h];rfl
@[simp] theorem hY {α:Type} (c:Bool) (a b:α):(bif !c then a else b)=bif c then b else a:=by cases c<;>rfl
@[simp] theorem IJ {α:Type} (m n:Nat) (a b:α):(bif Nat.ble m n then a else b)=if m≤n then a else b:=by
 cases hb:Nat.ble m n with
 | true=>rw[aj (Nat.le_of_ble_eq_true hb)];rfl
 | false=>
  rw[ah fun h=> ?_]
  ·rfl
  ·rw[Nat.ble_eq_true_of_le h] at hb;cases hb
@[simp] theorem dq {α:Type} (c d:Bool) (a b:α):(bif c&&d then a else b)=bif c then (bif d then a else b) else b:=by cases c<;>rfl
section
variable {P:Program}
def Pl (P : Program) : Bool := P.funcs.all fun fn => !(fn.name == "runtime.NumGoroutine")
theorem Vc (h:Pl P=true):yj P:=by
 intro f fn hf
 unfold Pl at h
 have:=(Array.all_eq_true_iff_forall_mem.1 h) fn (Array.mem_of_getElem? hf)
 simpa using this
theorem Gt {t:TypeId} {ts:List TypeId} {xs:List V} (h:pJ P (t::ts) xs): ∃x ys,xs=x::ys∧jn P t x∧pJ P ts ys:=by
 cases xs with
 | nil=>exact h.elim
 | cons x ys=>exact ⟨x,ys,rfl,h.1,h.2⟩
theorem Ve {xs:List V} (h:pJ P [] xs):xs=[]:=by
 cases xs with
 | nil=>rfl
 | cons x ys=>exact h.elim
theorem jn.one {t:TypeId} {x:V} (ha:bE P t=false) (h:jn P t x):WT P t x:=by
 have he:aS P t=[t]:=by simp[aS,ha]
 have:=h.2 0 t (by rw[he];rfl)
 simpa[bH,ha] using this
theorem WT.dL {t:TypeId} {k:IntKind} {x:V} (hu:P.underlying t=some (.int k)) (h:WT P t x): ∃n,x= .int k n∧k.min≤n∧n≤k.max:=by
 cases h with
 | int h1 U=>
  rw[hu] at h1
  cases h1
  simp only[Lit.wf,aK,dH] at U
  exact ⟨_,rfl,U⟩
 | bool h1=>rw[hu] at h1;cases h1
 | str h1=>rw[hu] at h1;cases h1
 | list h1=>rw[hu] at h1;cases h1
theorem WT.jZ {t:TypeId} {x:V} (hu:P.underlying t=some .bool) (h:WT P t x): ∃b,x= .bool b:=by
 cases h with
 | int h1=>rw[hu] at h1;cases h1
 | bool h1=>exact ⟨_,rfl⟩
 | str h1=>rw[hu] at h1;cases h1
 | list h1=>rw[hu] at h1;cases h1
theorem WT.lX {t:TypeId} {x:V} (hu:P.underlying t=some .string) (h:WT P t x): ∃s,x= .str s∧s.length≤maxLen:=by
 cases h with
 | int h1=>rw[hu] at h1;cases h1
 | bool h1=>rw[hu] at h1;cases h1
 | str h1 U=>exact ⟨_,rfl,U⟩
 | list h1=>rw[hu] at h1;cases h1
theorem WT.YQ {t e:TypeId} {x:V} (hu:P.underlying t=some (.slice e)) (h:WT P t x): ∃es,x= .list e es∧es.length≤maxLen∧∀y∈es,jn P e y:=by
 cases h with
 | int h1=>rw[hu] at h1;cases h1
 | bool h1=>rw[hu] at h1;cases h1
 | str h1=>rw[hu] at h1;cases h1
 | list h1 U h3 h4=>
  rw[hu] at h1
  cases h1
  refine ⟨_,rfl,U,fun y hy=> ?_⟩
  obtain ⟨i,hi⟩:=rq hy
  exact ⟨h3 i y hi,fun j t' hj=>h4 i j y t' hi hj⟩
theorem jn.kE {t:TypeId} {x:V} (ha:bE P t=true) (h:jn P t x): ∃xs,x= .agg xs∧xs.length=(aS P t).length∧∀(j:Nat) t' y,(aS P t)[j]? =some t'→xs[j]? =some y→WT P t' y:=by
 obtain ⟨xs,rfl,hl⟩:=h.1 ha
 refine ⟨xs,rfl,hl,fun j t' y hj hy=> ?_⟩
 have:=h.2 j t' hj
 simp only[bH,ha,cond_true,V.YO] at this
 rw[tp _ _ _ hy] at this
 exact this
theorem Pm {α:Type} {f:α→V} {p:α→Prop}: ∀{es:List V},(∀y∈es,∃a,y=f a∧p a)→∃l:List α,es=l.map f∧∀a∈l,p a
 | [],_=>⟨[],rfl,by simp⟩
 | y::es,h=>by
  obtain ⟨a,rfl,ha⟩:=h y (by simp)
  obtain ⟨l,rfl,hl⟩:=Pm (f:=f) (p:=p) (es:=es) fun z hz=>h z (by simp[hz])
  exact ⟨a::l,rfl,by
   intro b hb
   rcases dg.1 hb with rfl|hb
   ·exact ha
   ·exact hl b hb⟩
theorem jn.int {t:TypeId} {x:V} (hu:P.underlying t=some (.int .i64)) (h:jn P t x): ∃n,x= .int .i64 n∧IntKind.min .i64≤n∧n≤IntKind.max .i64:=
 (h.one (by simp[bE,hu])).dL hu
theorem jn.str {t:TypeId} {x:V} (hu:P.underlying t=some .string) (h:jn P t x): ∃s,x= .str s∧s.length≤maxLen:=
 (h.one (by simp[bE,hu])).lX hu
end
def un.{u} {A B:Type} {γ:Sort u} (f:A→B→γ) (p:A × B):γ:=f p.1 p.2
def bR {A B γ:Type} (f:A→γ) (g:B→γ):A ⊕ B→γ
 | .inl a=>f a
 | .inr b=>g b
def aw:List Nat→Code→Code
 | [],c=>c
 | 0::p,.seq a _=>aw p a
 | _::p,.seq _ b=>aw p b
 | 0::p,.cond _ a _=>aw p a
 | _::p,.cond _ _ b=>aw p b
 | _::p,.block _ c=>aw p c
 | _::p,.loop c=>aw p c
 | _,c=>c
inductive cv where
 | loop (c:Code)
 | cond (t:Nat) (x y:Code)
section
variable (P:Program) (A:cB) (C:ag) (L:cz) (f n m:Nat)
def pg:Code→List cv
 | .seq a b=>pg a++pg b
 | .cond (.tmp t) x y=>
  match A.gT f (t*16+15) with
  | none=>pg x++pg y
  | some _=>[.cond t x y]
 | .cond (.const _) x y=>pg x++pg y
 | .block _ c=>pg c
 | .loop c=>[.loop c]
 | _=>[]
def cw:cv→Prop
 | .loop c=>
  match A.gT f (keyOf c+1) with
  | none=>True
  | some S=> ∀(β:Type) ds (k:Nat→List V→Option β),L β (keyOf c+1) ds k=(Loop (stepG P A C f n m S c) ds).bind fun r=>k r.1 r.2
 | .cond t x y=>
  match A.gT f (t*16+15) with
  | none=>True
  | some S=> ∀(β:Type) ds (k:Nat→List V→Option β),L β (t*16+15) ds k=(yW P A C f n m t S x y ds).bind fun r=>k r.1 r.2
def nj:List cv→Prop
 | []=>True
 | b::l=>cw P A C L f n m b∧nj l
variable {P A C L f n m}
theorem nj.left {a b:List cv}:nj P A C L f n m (a++b)→nj P A C L f n m a:=by
 induction a with
 | nil=>exact fun _=>trivial
 | cons x a ih=>exact fun h=>⟨h.1,ih h.2⟩
theorem nj.right {a b:List cv}:nj P A C L f n m (a++b)→nj P A C L f n m b:=by
 induction a with
 | nil=>exact fun h=>h
 | cons x a ih=>exact fun h=>ih h.2
theorem bf: ∀{c:Code} {bs:List cv},pg A f c=bs→nj P A C L f n m bs→gZ P A C L f n m c:=by
 intro c
 induction c with
 | seq a b GR GS=>
  intro bs h hb
  subst h
  exact ⟨GR rfl hb.left,GS rfl hb.right⟩
 | cond c x y iu iv=>
  intro bs h hb
  subst h
  cases c with
  | tmp t=>
   simp only[pg] at hb
   simp only[gZ]
   cases hs:A.gT f (t*16+15) with
   | none=>
    rw[hs] at hb
    exact ⟨iu rfl hb.left,iv rfl hb.right⟩
   | some S=>
    rw[hs] at hb
    have:=hb.1
    simp only[cw,hs] at this
    exact this
  | const v=>exact ⟨iu rfl hb.left,iv rfl hb.right⟩
  | _=>trivial
 | block id c ih=>
  intro bs h hb
  subst h
  exact ih rfl hb
 | loop c ih=>
  intro bs h hb
  subst h
  exact hb.1
 | _=>intro bs h hb;trivial
variable (P A C L f n m) in
noncomputable def IK {β:Type} (t:Nat) (S:Shape × List (Out × Shape)) (x y:Code) (ds:List V) (k:Nat→List V→Option β):Option β:=
 let kc:Out→St→Option β:=fun o st=>
  match o with
  | .norm=>(ways m 0 S.2 (.norm,canon m (A.join f t) st)).bind fun e=>k e.1 e.2
  | o=>(ways m 0 S.2 (o,st)).bind fun e=>k e.1 e.2
 match (bn S.1 ds).sl t with
 | .bool b=>bif b then gY P A C L f n m x (bn S.1 ds) kc else gY P A C L f n m y (bn S.1 ds) kc
 | _=>none
theorem YR {t:Nat} {x y:Code} {S:Shape × List (Out × Shape)} (hS:A.gT f (t*16+15)=some S) (hx:gZ P A C L f n m x) (hy:gZ P A C L f n m y) {I R:Type} (enc:I→List V) (mj:I→R→Nat × List V)
  (de:List V→I) (body:I→(β:Type)→(R→Option β)→Option β) (tU: ∀ds,bn S.1 (enc (de ds))=bn S.1 ds)
  (e1: ∀i (β:Type) (k:Nat→List V→Option β),IK P A C L f n m t S x y (enc i) k=body i β (fun r=>k (mj i r).1 (mj i r).2))
  (hl: ∀(β:Type) ds (k:Nat→List V→Option β),L β (t*16+15) ds k=body (de ds) β (fun r=>k (mj (de ds) r).1 (mj (de ds) r).2)):
  cw P A C L f n m (.cond t x y):=by
 simp only[cw,hS]
 intro β ds k
 rw[hl,←e1]
 unfold IK yW
 rw[tU]
 simp only
 have hk: ∀(z:Option (Out × St)),(z.bind fun r=>(match r.1 with
   | .norm=>(ways m 0 S.2 (.norm,canon m (A.join f t) r.2)).bind fun e=>k e.1 e.2
   | o=>(ways m 0 S.2 (o,r.2)).bind fun e=>k e.1 e.2))=((z.bind fun r=>
   match r.1 with
   | .norm=>some (Out.norm,canon m (A.join f t) r.2)
   | _=>some r).bind fun r=>ways m 0 S.2 r).bind fun r=>k r.1 r.2:=by
  intro z
  cases z with
  | none=>rfl
  | some r=>obtain ⟨o,st⟩:=r;cases o<;>rfl
 cases (bn S.1 ds).sl t with
 | bool b=>
  cases b with
  | true=>simp only[cond_true,CG P A C f n m x hx];exact hk _
  | false=>simp only[cond_false,CG P A C f n m y hy];exact hk _
 | _=>rfl
theorem bD {b:cv} {l:List cv} (h:cw P A C L f n m b) (U:nj P A C L f n m l):nj P A C L f n m (b::l):=⟨h,U⟩
theorem av:nj P A C L f n m []:=trivial
theorem aY {key:Nat} {bs:List cv} (hb:pg A key (cJ P (A.aV key))=bs) (ht:nj P A (Call P A) L key (cM P (A.aV key)) (A.sin key).a8.length bs) {ds:List V} {r:Option (List V)}
  (h:GU P A (Call P A) L key ds=r):Call P A key ds=r:=by
 rw[YG,Vn P A (Call P A) key (bf hb ht),h]
end
inductive LK where
 | int (k:IntKind)
 | bool
 | str
 | list (e:TypeId)
 | nat
def LK.Ty:LK→Type
 | .int _=>Int
 | .bool=>Bool
 | .str=>List UInt8
 | .list _=>List V
 | .nat=>Nat
def LK.enc:(k:LK)→k.Ty→V
 | .int k,n=> .int k n
 | .bool,b=> .bool b
 | .str,s=> .str s
 | .list e,l=> .list e l
 | .nat,n=>dQ n
def LK.dec:(k:LK)→V→k.Ty
 | .int _,v=>v.toInt
 | .bool,v=>v.toBool
 | .str,v=>v.toStr
 | .list _,v=>v.toList
 | .nat,v=>ky v
theorem LK.Pn: ∀(k:LK) (x:k.Ty),k.dec (k.enc x)=x
 | .int _,_=>rfl
 | .bool,_=>rfl
 | .str,_=>rfl
 | .list _,_=>rfl
 | .nat,_=>rfl
def IL:List Nat→List LK
 | []=>[]
 | _::l=> .nat::IL l
def LS.ks:LS→List LK
 | .int k=>[.int k]
 | .bool=>[.bool]
 | .str=>[.str]
 | .list e=>[.list e]
 | .sub .. =>[.nat,.nat]
 | .ptr _=>[.nat,.nat]
 | .row _ _ cs=>IL cs
 | .cA _ cs _=> .nat::IL cs
 | _=>[]
def wv:List LS→List LK
 | []=>[]
 | l::ls=>l.ks++wv ls
def VS.ks:VS→List LK
 | .one l=>l.ks
 | .agg ls=>wv ls
 | .bd ls=>wv ls
 | .fn _ a b=>wv a++wv b
 | .pref _ ls=>wv ls
def Po:List VS→List LK
 | []=>[]
 | l::ls=>l.ks++Po ls
def BS.ks:BS→List LK
 | .var _ cs=>Po cs
 | .arr e _=>[.list e]
 | .nest e=>[.list e]
 | .dead=>[]
 | .map t=>[.list t]
def Pp:List (Nat × VS)→List LK
 | []=>[]
 | p::l=>p.2.ks++Pp l
def Pq:List BS→List LK
 | []=>[]
 | b::l=>b.ks++Pq l
def Shape.ks (S:Shape):List LK:=Pp S.bK++Pq S.a8
def IM:List Nat→List V→List V
 | [],_=>[]
 | _::cs,ds=>dQ (ky (V.nth ds 0))::IM cs (ds.drop 1)
def LS.norm:LS→List V→List V
 | .int k,ds=>[.int k (V.nth ds 0).toInt]
 | .bool,ds=>[.bool (V.nth ds 0).toBool]
 | .str,ds=>[.str (V.nth ds 0).toStr]
 | .list e,ds=>[.list e (V.nth ds 0).toList]
 | .sub ..,ds=>[dQ (ky (V.nth ds 0)),dQ (ky (V.nth ds 1))]
 | .ptr _,ds=>[dQ (ky (V.nth ds 0)),dQ (ky (V.nth ds 1))]
 | .row _ _ cs,ds=>IM cs ds
 | .cA _ cs _,ds=>dQ (ky (V.nth ds 0))::IM cs (ds.drop 1)
 | _,_=>[]
def wz:List LS→List V→List V
 | [],_=>[]
 | l::ls,ds=>l.norm ds++wz ls (ds.drop l.size)
def VS.norm:VS→List V→List V
 | .one l,ds=>l.norm ds
 | .agg ls,ds=>wz ls ds
 | .bd ls,ds=>wz ls ds
 | .fn _ a b,ds=>wz a ds++wz b (ds.drop (jT a))
 | .pref _ ls,ds=>wz ls ds
def Pr:List VS→List V→List V
 | [],_=>[]
 | l::ls,ds=>l.norm ds++Pr ls (ds.drop l.size)
def BS.norm:BS→List V→List V
 | .var _ cs,ds=>Pr cs ds
 | .arr e _,ds=>[.list e (V.nth ds 0).toList]
 | .nest e,ds=>[.list e (V.nth ds 0).toList]
 | .dead,_=>[]
 | .map t,ds=>[.list t (V.nth ds 0).toList]
def Ps:List (Nat × VS)→List V→List V
 | [],_=>[]
 | p::l,ds=>p.2.norm ds++Ps l (ds.drop p.2.size)
def Pt:List BS→List V→List V
 | [],_=>[]
 | b::l,ds=>b.norm ds++Pt l (ds.drop b.size)
def Shape.norm (S:Shape) (ds:List V):List V:=Ps S.bK ds++Pt S.a8 (ds.drop (nX S.bK))
def tV:LK→List LK→Type
 | k,[]=>k.Ty
 | k,k'::ks=>k.Ty × tV k' ks
def j8:List LK→Type
 | []=>Unit
 | k::ks=>tV k ks
def tW:(k:LK)→(ks:List LK)→tV k ks→List V
 | k,[],x=>[k.enc x]
 | k,k'::ks,x=>k.enc x.1::tW k' ks x.2
def kL:(ks:List LK)→j8 ks→List V
 | [],_=>[]
 | k::ks,x=>tW k ks x
def zW:(k:LK)→(ks:List LK)→List V→tV k ks
 | k,[],l=>k.dec (V.nth l 0)
 | k,k'::ks,l=>(k.dec (V.nth l 0),zW k' ks l.tail)
def ox:(ks:List LK)→List V→j8 ks
 | [],_=>()
 | k::ks,l=>zW k ks l
theorem Pu: ∀(k:LK) (ks:List LK) (x:tV k ks) (r:List V),zW k ks (tW k ks x++r)=x
 | k,[],x,r=>LK.Pn k x
 | k,k'::ks,x,r=>by
  show (k.dec (k.enc x.1),zW k' ks (tW k' ks x.2++r))=x
  rw[LK.Pn,Pu k' ks]
  rfl
def wA:List LK→Type 1→Type 1
 | [],R=>R
 | k::ks,R=>k.Ty→wA ks R
def Pv:(k:LK)→(ks:List LK)→{R:Type 1}→wA (k::ks) R→tV k ks→R
 | _,[],_,f,x=>f x
 | _,k'::ks,_,f,x=>Pv k' ks (f x.1) x.2
def tX:(ks:List LK)→{R:Type 1}→wA ks R→j8 ks→R
 | [],_,f,_=>f
 | k::ks,_,f,x=>Pv k ks f x
def wB {α:Type} (b:Bool):List Bool→List α→List α
 | [],_=>[]
 | _,[]=>[]
 | c::m,x::l=>bif c==b then x::wB b m l else wB b m l
def merge:List Bool→List V→List V→List V
 | [],_,_=>[]
 | true::m,i,x=>V.nth x 0::merge m i x.tail
 | false::m,i,x=>V.nth i 0::merge m i.tail x
def wC:List Nat→List LK→List LK
 | [],_=>[]
 | _,[]=>[]
 | 0::t,k::ks=>k::wC t ks
 | (_+1)::t,_::ks=>wC t ks
abbrev fk:=List Nat × List LK
def fk.fresh (w:fk):List LK:=wC w.1 w.2
def put:List Nat→List V→List V→List V
 | [],_,_=>[]
 | 0::t,ds,x=>V.nth x 0::put t ds x.tail
 | (j+1)::t,ds,x=>V.nth ds j::put t ds x
def tY:List Nat→List V→List V
 | [],_=>[]
 | 0::t,l=>V.nth l 0::tY t l.tail
 | (_+1)::t,l=>tY t l.tail
def sa:fk→List fk→Type
 | w,[]=>j8 w.fresh
 | w,w'::ws=>j8 w.fresh ⊕ sa w' ws
def qD:List fk→Type
 | []=>Empty
 | w::ws=>sa w ws
def wN (ds:List V) {β:Type} (k:Nat→List V→Option β):Nat→(w:fk)→(ws:List fk)→sa w ws→Option β
 | j,w,[],r=>k j (put w.1 ds (kL w.fresh r))
 | j,w,w'::ws,r=>bR (fun x=>k j (put w.1 ds (kL w.fresh x))) (fun y=>wN ds k (j+1) w' ws y) r
def wT (ds:List V) {β:Type} (k:Nat→List V→Option β):(ws:List fk)→qD ws→Option β
 | [],r=>Empty.elim r
 | w::ws,r=>wN ds k 0 w ws r
def oy (ds:List V):Nat→(w:fk)→(ws:List fk)→sa w ws→Nat × List V
 | j,w,[],r=>(j,put w.1 ds (kL w.fresh r))
 | j,w,_::_,.inl x=>(j,put w.1 ds (kL w.fresh x))
 | j,_,w'::ws,.inr y=>oy ds (j+1) w' ws y
def wD (ds:List V):(ws:List fk)→qD ws→Nat × List V
 | [],r=>Empty.elim r
 | w::ws,r=>oy ds 0 w ws r
theorem Pw (ds:List V) {β:Type} (k:Nat→List V→Option β): ∀(j:Nat) (w:fk) (ws:List fk) (r:sa w ws),wN ds k j w ws r=k (oy ds j w ws r).1 (oy ds j w ws r).2
 | _,_,[],_=>rfl
 | _,_,_::_,.inl _=>rfl
 | j,_,w'::ws,.inr y=>Pw ds k (j+1) w' ws y
theorem D7 (ds:List V) {β:Type} (k:Nat→List V→Option β): ∀(ws:List fk) (r:qD ws),wT ds k ws r=k (wD ds ws r).1 (wD ds ws r).2
 | [],r=>Empty.elim r
 | w::ws,r=>Pw ds k 0 w ws r
def wE:Nat→(w:fk)→(ws:List fk)→List V→sa w ws
 | _,w,[],l=>ox w.fresh (tY w.1 l)
 | 0,w,_::_,l=> .inl (ox w.fresh (tY w.1 l))
 | j+1,_,w'::ws,l=> .inr (wE j w' ws l)
def Px (j:Nat):(ws:List fk)→List V→Option (qD ws)
 | [],_=>none
 | w::ws,l=>some (wE j w ws l)
def wF:List Nat→List V→List V
 | [],_=>[]
 | 0::t,x=>V.nth x 0::wF t x.tail
 | (_+1)::t,x=>wF t x
theorem IN: ∀(t:List Nat) (ds x:List V),tY t (put t ds x)=wF t x
 | [],_,_=>rfl
 | 0::t,ds,x=>congrArg (V.nth x 0:: ·) (IN t ds x.tail)
 | (_+1)::t,ds,x=>IN t ds x
theorem IP: ∀(t:List Nat) (ks:List LK) (k:LK) (bI:List LK),wC t ks=k::bI→∀x:tV k bI,∃r,wF t (tW k bI x)=tW k bI x++r
 | [],_,_,_,h,_=>by cases h
 | _::_,[],_,_,h,_=>by simp[wC] at h
 | 0::t,a::ks,k,bI,h,x=>by
  simp only[wC,List.cons.injEq] at h
  obtain ⟨rfl,U⟩:=h
  cases bI with
  | nil=>exact ⟨wF t [],rfl⟩
  | cons k' bI=>
   obtain ⟨r,hr⟩:=IP t ks k' bI U x.2
   exact ⟨r,congrArg (a.enc x.1:: ·) hr⟩
 | (_+1)::t,a::ks,k,bI,h,x=>IP t ks k bI h x
theorem Py (w:fk) (ds:List V) (x:j8 w.fresh):ox w.fresh (tY w.1 (put w.1 ds (kL w.fresh x)))=x:=by
 rw[IN]
 revert x
 generalize hf:w.fresh=f
 cases f with
 | nil=>intro x;rfl
 | cons k ks=>
  intro x
  obtain ⟨r,hr⟩:=IP w.1 w.2 k ks hf x
  show zW k ks (wF w.1 (tW k ks x))=x
  rw[hr]
  exact Pu k ks x r
theorem Pz (ds:List V): ∀(j:Nat) (w:fk) (ws:List fk) (r:sa w ws),j≤(oy ds j w ws r).1
 | _,_,[],_=>ch _
 | _,_,_::_,.inl _=>ch _
 | j,_,w'::ws,.inr y=>lN (Nat.le_succ j) (Pz ds (j+1) w' ws y)
theorem YS (w:fk) (l:List V): ∀j,wE j w [] l=ox w.fresh (tY w.1 l)
 | 0=>rfl
 | _+1=>rfl
theorem PA (ds:List V): ∀(j:Nat) (w:fk) (ws:List fk) (r:sa w ws),wE ((oy ds j w ws r).1-j) w ws (oy ds j w ws r).2=r
 | j,w,[],r=>(YS w _ _).trans (Py w ds r)
 | j,w,w'::ws,.inl x=>by
  show wE (j-j) w (w'::ws) (put w.1 ds (kL w.fresh x))= .inl x
  rw[Nat.sub_self]
  exact congrArg Sum.inl (Py w ds x)
 | j,w,w'::ws,.inr y=>by
  have h1:=Pz ds (j+1) w' ws y
  have U:=PA ds (j+1) w' ws y
  show wE ((oy ds (j+1) w' ws y).1-j) w (w'::ws) (oy ds (j+1) w' ws y).2= .inr y
  obtain ⟨d,hd⟩: ∃d,(oy ds (j+1) w' ws y).1=j+1+d:=⟨(oy ds (j+1) w' ws y).1-(j+1),by omega⟩
  rw[hd] at U⊢
  rw[show j+1+d-(j+1)=d by omega] at U
  rw[show j+1+d-j=d+1 by omega]
  exact congrArg Sum.inr U
theorem YT (ds:List V): ∀(ws:List fk) (r:qD ws),Px (wD ds ws r).1 ws (wD ds ws r).2=some r
 | [],r=>Empty.elim r
 | w::ws,r=>congrArg some (PA ds 0 w ws r)
section
variable {P:Program} {A:cB} {C:ag} {L:cz} {f n m:Nat}
theorem YU {c:Code} {S:Shape × List (Out × Shape)} (hS:A.gT f (keyOf c+1)=some S) (hL:gZ P A C L f n m c) {I X R:Type} (enc:I→X→List V) (mj:I→R→Nat × List V)
  (ph:List V→I) (qE:List V→X) (D8:Nat × List V→Option R) (body:I→X→(β:Type)→(X→Option β)→(R→Option β)→Option β)
  (tU: ∀ds,bn S.1 (enc (ph ds) (qE ds))=bn S.1 ds) (IQ: ∀i x,qE (enc i x)=x) (YV: ∀i r,D8 (mj i r)=some r)
  (e1: ∀i x (β:Type) (k:(List V ⊕ (Nat × List V))→Option β),gY P A C L f n m c (bn S.1 (enc i x)) (fun o st=>(mT m S.1 S.2 (some (o,st))).bind k)=
   body i x β (fun y=>k (.inl (enc i y))) (fun r=>k (.inr (mj i r))))
  (hl: ∀(β:Type) ds (k:Nat→List V→Option β),L β (keyOf c+1) ds k=(Loop (fun x=>body (ph ds) x (X ⊕ R) (fun y=>some (.inl y)) (fun r=>some (.inr r))) (qE ds)).bind fun r=>k (mj (ph ds) r).1 (mj (ph ds) r).2):
  cw P A C L f n m (.loop c):=by
 simp only[cw,hS]
 intro β ds k
 rw[hl]
 have hex: ∀(z:Option (Out × St)),mT m S.1 S.2 z=z.bind fun r=>mT m S.1 S.2 (some (r.1,r.2)):=by
  intro z;cases z<;>rfl
 have hs: ∀i x,stepG P A C f n m S c (enc i x)=(body i x (X ⊕ R) (fun y=>some (.inl y)) (fun r=>some (.inr r))).map fun| .inl y=> .inl (enc i y)| .inr r=> .inr (mj i r):=by
  intro i x
  have k1:=e1 i x _ (fun z=>some z)
  have k2:=e1 i x (X ⊕ R) (fun| .inl ds=>some (.inl (qE ds))| .inr e=>(D8 e).map .inr)
  have k3:=e1 i x (List V ⊕ (Nat × List V)) (fun| .inl ds=>some (.inl (enc i (qE ds)))| .inr e=>(D8 e).map fun r=> .inr (mj i r))
  simp only[IQ,YV,Option.map_some] at k2 k3
  unfold stepG
  rw[hex]
  rw[CG P A C f n m c hL] at k1 k2 k3
  rw[←k2]
  refine aW ?_ (k1.trans (k3.symm.trans ?_))
  ·congr 1
   funext r
   cases mT m S.1 S.2 (some (r.1,r.2))<;>rfl
  ·cases exec P A C f n m c (bn S.1 (enc i x)) with
   | none=>rfl
   | some r=>
    simp only[Option.bind_some]
    cases mT m S.1 S.2 (some (r.1,r.2)) with
    | none=>rfl
    | some z=>
     cases z with
     | inl _=>rfl
     | inr e=>simp only[Option.bind_some];cases D8 e<;>rfl
 have h0:stepG P A C f n m S c ds=stepG P A C f n m S c (enc (ph ds) (qE ds)):=by
  unfold stepG
  rw[tU]
 have:Loop (stepG P A C f n m S c) ds=(Loop (fun x=>body (ph ds) x (X ⊕ R) (fun y=>some (.inl y)) (fun r=>some (.inr r))) (qE ds)).map (mj (ph ds)):=by
  rw[Ci,h0,←Ci]
  exact Vl (enc (ph ds)) (mj (ph ds)) (fun x=>hs _ _) (qE ds)
 rw[this]
 cases Loop (fun x=>body (ph ds) x (X ⊕ R) (fun y=>some (.inl y)) (fun r=>some (.inr r))) (qE ds)<;>rfl
abbrev zX (S:Shape) (mk:List Bool):List LK:=wB false mk S.ks
abbrev tZ (S:Shape) (mk:List Bool):List LK:=wB true mk S.ks
def qF (ts:List (List Nat)) (W:List (Out × Shape)):List fk:=
 match ts,W with
 | t::ts,w::W=>(t,w.2.ks)::qF ts W
 | _,_=>[]
abbrev zY (S:Shape) (mk:List Bool) (i:j8 (zX S mk)) (x:j8 (tZ S mk)):List V:=merge mk (kL _ i) (kL _ x)
abbrev IS (S:Shape) (mk:List Bool) (i:j8 (zX S mk)):List V:=merge mk (kL _ i) []
abbrev D9 (S:Shape) (mk:List Bool) (ds:List V):j8 (zX S mk):=ox _ (wB false mk (S.norm ds))
abbrev Ea (S:Shape) (mk:List Bool) (ds:List V):j8 (tZ S mk):=ox _ (wB true mk (S.norm ds))
abbrev PB (X R:Type):Type 1:=(β:Type)→(X→Option β)→(R→Option β)→Option β
abbrev IT (S:Shape × List (Out × Shape)) (mk:List Bool) (ts:List (List Nat)):Type 1:=wA (zX S.1 mk) (wA (tZ S.1 mk) (PB (j8 (tZ S.1 mk)) (qD (qF ts S.2))))
abbrev IU (S:Shape × List (Out × Shape)) (mk:List Bool) (ts:List (List Nat)) (b:IT S mk ts) (i:j8 (zX S.1 mk)) (x:j8 (tZ S.1 mk)):PB (j8 (tZ S.1 mk)) (qD (qF ts S.2)):=tX _ (tX _ b i) x
noncomputable def cf (S:Shape × List (Out × Shape)) (mk:List Bool) (ts:List (List Nat)) (b:IT S mk ts) {β:Type} (ds:List V) (k:Nat→List V→Option β):Option β:=
 (Loop (fun x=>IU S mk ts b (D9 S.1 mk ds) x (j8 (tZ S.1 mk) ⊕ qD (qF ts S.2)) (fun y=>some (.inl y)) (fun r=>some (.inr r))) (Ea S.1 mk ds)).bind (wT (IS S.1 mk (D9 S.1 mk ds)) k (qF ts S.2))
theorem cm {c:Code} (S:Shape × List (Out × Shape)) (mk:List Bool) (ts:List (List Nat)) (b:IT S mk ts) (hS:A.gT f (keyOf c+1)=some S) (hL:gZ P A C L f n m c)
  (tU: ∀ds,bn S.1 (zY S.1 mk (D9 S.1 mk ds) (Ea S.1 mk ds))=bn S.1 ds) (IQ: ∀i x,Ea S.1 mk (zY S.1 mk i x)=x)
  (e1: ∀i x (β:Type) (k:(List V ⊕ (Nat × List V))→Option β),gY P A C L f n m c (bn S.1 (zY S.1 mk i x)) (fun o st=>(mT m S.1 S.2 (some (o,st))).bind k)=
   IU S mk ts b i x β (fun y=>k (.inl (zY S.1 mk i y))) (wT (IS S.1 mk i) (fun j l=>k (.inr (j,l))) (qF ts S.2)))
  (hl: ∀(β:Type) ds (k:Nat→List V→Option β),L β (keyOf c+1) ds k=cf S mk ts b ds k):
  cw P A C L f n m (.loop c):=
 YU hS hL (zY S.1 mk) (fun i r=>wD (IS S.1 mk i) _ r) (D9 S.1 mk) (Ea S.1 mk) (fun e=>Px e.1 _ e.2) (IU S mk ts b) tU IQ (fun i r=>YT _ _ r)
  (fun i x β k=>by
   rw[e1]
   congr 1
   funext r
   exact D7 _ _ _ r)
  (fun β ds k=>by
   rw[hl]
   unfold cf
   congr 1
   funext r
   exact D7 _ _ _ r)
abbrev PC (S:Shape × List (Out × Shape)) (ts:List (List Nat)):Type 1:=wA S.1.ks ((β:Type)→(qD (qF ts S.2)→Option β)→Option β)
noncomputable def iK (S:Shape × List (Out × Shape)) (ts:List (List Nat)) (b:PC S ts) {β:Type} (ds:List V) (k:Nat→List V→Option β):Option β:=
 tX S.1.ks b (ox _ (S.1.norm ds)) β (wT (kL S.1.ks (ox _ (S.1.norm ds))) k (qF ts S.2))
theorem jf {t:Nat} {x y:Code} (S:Shape × List (Out × Shape)) (ts:List (List Nat)) (b:PC S ts) (hS:A.gT f (t*16+15)=some S) (hx:gZ P A C L f n m x) (hy:gZ P A C L f n m y)
  (tU: ∀ds,bn S.1 (kL S.1.ks (ox _ (S.1.norm ds)))=bn S.1 ds)
  (e1: ∀i (β:Type) (k:Nat→List V→Option β),IK P A C L f n m t S x y (kL S.1.ks i) k=tX S.1.ks b i β (wT (kL S.1.ks i) k (qF ts S.2)))
  (hl: ∀(β:Type) ds (k:Nat→List V→Option β),L β (t*16+15) ds k=iK S ts b ds k):
  cw P A C L f n m (.cond t x y):=
 YR hS hx hy (kL S.1.ks) (fun i r=>wD (kL S.1.ks i) _ r) (fun ds=>ox _ (S.1.norm ds)) (tX S.1.ks b) tU
  (fun i β k=>by
   rw[e1]
   exact congrArg (tX S.1.ks b i β) (funext fun r=>D7 _ _ _ r))
  (fun β ds k=>by
   rw[hl]
   exact congrArg (tX S.1.ks b (ox _ (S.1.norm ds)) β) (funext fun r=>D7 _ _ _ r))
end
def cg:cz:=fun _ _ _ _=>none
end Go.AM
