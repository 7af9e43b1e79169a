/-
  Functions of the program, lifted to plain data.
-/
import Derived.Conc.MuLone
import Derived.Defers
import Derived.Carry
import Derived.OpenShut
import Derived.Deep.Slices
import Derived.Test.YtppefogdkedaiaaGreatDoorP2
set_option linter.unusedVariables false
set_option linter.unusedSimpArgs false
namespace Go.AM
section
variable {P:Program} {A:cK} {w w':World} {I I' I2:Nat→Prop} {μ β β' cd:Nat→Option Nat} {hp hp' hp0 bx:Nat→Option an} {C:ae} {B:Nat} {M:Nat→Prop} {w0:Start}
structure lC (w:World) (I:Nat→Prop) (β:Nat→Option Nat) (hp:Nat→Option an) (w':World) (I':Nat→Prop) (β':Nat→Option Nat) (hp':Nat→Option an):Prop where
 dq: ∀b,I b→I' b
 cm: ∀b,I b→w'.heap[b]? =w.heap[b]?
 blk: ∀id blk,hp id=some blk→∃blk',hp' id=some blk'∧blk.le blk'∧(blk'≠ .dead→β' id=β id)
 size: ∀id blk blk' b,hp id=some blk→hp' id=some blk'→blk'≠ .dead→β id=some b→bsize w' b=bsize w b
theorem Le.Gf (h:Le P w I β hp w' I' β' hp'):lC w I β hp w' I' β' hp':=⟨h.dq,h.cm,h.blk,h.size⟩
theorem lC.trans {AU:World} {AV:Nat→Prop} {AW:Nat→Option Nat} {AX:Nat→Option an} (h1:lC w I β hp w' I' β' hp') (U:lC w' I' β' hp' AU AV AW AX):lC w I β hp AU AV AW AX:=by
 refine ⟨fun b h=>U.dq b (h1.dq b h),fun b h=>(U.cm b (h1.dq b h)).trans (h1.cm b h),fun id blk h=> ?_,fun id blk uL b h s4 hd hb=> ?_⟩
 ·obtain ⟨blk',e',l',b'⟩:=h1.blk id blk h
  obtain ⟨uL,dM,ru,J1⟩:=U.blk id blk' e'
  refine ⟨uL,dM,an.le_trans l' ru,fun hd=> ?_⟩
  have eN:blk'≠ .dead:=fun e=>hd (an.pU (e▸ru))
  exact (J1 hd).trans (b' eN)
 ·obtain ⟨blk',e',l',b'⟩:=h1.blk id blk h
  obtain ⟨gZ,e3,l3,b3⟩:=U.blk id blk' e'
  obtain rfl:gZ=uL:=by rw[e3] at s4;exact cT s4
  have eN:blk'≠ .dead:=fun e=>hd (an.pU (e▸l3))
  rw[U.size id blk' gZ b e' e3 hd ((b' eN).trans hb),h1.size id blk blk' b h e' eN hb]
def o9 (P:Program) (w:World) (μ:Nat→Option Nat) (hp0:Nat→Option an) (b:Nat):Prop:= ∃j blk,hp0 j=some blk∧bC P w (μ j) blk b
structure acs (P:Program) (A:cK) (key:Nat) (w:World) (I:Nat→Prop) (μ:Nat→Option Nat) (ds es:List V) (w':World) (v:Value) (I2:Nat→Prop) (cd:Nat→Option Nat):Prop where
 xZ:aH P w' I2 cd (bu (A.so key es) (A.lv key es)).hp w.heap.size (o9 P w μ (bu (A.sin key) ds).hp) ⟨w,I⟩
 le:lC w I μ (bu (A.sin key) ds).hp w' I2 cd (bu (A.so key es) (A.lv key es)).hp
 res:ao P w' I2 cd (bu (A.so key es) (A.lv key es)).hp v (pS (fq (A.so key es).bR (A.lv key es)))
def lD (P:Program) (A:cK) (C:ae):Prop:=
 ∀key ds es,C key ds=some es→∃fn c,P.funcs[A.aP key]? =some fn∧fn.body=some c∧
  ∀(w:World) (I:Nat→Prop) (μ:Nat→Option Nat) (vals:List Value),
   uK P w I μ (bu (A.sin key) ds).hp w.heap.size (o9 P w μ (bu (A.sin key) ds).hp)→gE P A.aF w I→
   vals.length=(A.sin key).bR.length→(∀(j:Nat) v x,vals[j]? =some v→(fH ((A.sin key).bR.map (·.2)) ds)[j]? =some x→ao P w I μ (bu (A.sin key) ds).hp v x)→
   Calls P (A.aP key) vals.toArray w fun e w'=> ∃v I2 cd,e= .returned v∧acs P A key w I μ ds es w' v I2 cd
theorem eg.vg {p:Place} {o:Option Nat} {blk:an} {b:Nat} (h:eg P w β hp p o blk) (ho:bC P w o blk b):
  ∃rR,hp p.id=some rR∧bC P w (β p.id) rR b∧∀e es,rR≠ .arr e es true:=by
 cases h with
 | var h=>exact ⟨_,h,.root (by simp) (ho.flat (by simp)),by simp⟩
 | arr h=>exact ⟨_,h,.root (by simp) (ho.flat (by simp)),by simp⟩
 | map h=>exact ⟨_,h,.root (by simp) (ho.flat (by simp)),by simp⟩
 | nest h=>
  refine ⟨_,h,?_,by simp⟩
  cases ho with
  | root _ hb=>exact .root (by simp) hb
  | row hb ha=>exact .row hb ha
 | row h hb ha _ _ _ _ _=>
  have:=ho.flat (by simp)
  cases this
  exact ⟨_,h,.row hb ha,by simp⟩
theorem aH.acu (S:aH P w I β hp B M w0) {id b:Nat} {blk:an} (ab:hp id=some blk) (ho:bC P w (β id) blk b) (hf: ∀e es,blk≠ .arr e es true): ¬I b:=by
 have hr:=S.h.rel id blk ab
 generalize β id=o at hr ho
 cases hr with
 | var hb _ _ hI _ _=>have:=ho.flat (by simp);rw[hb] at this;cases this;exact hI
 | dP hb=>have:=ho.flat (by simp);rw[hb] at this;cases this
 | @arr e es fz _ _ _ hb _ _ _ ep _=>
  have:=ho.flat (by simp)
  rw[hb] at this;cases this
  cases fz with
  | true=>exact absurd rfl (hf e es)
  | false=>exact ep rfl
 | dead=>exact absurd rfl ho.alive
 | map _ hb _ _ hI _ _=>have:=ho.flat (by simp);rw[hb] at this;cases this;exact hI
 | nest hb hr _=>
  cases ho with
  | root _ aB=>rw[hb] at aB;cases aB;exact (hr _ _ _ _ .here).nI
  | row aB ha=>rw[hb] at aB;cases aB;exact (hr _ _ _ _ ha).nI
theorem Gg {a b:List Nat} (h:xk a b=false) {x:Nat} (ha:x∈a):x∉b:=by
 intro hb
 unfold xk at h
 rw[List.any_eq_false] at h
 exact h x ha (xK hb)
theorem acv (S:aH P w I β hp B M w0) {pl:List Place} {upd:List (Nat × an)} {o:Nat→Option Nat} (kN:(pl.map Place.id).Nodup) (Gh:xk (upd.map (·.1)) (pl.map Place.id)=false)
  (hl: ∀j blk,hp0 j=some blk→∃p,en pl j=some p∧eg P w β hp p (o j) blk)
  (cL:(∀j blk,hp0 j=some blk→∀b,bC P w (o j) blk b→¬jd P w I β hp upd b)→∀j blk,hp0 j=some blk→ee P w (jd P w I β hp upd) o hp0 (o j) blk) (aQ: ∀b,jd P w I β hp upd b→b<w.heap.size):
  uK P w (jd P w I β hp upd) o hp0 w.heap.size (o9 P w o hp0):=by
 have cV: ∀j blk,hp0 j=some blk→∀b,bC P w (o j) blk b→¬jd P w I β hp upd b:=by
  intro j blk hj b ho hI
  obtain ⟨p,bx,g9⟩:=hl j blk hj
  obtain ⟨rR,k1,k2,k3⟩:=g9.vg ho
  rcases hI with hI|⟨q,hq,ca,q1,q2⟩
  ·exact S.acu k1 k2 k3 hI
  ·have:=S.h.inj _ _ _ _ b q1 k1 q2 k2
   refine Gg Gh (ey.2 ⟨q,hq,rfl⟩) ?_
   rw[this]
   rw[mc] at bx
   exact ey.2 ⟨p,jR bx,rfl⟩
 refine ⟨cL cV,fun j1 j2 b1 b2 b h1 U o1 o2=> ?_,fun j blk b h1 o1=> .inl ⟨j,blk,h1,o1⟩,aQ⟩
 obtain ⟨p1,q1,q2⟩:=hl j1 b1 h1
 obtain ⟨p2,r1,r2⟩:=hl j2 b2 U
 obtain ⟨c1,x1,x2,_⟩:=q2.vg o1
 obtain ⟨c2,y1,y2,_⟩:=r2.vg o2
 have ab:=S.h.inj _ _ _ _ b x1 y1 x2 y2
 rw[mc] at q1 r1
 have m1:(pl.map Place.id)[j1]? =some p1.id:=by rw[fU,q1];rfl
 have m2:(pl.map Place.id)[j2]? =some p2.id:=by rw[fU,r1];rfl
 rw[←ab] at m2
 obtain ⟨z1,z2⟩:=bw.1 m1
 obtain ⟨z3,z4⟩:=bw.1 m2
 exact (List.getElem_inj kN).1 (z2.trans z4.symm)
def RD:V→Prop
 | .list .. =>False
 | .pref .. =>False
 | .agg _=>False
 | .bn _=>False
 | .fn .. =>False
 | _=>True
theorem ao.free {v:Value} {x:V} (h:ao P w I β hp v x) (hx:RD x):ao P w I' β hp v x:=by
 cases h with
 | undef=>exact .undef
 | int=>exact .int
 | bool=>exact .bool
 | str h=>exact .str h
 | list h=>exact hx.elim
 | nilS=>exact .nilS
 | agg=>exact hx.elim
 | bn=>exact hx.elim
 | dB=>exact .dB
 | fn=>exact hx.elim
 | pref=>exact hx.elim
 | eo h=>exact .eo h
 | gq h=>exact .gq h
 | kE h=>exact .kE h
 | dO h hb=>exact .dO h hb
 | whole h hb a b c=>exact .whole h hb a b c
 | eC h hb a b c=>exact .eC h hb a b c
 | ga h hb=>exact .ga h hb
 | sub h hb a b c=>exact .sub h hb a b c
 | ptr h hd hb=>exact .ptr h hd hb
 | jV h rM=>exact .jV h rM
 | jW h rM=>exact .jW h rM
 | row h hb a b c d=>exact .row h hb a b c d
 | cJ h hb a b c d e=>exact .cJ h hb a b c d e
 | dE=>exact .dE
 | iH h=>exact .iH h
 | cE h hb=>exact .cE h hb
theorem Bt {l:LS} {ds:List V} (hs:l.safe=true):RD (iX l ds):=by
 cases l<;>simp only[LS.safe] at hs<;>first|(cases hs;done)|trivial
theorem Bu: ∀{ls:List LS} {ds:List V} {j:Nat} {y:V},(iB ls ds)[j]? =some y→∃l fx,l∈ls∧y=iX l fx
 | [],ds,j,y,h=>by simp[iB] at h
 | l::ls,ds,j,y,h=>by
  simp only[iB] at h
  cases j with
  | zero=>simp at h;exact ⟨l,ds,sN ..,h.symm⟩
  | succ j=>
   obtain ⟨l',fx,h1,U⟩:=Bu (j:=j) (by simpa using h)
   exact ⟨l',fx,lP _ h1,U⟩
theorem RE: ∀{ls:List VS} {ds:List V} {j:Nat} {y:V},(fH ls ds)[j]? =some y→∃l fx,l∈ls∧y=lp l fx
 | [],ds,j,y,h=>by simp[fH] at h
 | l::ls,ds,j,y,h=>by
  simp only[fH] at h
  cases j with
  | zero=>simp at h;exact ⟨l,ds,sN ..,h.symm⟩
  | succ j=>
   obtain ⟨l',fx,h1,U⟩:=RE (j:=j) (by simpa using h)
   exact ⟨l',fx,lP _ h1,U⟩
theorem RF {s:VS} {ds:List V} {v:Value} (h:ao P w I β hp v (lp s ds)) (hs:s.safe=true):ao P w I' β hp v (lp s ds):=by
 cases s with
 | one l=>exact h.free (Bt hs)
 | agg ls=>
  simp only[lp] at h⊢
  obtain ⟨cs,rfl,e1,e2⟩:=h.ly
  refine .agg e1 fun j v x hj hx=> ?_
  obtain ⟨l,fx,k1,rfl⟩:=Bu hx
  exact (e2 j v _ hj hx).free (Bt (fm.1 hs l k1))
 | bn ls=>
  simp only[lp] at h⊢
  obtain ⟨cs,rfl,e1,e2⟩:=h.uS
  refine .bn e1 fun j v x hj hx=> ?_
  obtain ⟨l,fx,k1,rfl⟩:=Bu hx
  exact (e2 j v _ hj hx).free (Bt (fm.1 hs l k1))
 | fn f a b=>
  simp only[VS.safe,aO] at hs
  simp only[lp] at h⊢
  cases h with
  | fn a1 a2 b1 b2=>
   refine .fn a1 (fun j v x hj hx=> ?_) b1 (fun j v x hj hx=> ?_)
   ·obtain ⟨l,fx,k1,rfl⟩:=Bu hx
    exact (a2 j v _ hj hx).free (Bt (fm.1 hs.1 l k1))
   ·obtain ⟨l,fx,k1,rfl⟩:=Bu hx
    exact (b2 j v _ hj hx).free (Bt (fm.1 hs.2 l k1))
 | pref ts ls=>cases hs
theorem Pure.scalar {t:TypeId} {v:Value} {x:V} (h:Pure P w I t v x) (hn: ∀e,P.underlying t≠some (.slice e)):Pure P w I' t v x:=by
 cases h with
 | int h=>exact .int h
 | bool h=>exact .bool h
 | str h hl=>exact .str h hl
 | nil h=>exact absurd h (hn _)
 | emp h=>exact absurd h (hn _)
 | list g h=>exact absurd h (hn _)
theorem acw {e t:TypeId} {j:Nat} (h:AF P e=true) (ht:(bc P e)[j]? =some t) (e':TypeId):P.underlying t≠some (.slice e'):=by
 intro hu
 have U:=fm.1 h t (jR ht)
 rw[hu] at U
 cases U
theorem acx {o:Option Nat} {b:BS} {ds:List V} (h:ee P w I2 β hp o (fX b ds)) (hs:b.safe P=true) (hi: ∀b,I b→I2 b):ee P w I β hp o (fX b ds):=by
 cases b with
 | dead=>exact .dead
 | var T0 ls=>
  simp only[fX] at h⊢
  cases h with
  | var hb hh bd hI hx gu=>
   refine .var hb hh bd (fun h=>hI (hi _ h)) (fun j v x hj cF=> ?_) gu
   obtain ⟨l,fx,k1,rfl⟩:=RE cF
   exact RF (hx j v _ hj cF) (fm.1 hs l k1)
 | arr e fz=>
  simp only[BS.safe,aO,lQ] at hs
  obtain ⟨rfl,Bs⟩:=hs
  simp only[fX] at h⊢
  generalize (V.nth ds 0).toList=es at h⊢
  cases h with
  | dP hb=>exact .dP hb
  | arr a1 a2 a3 a4 a5 a6 a7=>
   refine .arr a1 a2 a3 a4 (fun h=>by cases h) (fun _ h=>a6 rfl (hi _ h)) fun i j x t' y1 y2 y3=> ?_
   obtain ⟨v,z1,z2⟩:=a7 i j x t' y1 y2 y3
   exact ⟨v,z1,z2.scalar (acw Bs y2)⟩
 | nest e=>
  simp only[fX] at h⊢
  generalize (V.nth ds 0).toList=es at h⊢
  cases h with
  | nest hb cM o0=>
   refine .nest hb (fun q b' e1 m1 hq=> ?_) o0
   obtain ⟨ok,⟨Ca,c1,c2,c3⟩,nI⟩:=cM q b' e1 m1 hq
   refine ⟨ok,⟨Ca,c1,c2,fun i j x t' y1 y2 y3=> ?_⟩,fun h=>nI (hi _ h)⟩
   obtain ⟨v,z1,z2⟩:=c3 i j x t' y1 y2 y3
   refine ⟨v,z1,?_⟩
   generalize bQ P e1 x j=y at z2⊢
   cases z2 with
   | fZ a p=>
    refine .fZ a (p.scalar fun e hu=> ?_)
    unfold fW at a
    rw[hu] at a
    cases a
   | emp a b=>exact .emp a b
   | row a b c d e=>exact .row a b c d e
 | map t=>
  simp only[fX] at h⊢
  cases h with
  | map a1 a2 a3 a4 a5 a6 a7=>exact .map a1 a2 a3 a4 (fun h=>a5 (hi _ h)) a6 a7
theorem Lb: ∀{l:List BS} {ds:List V} {j:Nat} {y:an},(eM l ds)[j]? =some y→∃b fx,l[j]? =some b∧y=fX b fx
 | [],ds,j,y,h=>by simp[eM] at h
 | b::l,ds,j,y,h=>by
  simp only[eM] at h
  cases j with
  | zero=>simp at h;exact ⟨b,ds,rfl,h.symm⟩
  | succ j=>
   obtain ⟨b',fx,h1,U⟩:=Lb (j:=j) (by simpa using h)
   exact ⟨b',fx,by simpa using h1,U⟩
theorem RG: ∀{l:List (Nat × VS)} {ds:List V} {q:Nat × V},q∈fq l ds→∃s fx,(q.1,s)∈l∧q.2=lp s fx
 | [],ds,q,h=>by simp[fq] at h
 | (k,s)::l,ds,q,h=>by
  simp only[fq,dx] at h
  rcases h with h|h
  ·subst h;exact ⟨s,ds,sN ..,rfl⟩
  ·obtain ⟨s',fx,h1,U⟩:=RG h
   exact ⟨s',fx,lP _ h1,U⟩
theorem acy {S:Shape} {es:List V} (hs:S.safe P=true) (hi: ∀b,I b→I2 b) {N:Nat→Prop} {st:Start} (h:aH P w' I2 cd (bu S es).hp B N st) (h0: ∀b,I b→st.I b):
  aH P w' I cd (bu S es).hp B N st∧∀v,ao P w' I2 cd (bu S es).hp v (pS (fq S.bR es))→ao P w' I cd (bu S es).hp v (pS (fq S.bR es)):=by
 unfold Shape.safe at hs
 simp only[aO] at hs
 obtain ⟨jc,nW⟩:=hs
 have one: ∀q∈fq S.bR es,∀v,ao P w' I2 cd (bu S es).hp v q.2→ao P w' I cd (bu S es).hp v q.2:=by
  intro q hq v hv
  obtain ⟨s,fx,k1,k2⟩:=RG hq
  rw[k2] at hv⊢
  exact RF hv (fm.1 jc _ k1)
 refine ⟨⟨⟨fun j blk hj=> ?_,h.h.inj,h.h.own,fun b hb=>h.h.jX b (hi b hb)⟩,h.cm,h.size,fun b hb=> .inl (h0 b hb),h.io⟩,fun v hv=> ?_⟩
 ·have hr:=h.h.rel j blk hj
  have gb:=hj
  simp only[bu,mk,ig] at gb
  obtain ⟨b,fx,k1,rfl⟩:=Lb gb
  exact acx hr (fm.1 nW _ (jR k1)) hi
 ·generalize fq S.bR es=l at one hv⊢
  match l,one,hv with
  | [],_,hv=>
   simp only[pS,fp] at hv⊢
   obtain ⟨cs,rfl,e1,e2⟩:=hv.uS
   exact .bn e1 fun j v x _ hx=>by simp at hx
  | [q],one,hv=>exact one q (ew.2 rfl) v hv
  | q::q2::l,one,hv=>
   simp only[pS] at hv⊢
   obtain ⟨cs,rfl,e1,e2⟩:=hv.uS
   refine .bn e1 fun j v x hj hx=> ?_
   obtain ⟨y,hy,rfl⟩:=ey.1 (jR hx)
   exact one y hy v (e2 j v _ hj hx)
end
section
variable {P:Program} {A:cK} {w w':World} {I I' I2:Nat→Prop} {μ β β' cd:Nat→Option Nat} {hp hp' hp0 bx:Nat→Option an} {C:ae} {B:Nat} {M:Nat→Prop} {w0:Start}
inductive gz (σ:List Place):an→an→Prop
 | dead:gz σ .dead .dead
 | var {T:TypeId} {cs:List V}:gz σ (.var T cs) (.var T (cs.map (Fe σ)))
 | arr {e:TypeId} {es:List V} {fz:Bool}:gz σ (.arr e es fz) (.arr e es fz)
 | nest {e:TypeId} {es:List V} {v1 v2:List Nat}:gz σ (.nest e es v1) (.nest e es v2)
 | map {t:TypeId} {es:List V}:gz σ (.map t es) (.map t es)
theorem gz.of (σ:List Place) (b:an):gz σ b (uD σ b):=by
 cases b with
 | dead=>exact .dead
 | var T cs=>exact .var
 | arr e es fz=>exact .arr
 | nest e es v=>exact .nest
 | map t es=>exact .map
theorem RH {σ:List Place}: ∀{pl:List Place} {bs:List an} {acc:List (Nat × an)} {k:List (Nat × an)→Rd R} {r:R} {rd:List Nat},(ri σ pl bs acc k).run C hp=some (r,rd)→
  pl.length≤bs.length∧∃bk fa,(k bk).run C hp=some (r,fa)∧(∀q∈bk,q∈acc∨∃(j:Nat) (b:an),pl[j]? =some (.blk q.1)∧bs[j]? =some b∧gz σ b q.2∧((∃e es v2,q.2= .nest e es v2)→∃e es aq e' aR,hp q.1=some (.nest e es aq)∧q.2= .nest e' aR (aq.map (· +1))))∧
   (∀q∈acc,q∈bk)∧∀(j:Nat) p,pl[j]? =some p→∃id b,p= .blk id∧(id,b)∈bk
 | [],bs,acc,k,r,rd,h=>⟨lf _,acc,rd,by simpa only[ri] using h,fun q hq=> .inl hq,fun q hq=>hq,fun j p hp=>by simp at hp⟩
 | .row _ _ _::pl,bs,acc,k,r,rd,h=>by
  cases bs<;>(simp only[ri] at h;cases h)
 | .blk id::pl,[],acc,k,r,rd,h=>by simp only[ri] at h;cases h
 | .blk id::pl,b::bs,acc,k,r,rd,h=>by
  have fin: ∀{b2:an} {jG:List Nat},(ri σ pl bs ((id,b2)::acc) k).run C hp=some (r,jG)→gz σ b b2→((∃e es v2,b2= .nest e es v2)→∃e es aq e' aR,hp id=some (.nest e es aq)∧b2= .nest e' aR (aq.map (· +1)))→
    (Place.blk id::pl).length≤(b::bs).length∧∃bk fa,(k bk).run C hp=some (r,fa)∧(∀q∈bk,q∈acc∨∃(j:Nat) (b':an),(Place.blk id::pl)[j]? =some (.blk q.1)∧(b::bs)[j]? =some b'∧gz σ b' q.2∧((∃e es v2,q.2= .nest e es v2)→∃e es aq e' aR,hp q.1=some (.nest e es aq)∧q.2= .nest e' aR (aq.map (· +1))))∧
     (∀q∈acc,q∈bk)∧∀(j:Nat) p,(Place.blk id::pl)[j]? =some p→∃id b,p= .blk id∧(id,b)∈bk:=by
   intro b2 jG h1 hb hn
   obtain ⟨a0,bk,fa,a1,a2,a3,a4⟩:=RH h1
   refine ⟨by simp only[List.length_cons];omega,bk,fa,a1,fun q hq=> ?_,fun q hq=>a3 q (lP _ hq),fun j p hj=> ?_⟩
   ·rcases a2 q hq with h|⟨j,b',k1,k2,k3,k4⟩
    ·rcases dx.1 h with e|h
     ·subst e;exact .inr ⟨0,b,rfl,rfl,hb,hn⟩
     ·exact .inl h
    ·exact .inr ⟨j+1,b',by simpa using k1,by simpa using k2,k3,k4⟩
   ·cases j with
    | zero=>simp at hj;subst hj;exact ⟨id,b2,rfl,a3 _ (sN ..)⟩
    | succ j=>exact a4 j p (by simpa using hj)
  cases b with
  | nest e es v=>
   simp only[ri] at h
   obtain ⟨l,h⟩:=run_get h
   cases ab:hp id with
   | none=>rw[ab] at h;cases h
   | some blk=>
    rw[ab] at h
    cases blk with
    | nest e0 J2 aq=>exact fin h .nest fun _=>⟨e0,J2,aq,e,es,ab,rfl⟩
    | _=>cases h
  | dead=>exact fin h (.of σ _) fun ⟨_,_,_,h⟩=>by cases h
  | var T cs=>exact fin h (.of σ _) fun ⟨_,_,_,h⟩=>by cases h
  | arr e es fz=>exact fin h (.of σ _) fun ⟨_,_,_,h⟩=>by cases h
  | map t es=>exact fin h (.of σ _) fun ⟨_,_,_,h⟩=>by cases h
theorem RI {σ:List Place}: ∀{bs:List an} {n:Nat} {q:Nat × an},q∈rj σ n bs→∃i b,bs[i]? =some b∧q=(n+i,uD σ b)
 | [],n,q,h=>by simp[rj] at h
 | b::bs,n,q,h=>by
  simp only[rj,dx] at h
  rcases h with h|h
  ·exact ⟨0,b,rfl,h⟩
  ·obtain ⟨i,b',h1,U⟩:=RI h
   exact ⟨i+1,b',by simpa using h1,by rw[U];congr 1;omega⟩
theorem RJ {σ:List Place}: ∀{bs:List an} {n i:Nat} {b:an},bs[i]? =some b→(n+i,uD σ b)∈rj σ n bs
 | [],n,i,b,h=>by simp at h
 | b0::bs,n,i,b,h=>by
  simp only[rj,dx]
  cases i with
  | zero=>simp at h;subst h;exact .inl rfl
  | succ i=>exact .inr (by rw[show n+(i+1)=n+1+i by omega];exact RJ (by simpa using h))
theorem Gi: ∀{k n i:Nat},i<k→(sZ n k)[i]? =some (.blk (n+i))
 | 0,n,i,h=>by omega
 | k+1,n,0,h=>rfl
 | k+1,n,i+1,h=>by
  simp only[sZ,List.getElem?_cons_succ]
  rw[Gi (by omega)]
  congr 2
  omega
theorem Lc: ∀{k n:Nat},(sZ n k).length=k
 | 0,_=>rfl
 | k+1,n=>by simp[sZ,Lc]
theorem RK: ∀{bs:List (Nat × an)} {k:Rd R} {r:R} {rd:List Nat},(Ff bs k).run C hp=some (r,rd)→(∀q∈bs,hp q.1=none)∧∃fa,k.run C hp=some (r,fa)
 | [],k,r,rd,h=>⟨by simp,rd,h⟩
 | (id,b)::l,k,r,rd,h=>by
  simp only[Ff] at h
  obtain ⟨l1,h⟩:=run_get h
  cases ab:hp id with
  | some blk=>rw[ab] at h;cases h
  | none=>
   rw[ab] at h
   obtain ⟨h1,U⟩:=RK h
   refine ⟨fun q hq=> ?_,U⟩
   rcases dx.1 hq with e|hq
   ·subst e;exact ab
   ·exact h1 q hq
structure qa (σ:List Place) (cd:Nat→Option Nat) (bx:Nat→Option an) (β':Nat→Option Nat) (hp':Nat→Option an):Prop where
 blk: ∀j b,bx j=some b→∃id b',en σ j=some (.blk id)∧hp' id=some b'∧gz σ b b'∧(b≠ .dead→β' id=cd j)
 none: ∀j,bx j=none→en σ j=none
 an0: ∀j id ver path,en σ j≠some (.row id ver path)
theorem qa.leaf {σ:List Place} (T:qa σ cd bx β' hp') {v:Value} {x:V} (h:ao P w I cd bx v x):ao P w I β' hp' v (kC σ x):=by
 have look: ∀{j b},bx j=some b→∃id b',en σ j=some (.blk id)∧hp' id=some b'∧gz σ b b'∧(b≠ .dead→β' id=cd j):=fun h=>T.blk _ _ h
 cases h with
 | undef=>exact .undef
 | int=>exact .int
 | bool=>exact .bool
 | str h=>exact .str h
 | list h=>exact .list h
 | nilS=>exact .nilS
 | agg=>exact .undef
 | bn=>exact .undef
 | dB=>exact .dB
 | fn=>exact .undef
 | pref a b c=>exact .pref a b c
 | @eo _ e j h=>
  obtain ⟨id,b',k1,k2,k3,k4⟩:=look h
  simp only[kC,k1]
  cases k3
  exact .eo k2
 | @gq _ e j _ _ h=>
  obtain ⟨id,b',k1,k2,k3,k4⟩:=look h
  simp only[kC,k1]
  cases k3
  exact .gq k2
 | @kE _ j _ _ h=>
  obtain ⟨id,b',k1,k2,k3,k4⟩:=look h
  simp only[kC,k1]
  cases k3
  exact .kE k2
 | @dO e j fz _ h hb=>
  obtain ⟨id,b',k1,k2,k3,k4⟩:=look h
  simp only[kC,k1]
  cases k3
  exact .dO k2 ((k4 (by simp)).trans hb)
 | @whole e j es fz b cap h hb a1 a2 a3=>
  obtain ⟨id,b',k1,k2,k3,k4⟩:=look h
  simp only[kC,k1]
  cases k3
  exact .whole k2 ((k4 (by simp)).trans hb) a1 a2 a3
 | @eC e j es aq b cap h hb a1 a2 a3=>
  obtain ⟨id,b',k1,k2,k3,k4⟩:=look h
  simp only[kC,k1]
  cases k3
  exact .eC k2 ((k4 (by simp)).trans hb) a1 a2 a3
 | @ga e j fz _ h hb=>
  obtain ⟨id,b',k1,k2,k3,k4⟩:=look h
  simp only[kC,k1]
  cases k3
  exact .ga k2 ((k4 (by simp)).trans hb)
 | @sub e j off len es fz b o cap h hb a1 a2 a3=>
  obtain ⟨id,b',k1,k2,k3,k4⟩:=look h
  simp only[kC,k1]
  cases k3
  exact .sub k2 ((k4 (by simp)).trans hb) a1 a2 a3
 | @ptr j i c b blk h hd hb=>
  obtain ⟨id,b',k1,k2,k3,k4⟩:=look h
  simp only[kC,k1]
  have hs:blk.sz P=b'.sz P:=by cases k3<;>rfl
  rw[hs]
  exact .ptr k2 (by intro e;subst e;cases k3;exact hd rfl) ((k4 hd).trans hb)
 | jV=>exact .undef
 | jW=>exact .undef
 | row=>exact .undef
 | cJ=>exact .undef
 | dE=>exact .dE
 | @iH _ t j h=>
  obtain ⟨id,b',k1,k2,k3,k4⟩:=look h
  simp only[kC,k1]
  cases k3
  exact .iH k2
 | @cE t j b es h hb=>
  obtain ⟨id,b',k1,k2,k3,k4⟩:=look h
  simp only[kC,k1]
  cases k3
  exact .cE k2 ((k4 (by simp)).trans hb)
theorem qa.one {σ:List Place} (T:qa σ cd bx β' hp') {v:Value} {x:V} (h:ao P w I cd bx v x):ao P w I β' hp' v (JR σ x):=by
 cases x with
 | agg xs=>
  obtain ⟨cs,rfl,e1,e2⟩:=h.ly
  exact .agg (by simpa using e1) fun j v y hj hy=>by
   rw[fU] at hy
   cases hx:xs[j]? with
   | none=>rw[hx] at hy;cases hy
   | some x=>rw[hx] at hy;cases hy;exact T.leaf (e2 j v x hj hx)
 | fn f a b=>
  cases h with
  | fn a1 a2 b1 b2=>
   refine .fn (by simpa using a1) (fun j v y hj hy=> ?_) (by simpa using b1) (fun j v y hj hy=> ?_)
   ·rw[fU] at hy
    cases hx:a[j]? with
    | none=>rw[hx] at hy;cases hy
    | some x=>rw[hx] at hy;cases hy;exact T.leaf (a2 j v x hj hx)
   ·rw[fU] at hy
    cases hx:b[j]? with
    | none=>rw[hx] at hy;cases hy
    | some x=>rw[hx] at hy;cases hy;exact T.leaf (b2 j v x hj hx)
 | _=>exact T.leaf h
theorem qa.val {σ:List Place} (T:qa σ cd bx β' hp') {v:Value} {x:V} (h:ao P w I cd bx v x):ao P w I β' hp' v (Fe σ x):=by
 cases x with
 | bn xs=>
  obtain ⟨cs,rfl,e1,e2⟩:=h.uS
  exact .bn (by simpa using e1) fun j v y hj hy=>by
   rw[fU] at hy
   cases hx:xs[j]? with
   | none=>rw[hx] at hy;cases hy
   | some x=>rw[hx] at hy;cases hy;exact T.one (e2 j v x hj hx)
 | _=>exact T.one h
theorem qa.RL {σ:List Place} (T:qa σ cd bx β' hp') {o:Option Nat} {b b':an} (h:ee P w I cd bx o b) (hb:gz σ b b'):ee P w I β' hp' o b':=by
 cases hb with
 | dead=>exact .dead
 | var=>
  cases h with
  | var a1 a2 a3 a4 a5 a6=>
   refine .var a1 a2 (by simpa using a3) a4 (fun j v y hj hy=> ?_) a6
   rw[fU] at hy
   cases hx:(_:List V)[j]? with
   | none=>rw[hx] at hy;cases hy
   | some x=>rw[hx] at hy;cases hy;exact T.val (a5 j v x hj hx)
 | arr=>
  cases h with
  | dP hb=>exact .dP hb
  | arr a1 a2 a3 a4 a5 a6 a7=>exact .arr a1 a2 a3 a4 a5 a6 a7
 | nest=>
  cases h with
  | nest a1 a2 a3=>exact .nest a1 a2 a3
 | map=>
  cases h with
  | map a1 a2 a3 a4 a5 a6 a7=>exact .map a1 a2 a3 a4 a5 a6 a7
theorem gz.vg {σ:List Place} {o:Option Nat} {b b':an} (h:gz σ b b') {m:Nat} (ho:bC P w o b' m):bC P w o b m:=by
 cases h with
 | dead=>exact absurd rfl ho.alive
 | var=>exact .root (by simp) (ho.flat (by simp))
 | arr=>exact .root (by simp) (ho.flat (by simp))
 | map=>exact .root (by simp) (ho.flat (by simp))
 | nest=>
  cases ho with
  | root _ hb=>exact .root (by simp) hb
  | row hb ha=>exact .row hb ha
theorem gz.RM {σ:List Place} {b b':an} (h:gz σ b b'):b'≠ .dead→b≠ .dead:=by
 intro h1 U;subst U;cases h;exact h1 rfl
end
section
variable {P:Program} {A:cK} {w w':World} {I I' I2:Nat→Prop} {μ β β' cd:Nat→Option Nat} {hp hp' hp0 bx:Nat→Option an} {C:ae} {B:Nat} {M:Nat→Prop} {w0:Start}
theorem RN: ∀{vs:List Nat} {k:Nat},k<vs.length→bI (vs.map (· +1)) k=bI vs k+1
 | [],k,h=>by simp at h
 | v::vs,0,h=>rfl
 | v::vs,k+1,h=>by simp only[cr,bI];exact RN (by simpa using h)
theorem RO: ∀{vs:List Nat} {k:Nat},bI vs k≤bI (vs.map (· +1)) k
 | [],k=>by simp[bI]
 | v::vs,0=>by simp[bI]
 | v::vs,k+1=>by simp only[cr,bI];exact RO
def Bv (hp:Nat→Option an) (q:Nat × an):Prop:=(∃e es v2,q.2= .nest e es v2)→∃e es aq e' aR,hp q.1=some (.nest e es aq)∧q.2= .nest e' aR (aq.map (· +1))
theorem eg.Ld {id:Nat} {o:Option Nat} {blk:an} (h:eg P w β hp (.blk id) o blk):o=β id∧∃b0,hp id=some b0∧b0≠ .dead:=by
 cases h with
 | var h=>exact ⟨rfl,_,h,by simp⟩
 | arr h=>exact ⟨rfl,_,h,by simp⟩
 | nest h=>exact ⟨rfl,_,h,by simp⟩
 | map h=>exact ⟨rfl,_,h,by simp⟩
theorem eg.acz {id:Nat} {o:Option Nat} {c b b' b0:an} {σ:List Place} (h:eg P w β hp (.blk id) o c) (h0:hp id=some b0) (hle:c.le b) (hb:gz σ b b') (hn:Bv hp (id,b')):b0.le b':=by
 cases h with
 | var h=>
  rw[h] at h0;cases h0
  cases hb with
  | dead=>trivial
  | var=>trivial
  | arr=>exact hle.elim
  | nest=>exact hle.elim
  | map=>exact hle.elim
 | arr h=>
  rw[h] at h0;cases h0
  cases hb with
  | dead=>trivial
  | var=>exact hle.elim
  | arr=>exact hle
  | nest=>exact hle.elim
  | map=>exact hle.elim
 | map h=>
  rw[h] at h0;cases h0
  cases hb with
  | dead=>trivial
  | map=>exact hle
  | _=>exact hle.elim
 | nest h=>
  rw[h] at h0;cases h0
  cases hb with
  | dead=>trivial
  | var=>exact hle.elim
  | arr=>exact hle
  | map=>exact hle.elim
  | @nest e es v1 v2=>
   obtain ⟨e1,cx,vh,e2,cf,k1,k2⟩:=hn ⟨_,_,_,rfl⟩
   cases k2
   change hp id=_ at k1
   rw[h] at k1;cases k1
   exact ⟨hle.1,hle.2.1,by simp,fun k=>RO⟩
theorem eg.other {p:Place} {o:Option Nat} {blk:an} (h:eg P w β hp p o blk) (he:hp' p.id=hp p.id):eg P w β hp' p o blk:=by
 cases h with
 | var h=>exact .var (he.trans h)
 | arr h=>exact .arr (he.trans h)
 | nest h=>exact .nest (he.trans h)
 | map h=>exact .map (he.trans h)
 | row h a b c d e f g=>exact .row (he.trans h) a b c d e f g
open Classical in
theorem RP (S:aH P w I β hp B M w0) {pl:List Place} {o:Nat→Option Nat} {bs:List an} {nb:Nat} {bk fr:List (Nat × an)} {σ:List Place} (rS:σ=pl++sZ nb (bs.length-pl.length)) (Bw:fr=rj σ nb (bs.drop pl.length))
  (kN:(pl.map Place.id).Nodup) (rC:pl.length≤bs.length)
  (jl: ∀(j:Nat) p,pl[j]? =some p→∃id b,p= .blk id∧(id,b)∈bk) (Gj: ∀q∈bk,∃(j:Nat) (b:an),pl[j]? =some (.blk q.1)∧bs[j]? =some b∧gz σ b q.2∧Bv hp q)
  (hl: ∀j blk,hp0 j=some blk→∃p,en pl j=some p∧eg P w β hp p (o j) blk) (hd: ∀j,j<pl.length→∃blk,hp0 j=some blk)
  (Sc:aH P w' I2 cd (jT bs) w.heap.size (o9 P w o hp0) ⟨w,I⟩) (ya:lC w I o hp0 w' I2 cd (jT bs)) (tm: ∀q∈fr,hp q.1=none):
  ∃β',Le P w I β hp w' I2 β' (bP hp (fr++bk))∧aH P w' I2 β' (bP hp (fr++bk)) B M w0∧qa σ cd (jT bs) β' (bP hp (fr++bk)):=by
 generalize Lf:bP hp (fr++bk)=g9
 let β':Nat→Option Nat:=fun n=>if∃q∈fr,q.1=n then cd (pl.length+(n-nb)) else β n
 have RQ: ∀(j:Nat) id,pl[j]? =some (.blk id)→∃c,hp0 j=some c∧eg P w β hp (.blk id) (o j) c:=by
  intro j id hj
  obtain ⟨c,hc⟩:=hd j (bw.1 hj).1
  obtain ⟨p,h1,U⟩:=hl j c hc
  rw[mc,hj] at h1
  cases h1
  exact ⟨c,hc,U⟩
 have uniq: ∀(j1 j2:Nat) id,pl[j1]? =some (.blk id)→pl[j2]? =some (.blk id)→j1=j2:=by
  intro j1 j2 id h1 U
  have m1:(pl.map Place.id)[j1]? =some id:=by rw[fU,h1];rfl
  have m2:(pl.map Place.id)[j2]? =some id:=by rw[fU,U];rfl
  obtain ⟨z1,z2⟩:=bw.1 m1
  obtain ⟨z3,z4⟩:=bw.1 m2
  exact (List.getElem_inj kN).1 (z2.trans z4.symm)
 have cls: ∀id,(∃i b,id=nb+i∧bs[pl.length+i]? =some b∧g9 id=some (uD σ b)∧hp id=none∧β' id=cd (pl.length+i))∨
   (∃(j:Nat) (b b' c b0:an),pl[j]? =some (.blk id)∧bs[j]? =some b∧hp0 j=some c∧eg P w β hp (.blk id) (o j) c∧hp id=some b0∧b0.le b'∧g9 id=some b'∧gz σ b b'∧Bv hp (id,b')∧β' id=β id∧c.le b∧(b≠ .dead→cd j=β id))∨
   (g9 id=hp id∧(∀j:Nat,pl[j]? ≠some (.blk id))∧β' id=β id):=by
  intro id
  by_cases hm: ∃b,(id,b)∈fr++bk
  ·obtain ⟨b,hm⟩:=hm
   obtain ⟨b',Fu,he⟩:=Fq (hp:=hp) hm
   rw[Lf] at he
   rcases eJ.1 Fu with h|h
   ·have h0:=tm _ h
    have pb:β' id=cd (pl.length+(id-nb)):=ag ⟨_,h,rfl⟩
    rw[Bw] at h
    obtain ⟨i,b1,k1,k2⟩:=RI h
    rw[iy] at k1
    cases k2
    exact .inl ⟨i,b1,rfl,k1,he,h0,by rw[pb];congr 2;omega⟩
   ·obtain ⟨j,b1,q1,q2,q3,q4⟩:=Gj _ h
    obtain ⟨c,c1,c2⟩:=RQ j id q1
    obtain ⟨c3,b0,c4,c5⟩:=c2.Ld
    obtain ⟨b2,d1,d2,d3⟩:=ya.blk j c c1
    rw[ig,q2] at d1
    cases d1
    refine .inr (.inl ⟨j,b1,b',c,b0,q1,q2,c1,c2,c4,c2.acz c4 d2 q3 q4,he,q3,q4,ah ?_,d2,fun h=>(d3 h).trans c3⟩)
    rintro ⟨q,hq,hqe⟩
    rw[←hqe,tm q hq] at c4
    cases c4
  ·refine .inr (.inr ⟨?_,fun j hj=> ?_,ah ?_⟩)
   ·rcases uP (hp:=hp) (l:=fr++bk) (id:=id) with h|⟨b,hb,_⟩
    ·rw[Lf] at h;exact h
    ·exact absurd ⟨b,hb⟩ hm
   ·obtain ⟨aG,b,e,hb⟩:=jl j _ hj
    cases e
    exact hm ⟨b,eJ.2 (.inr hb)⟩
   ·rintro ⟨q,hq,rfl⟩
    exact hm ⟨q.2,eJ.2 (.inl hq)⟩
 have RR: ∀b,o9 P w o hp0 b→∃(j id:Nat) (b1:an),pl[j]? =some (.blk id)∧hp id=some b1∧bC P w (β id) b1 b∧∀e es,b1≠ .arr e es true:=by
  rintro b ⟨j,c,hc,ho⟩
  obtain ⟨p,h1,U⟩:=hl j c hc
  rw[mc] at h1
  obtain ⟨id,b2,rfl,_⟩:=jl j p h1
  obtain ⟨b1,k1,k2,k3⟩:=U.vg ho
  exact ⟨j,id,b1,h1,k1,k2,k3⟩
 have other: ∀id blk b,hp id=some blk→bC P w (β id) blk b→(∀j:Nat,pl[j]? ≠some (.blk id))→¬o9 P w o hp0 b∧w'.heap[b]? =w.heap[b]? ∧(I2 b→I b):=by
  intro id blk b e1 e3 e4
  have pc: ¬o9 P w o hp0 b:=by
   intro hx
   obtain ⟨j,aG,b1,i1,i2,i3,_⟩:=RR b hx
   have:=S.h.inj id aG _ _ b e1 i2 e3 i3
   subst this
   exact e4 j i1
  have aQ:=S.h.lt e1 e3
  refine ⟨pc,Sc.cm b aQ pc,fun h=> ?_⟩
  rcases Sc.new b h with h|h|h
  ·exact h
  ·exact absurd h pc
  ·omega
 have tf:qa σ cd (jT bs) β' g9:=by
  refine ⟨fun j b hj=> ?_,fun j hj=> ?_,fun j id ver path hj=> ?_⟩
  ·rw[ig] at hj
   by_cases cp:j<pl.length
   ·obtain ⟨id,b1,e,l9⟩:=jl j _ (bH cp)
    have Gk:pl[j]? =some (.blk id):=by rw[bH cp,e]
    have Lh:en σ j=some (.blk id):=by rw[rS];exact o8 (by rw[mc];exact Gk)
    rcases cls id with ⟨i,b2,c1,c2,c3,c4,c5⟩|⟨j',b2,b',c,b0,q1,q2,q3,q4,q5,q6,q7,q8,q9,qb,yb,rT⟩|⟨c1,c2,c3⟩
    ·obtain ⟨c,d1,d2⟩:=RQ j id Gk
     obtain ⟨_,b0,d3,_⟩:=d2.Ld
     rw[d3] at c4;cases c4
    ·obtain rfl:=uniq _ _ _ q1 Gk
     rw[hj] at q2;cases q2
     exact ⟨id,b',Lh,q7,q8,fun h=>qb.trans (rT h).symm⟩
    ·exact absurd Gk (c2 j)
   ·have RS:=(bw.1 hj).1
    have Lh:en σ j=some (.blk (nb+(j-pl.length))):=by
     rw[rS,mc,iU (by omega)]
     exact Gi (by omega)
    have hm:(nb+(j-pl.length),uD σ b)∈fr:=by
     rw[Bw]
     refine RJ ?_
     rw[iy,show pl.length+(j-pl.length)=j by omega]
     exact hj
    rcases cls (nb+(j-pl.length)) with ⟨i,b2,c1,c2,c3,c4,c5⟩|⟨j',b2,b',c,b0,q1,q2,q3,q4,q5,q6,q7,q8,q9,qb,yb,rT⟩|⟨c1,c2,c3⟩
    ·have hi:i=j-pl.length:=by omega
     subst hi
     rw[show pl.length+(j-pl.length)=j by omega] at c2 c5
     rw[hj] at c2;cases c2
     exact ⟨_,_,Lh,c3,.of σ _,fun _=>c5⟩
    ·rw[tm _ hm] at q5;cases q5
    ·obtain ⟨b',Fu,he⟩:=Fq (hp:=hp) (l:=fr++bk) (eJ.2 (.inl hm))
     rw[Lf,c1,tm _ hm] at he
     cases he
  ·rw[ig] at hj
   have:=List.getElem?_eq_none_iff.1 hj
   rw[rS,mc,List.getElem?_eq_none_iff,cB,Lc]
   omega
  ·rw[rS,mc] at hj
   by_cases cp:j<pl.length
   ·rw[iT cp] at hj
    obtain ⟨aG,b1,e,_⟩:=jl j _ hj
    cases e
   ·have RS:j-pl.length<bs.length-pl.length:=by
     have:=(bw.1 hj).1
     rw[cB,Lc] at this
     omega
    rw[iU (by omega),Gi RS] at hj
    cases hj
 have hle:Le P w I β hp w' I2 β' g9:=by
  refine ⟨ya.dq,ya.cm,fun id blk ab=> ?_,fun id blk blk' b ab bJ rU hb=> ?_,fun id e es aq e' aR vers' b q i c t v e1 l ab bJ hb aQ hv ht hc=> ?_⟩
  ·rcases cls id with ⟨i,b2,c1,c2,c3,c4,c5⟩|⟨j',b2,b',c,b0,q1,q2,q3,q4,q5,q6,q7,q8,q9,qb,yb,rT⟩|⟨c1,c2,c3⟩
   ·rw[ab] at c4;cases c4
   ·rw[ab] at q5;cases q5
    exact ⟨b',q7,q6,fun _=>qb⟩
   ·exact ⟨blk,c1.trans ab,an.le_refl _,fun _=>c3⟩
  ·rcases cls id with ⟨i,b2,c1,c2,c3,c4,c5⟩|⟨j',b2,b',c,b0,q1,q2,q3,q4,q5,q6,q7,q8,q9,qb,yb,rT⟩|⟨c1,c2,c3⟩
   ·rw[ab] at c4;cases c4
   ·rw[q7] at bJ;cases bJ
    exact ya.size j' c b2 b q3 (by rw[ig];exact q2) (q8.RM rU) (q4.Ld.1.trans hb)
   ·rw[c1,ab] at bJ
    cases bJ
    simp only[bsize,(other id blk b ab (.root rU hb) c2).2.1]
  ·rcases cls id with ⟨i2,b2,c1,c2,c3,c4,c5⟩|⟨j',b2,b',c',b0,q1,q2,q3,q4,q5,q6,q7,q8,q9,qb,yb,rT⟩|⟨c1,c2,c3⟩
   ·rw[ab] at c4;cases c4
   ·rw[q7] at bJ;cases bJ
    obtain ⟨_,_,vh,_,_,k1,k2⟩:=q9 ⟨_,_,_,rfl⟩
    change hp id=_ at k1
    rw[ab] at k1;cases k1
    cases k2
    rw[RN aQ] at hv
    omega
   ·rw[c1,ab] at bJ
    cases bJ
    exact ⟨l,rfl,hc.mono fun _ _ _ _ h=>(other id _ _ ab (.row hb h) c2).2.1⟩
 have place: ∀id blk b,g9 id=some blk→bC P w' (β' id) blk b→(∃j c,jT bs j=some c∧bC P w' (cd j) c b∧en σ j=some (.blk id))∨(b<w.heap.size∧¬o9 P w o hp0 b∧hp id=some blk∧bC P w (β id) blk b):=by
  intro id blk b e1 e3
  rcases cls id with ⟨i,b2,c1,c2,c3,c4,c5⟩|⟨j',b2,b',c,b0,q1,q2,q3,q4,q5,q6,q7,q8,q9,qb,yb,rT⟩|⟨c1,c2,c3⟩
  ·rw[c3] at e1;cases e1
   rw[c5] at e3
   refine .inl ⟨pl.length+i,b2,by rw[ig];exact c2,(gz.of σ b2).vg e3,?_⟩
   have:=(bw.1 c2).1
   rw[rS,mc,iU (by omega),Gi (by omega),c1]
   congr 3
   omega
  ·rw[q7] at e1;cases e1
   have rU:b2≠ .dead:=q8.RM e3.alive
   rw[qb,←rT rU] at e3
   exact .inl ⟨j',b2,by rw[ig];exact q2,q8.vg e3,by rw[rS];exact o8 (by rw[mc];exact q1)⟩
  ·rw[c1] at e1
   rw[c3] at e3
   have:=e3.mono (w:=w) fun b hb=>(other id blk b e1 hb c2).2.1
   exact .inr ⟨S.h.lt e1 this,(other id blk b e1 this c2).1,e1,this⟩
 have s6: ∀b,o9 P w o hp0 b∨w.heap.size≤b→M b∨B≤b:=by
  rintro b (h|h)
  ·obtain ⟨j,id,b1,i1,i2,i3,_⟩:=RR b h
   exact S.h.own id b1 b i2 i3
  ·exact .inr (lg S.size h)
 have Li: ∀j c b,jT bs j=some c→bC P w' (cd j) c b→o9 P w o hp0 b∨w.heap.size≤b:=fun j c b h1 U=>Sc.h.own j c b h1 U
 refine ⟨β',hle,⟨⟨fun id blk ab=> ?_,fun i1 i2 b1 b2 b e1 e2 f1 f2=> ?_,fun id blk b ab hb=> ?_,Sc.h.jX⟩,fun b hb hM=> ?_,lg S.size Sc.size,fun b hb=> ?_,⟨Sc.io.1.trans S.io.1,Sc.io.2.trans S.io.2⟩⟩,tf⟩
 ·rcases cls id with ⟨i,b2,c1,c2,c3,c4,c5⟩|⟨j',b2,b',c,b0,q1,q2,q3,q4,q5,q6,q7,q8,q9,qb,yb,rT⟩|⟨c1,c2,c3⟩
  ·rw[c3] at ab;cases ab
   rw[c5]
   exact tf.RL (Sc.h.rel _ b2 (by rw[ig];exact c2)) (.of σ b2)
  ·rw[q7] at ab;cases ab
   have:=tf.RL (Sc.h.rel j' b2 (by rw[ig];exact q2)) q8
   by_cases rU:b2= .dead
   ·subst rU
    cases q8
    exact .dead
   ·rw[qb,←rT rU]
    exact this
  ·rw[c1] at ab
   rw[c3]
   exact (S.h.rel id blk ab).mono hle fun b hb=>(other id blk b ab hb c2).2
 ·rcases place i1 b1 b e1 f1 with ⟨j1,c1,g1,g2,g3⟩|⟨g1,g2,g3,g4⟩<;>rcases place i2 b2 b e2 f2 with ⟨j2,c2,k1,k2,k3⟩|⟨k1,k2,k3,k4⟩
  ·have:=Sc.h.inj j1 j2 c1 c2 b g1 k1 g2 k2
   subst this
   rw[g3] at k3
   cases k3
   rfl
  ·rcases Li j1 c1 b g1 g2 with h|h
   ·exact absurd h k2
   ·omega
  ·rcases Li j2 c2 b k1 k2 with h|h
   ·exact absurd h g2
   ·omega
  ·exact S.h.inj i1 i2 _ _ b g3 k3 g4 k4
 ·rcases place id blk b ab hb with ⟨j1,c1,g1,g2,g3⟩|⟨g1,g2,g3,g4⟩
  ·exact s6 b (Li j1 c1 b g1 g2)
  ·exact S.h.own id blk b g3 g4
 ·refine (Sc.cm b (oK hb S.size) fun hx=> ?_).trans (S.cm b hb hM)
  rcases s6 b (.inl hx) with h|h
  ·exact hM h
  ·omega
 ·rcases Sc.new b hb with h|h|h
  ·exact S.new b h
  ·exact .inr (s6 b (.inl h))
  ·exact .inr (s6 b (.inr h))
end
section
variable {P:Program} {A:cK} {w w':World} {I I' I2:Nat→Prop} {μ β β' cd:Nat→Option Nat} {hp hp' hp0 bx:Nat→Option an} {C:ae} {B:Nat} {M:Nat→Prop} {w0:Start}
theorem RT (hp:Nat→Option an): ∀(a b:List (Nat × an)),bP hp (a++b)=bP (bP hp b) a
 | [],b=>rfl
 | (i,x)::a,b=>by simp only[List.cons_append,bP,RT hp a b]
theorem yc {hp:Nat→Option an} {l:List (Nat × an)} {id:Nat} (h: ∀q∈l,q.1≠id):bP hp l id=hp id:=by
 rcases uP (hp:=hp) (l:=l) (id:=id) with h1|⟨b,hb,_⟩
 ·exact h1
 ·exact absurd rfl (h _ hb)
def Bx (P : Program) : Prop := ∀ (f : Nat) fn, P.funcs[f]? = some fn → (fn.name == "runtime.NumGoroutine") = false
def RU (P:Program) (f:FuncId) (e:TypeId):Prop:=
 (∀args w,(callFunc f args).run P w= .ok (.enter f args) w)∧∃t,P.underlying t=some (.slice e)∧
  ∀(s:Value) (w:World) (Q:Ending→World→Prop),(s= .slice none 0 0→Q (.returned (.slice none 0 0)) w)→
   (∀a n c,s= .slice (some a) n c→∃v w',(Builtin.append_ #[t,t] t #[.slice (some ⟨w.heap.size,0,none⟩) 0 0,s]).run P (w.alloc (.cells #[] e))= .ok v w'∧Q (.returned v) w')→
   (s= .slice none 0 0∨∃a n c,s= .slice (some a) n c)→Calls P f #[s] w Q
structure iL (P:Program) (A:cK):Prop where
 count:Bx P
 ext: ∀f T,A.ext f=some T→∀(b:Nat) (C:Array Value) (w:World),w.heap[b]? =some (.cells C T (0,0))→C.size=P.cellsOf T→(C[0]? =some (.pointer none)∨C[0]? =some (.pointer (some ⟨b,0,none⟩)))→
  (callFunc f #[.pointer (some ⟨b,0,none⟩)]).run P w= .ok (.enter f #[.pointer (some ⟨b,0,none⟩)]) w∧
  Calls P f #[.pointer (some ⟨b,0,none⟩)] w fun e w'=>e= .returned (.tuple #[])∧(w'=w∨w'=w.setCell ⟨b,0,none⟩ (.pointer (some ⟨b,0,none⟩)))
 idle: ∀f,A.idle f=true→(∀args w,(callFunc f args).run P w= .ok (.enter f args) w)∧
  ∀args w,CallsD P f args .returning w fun e u' w'=>(∃v,e= .returned v)∧u'= .returning∧w'=w
 oQ: ∀f e,A.oQ f=some e→RU P f e
theorem iL.here {P:Program} {A:cK} (h:iL P A) (f id:Nat):iL P (A.here f id):=⟨h.count,h.ext,h.idle,h.oQ⟩
def By (E:FuncId→Bool) (d:Deferred):Prop:= ∃f cap,d.target= .fn (.func f) cap∧E f=true
theorem Lj {P:Program} {A:cK} (hP:iL P A) {fn:Func} {tmps:Array Value} {R:Ending→World→Prop} {w:World} {v:Value} (hv:(results fn tmps).run P w= .ok v w) (hR:R (.returned v) w):
  ∀ds:List Deferred,(∀d∈ds,By A.idle d)→Leaves P fn tmps R ds .returning w
 | [],_=>⟨v,hv,hR⟩
 | d::ds,h=>by
  obtain ⟨f,cap,ht,hf⟩:=h d (by simp)
  obtain ⟨k1,k2⟩:=hP.idle f hf
  obtain ⟨t,RV⟩:=d
  simp only at ht
  subst ht
  refine leaves_cons (f:=f) (args:=RV++cap) (by simp) ?_ ?_
  ·simp only[invoke];exact k1 _ w
  ·refine (k2 (RV++cap) w).mono fun e u' w' hr=> ?_
   obtain ⟨⟨v',rfl⟩,rfl,rfl⟩:=hr
   exact Lj hP hv hR ds fun d hd=>h d (lP _ hd)
def Bz (P:Program) (A:cK) (o:Oper) (a:Act) (w:World) (I:Nat→Prop) (β:Nat→Option Nat) (hp:Nat→Option an) (B:Nat) (M:Nat→Prop) (w0:Start) (r:R):Prop:=
 ∀(next:Act→World→Prop) (Q:Exit→Act→World→Prop),
  (∀v w' I' β' ds,Le P w I β hp w' I' β' (bP hp r.upd)→aH P w' I' β' (bP hp r.upd) B M w0→ao P w' I' β' (bP hp r.upd) v r.v→(∀d∈ds,d∈a.defers∨By A.idle d)→next ({a with defers:=ds}.put o.dst v) w')→o.wp P a w next Q
theorem pV.step {o:Oper} {a:Act} {r:R} (h:pV P ((execOp a.eval o).run P w) w I β hp B M w0 r):Bz P A o a w I β hp B M w0 r:=by
 obtain ⟨v,w',I',β',h1,U,h3,h4⟩:=h
 intro next Q hn
 unfold Oper.wp
 rcases h1 with h1|⟨h1,rfl⟩
 ·rw[h1];exact hn v w' I' β' a.defers U h3 h4 fun d hd=> .inl hd
 ·rw[h1];exact hn _ w' I' β' a.defers U h3 h4 fun d hd=> .inl hd
theorem RW: ∀(l:List (Nat × VS)),oS l=sY (l.map (·.2))
 | []=>rfl
 | (_,s)::l=>by simp only[oS,cr,sY,RW l]
theorem acA (hC:lD P A C) (S:aH P w I β hp B M w0) (hg:gE P A.aF w I) {vals:List Value} {args:List V} {nb key:Nat} {f:FuncId} {r:R} {rd:List Nat} (hlen:vals.length=args.length)
  (cL: ∀(j:Nat) v x,vals[j]? =some v→args[j]? =some x→ao P w I β hp v x) (h:(AN P A nb key f args).run C hp=some (r,rd)):
  ∃fn c,P.funcs[f]? =some fn∧fn.body=some c∧Calls P f vals.toArray w fun e w'=> ∃v I' β',e= .returned v∧Le P w I β hp w' I' β' (bP hp r.upd)∧aH P w' I' β' (bP hp r.upd) B M w0∧ao P w' I' β' (bP hp r.upd) v r.v:=by
 unfold AN at h
 obtain ⟨RX,h0⟩:=aK h
 clear h
 rw[a9] at RX
 subst RX
 obtain ⟨h1,jG,d1,u1,a1,a2,a3,a5,a4⟩:=K9 S h0 hlen cL
 obtain ⟨U,tk,d2,u2,b1,b2,b3,b4⟩:=RA S a1
 clear h0 a1
 obtain ⟨hc,h3⟩:=aK b1
 clear b1
 simp only[aO,a9,lQ] at hc
 obtain ⟨cb,Gh⟩:=hc
 have tn:=a2.trans b2
 have lN:U.ds=d1++d2:=by have:=tn.ds;simpa using this
 have Gl:U.upd=u1++u2:=by have:=tn.upd;simpa using this
 have kN:(U.pl.map Place.id).Nodup:=tn.nodup (by simp)
 obtain ⟨c1,o,c2,c3⟩:=b4 []
 simp only[dy] at c1 c2 c3
 cases BA:C key U.ds with
 | none=>
  simp only[Rd.run,BA] at h3
  cases h3
 | some es=>
  have rz: ∃fa,(AL P (A.so key es) nb U (A.lv key es)).run C hp=some (r,fa):=by
   obtain ⟨x,hx,e⟩:=bind_some h3
   rw[BA] at hx
   cases hx
   unfold cK.so cK.lv
   cases cq:A.alt key with
   | none=>rw[cq] at e;exact ⟨_,e⟩
   | some S2=>
    rw[cq] at e
    simp only[Rd.run] at e
    cases hb:(V.nth es 0).toBool<;>(rw[hb] at e;exact ⟨_,e⟩)
  clear h3
  obtain ⟨fa,h3⟩:=rz
  unfold AL at h3
  simp only at h3
  generalize hU:eM (A.so key es).ba ((A.lv key es).drop (oS (A.so key es).bR))=bs at h3
  generalize rS:U.pl++sZ nb (bs.length-U.pl.length)=σ at h3
  generalize Bw:rj σ nb (bs.drop U.pl.length)=fr at h3
  obtain ⟨p0,bk,rd4,p1,p2,_,p3⟩:=RH h3
  obtain ⟨tm,rd5,p4⟩:=RK p1
  obtain rfl:=aU p4
  have rC:U.pl.length≤bs.length:=by rw[fT] at p0;omega
  have Gj: ∀q∈bk,∃(j:Nat) (b:an),U.pl[j]? =some (.blk q.1)∧bs[j]? =some b∧gz σ b q.2∧Bv hp q:=by
   intro q hq
   rcases p2 q hq with hx|⟨j,b,k1,k2,k3,k4⟩
   ·simp at hx
   ·have hj:=(bw.1 k1).1
    rw[ff hj] at k2
    exact ⟨j,b,k1,k2,k3,k4⟩
  obtain ⟨fn,c,hf,hb,Lk⟩:=hC key U.ds es BA
  refine ⟨fn,c,hf,hb,?_⟩
  have hmb:eM (A.sin key).ba (U.ds.drop (oS (A.sin key).bR))=eM (A.sin key).ba d2:=by
   rw[lN,RW,nX a3]
  have Ll:(bu (A.sin key) U.ds).hp=jT (eM (A.sin key).ba d2):=by
   simp only[bu,mk,hmb]
  have hl: ∀j blk,(bu (A.sin key) U.ds).hp j=some blk→∃p,en U.pl j=some p∧eg P w β hp p (o j) blk:=by
   intro j blk hj
   rw[Ll,ig] at hj
   obtain ⟨p,k1,k2⟩:=c2 j blk hj
   rw[gV] at k1
   exact ⟨p,k1,k2⟩
  have hd: ∀j,j<U.pl.length→∃blk,(bu (A.sin key) U.ds).hp j=some blk:=by
   intro j hj
   rw[Ll,ig]
   exact ⟨_,bH (by rw[c1,←cb];exact hj)⟩
  have RY:Br P w β hp U.pl o (bu (A.sin key) U.ds).hp:=by
   intro j p hj
   obtain ⟨blk,k1⟩:=hd j (by rw[mc] at hj;exact (bw.1 hj).1)
   obtain ⟨p',k2,k3⟩:=hl j blk k1
   rw[hj] at k2
   cases k2
   exact ⟨blk,k1,k3⟩
  obtain ⟨rJ,S1⟩:=A3 S tn.Ga
  rw[←Gl] at rJ S1
  have i1: ∀b,I b→jd P w I β hp U.upd b:=fun b h=> .inl h
  have entry:=acv (hp0:=(bu (A.sin key) U.ds).hp) S kN Gh hl (fun cV j blk hj=>by
   have gb:=hj
   rw[Ll,ig] at gb
   exact c3 (jd P w I β hp U.upd) o _ i1 (fun q hq b hb=> .inr ⟨q,by rw[Gl];exact eJ.2 (.inr hq),hb⟩) U.pl [] (by simp) RY j blk gb (cV j blk hj)) S1.h.jX
  have acB:vals.length=(A.sin key).bR.length:=by rw[hlen,←a5];simp
  have ha:=Lk w (jd P w I β hp U.upd) o vals entry (hg.mono i1 fun _ _=>rfl) acB fun j v x hj hx=>by
   rw[lN] at hx
   exact (((a4.later b2) (jd P w I β hp U.upd) o _ i1 (fun q hq b hb=> .inr ⟨q,by rw[Gl];exact hq,hb⟩) U.pl [] (by simp) RY) d2).2 j v x hj hx
  refine ha.mono fun e w' BB=> ?_
  obtain ⟨v,I2,cd,rfl,ha⟩:=BB
  have yd:(bu (A.so key es) (A.lv key es)).hp=jT bs:=by simp only[bu,mk,hU]
  cases acC:(A.so key es).safe P with
  | true=>
   simp only[cond_true,dy]
   have ia: ∀b,I b→I2 b:=fun b h=>ha.le.dq b (i1 b h)
   obtain ⟨s1,s2⟩:=acy acC ia ha.xZ i1
   have ya:lC w I o (bu (A.sin key) U.ds).hp w' I cd (jT bs):=by
    rw[←yd]
    exact ⟨fun _ h=>h,fun b h=>ha.le.cm b (i1 b h),ha.le.blk,ha.le.size⟩
   obtain ⟨β',k1,k2,k3⟩:=RP S rS.symm Bw.symm kN rC p3 Gj hl hd (by rw[←yd];exact ⟨s1.h,s1.cm,s1.size,fun b h=> .inl h,s1.io⟩) ya tm
   exact ⟨v,I,β',rfl,k1,k2,k3.val (by have:=s2 v ha.res;rw[yd] at this;exact this)⟩
  | false=>
   simp only[cond_false]
   rw[←cw,RT]
   have pc: ∀p∈U.pl,bP hp U.upd p.id=hp p.id:=fun p hp=>yc fun q hq e=>
    Gg Gh (ey.2 ⟨q,hq,rfl⟩) (e▸ey.2 ⟨p,hp,rfl⟩)
   have acD: ∀q∈bk,∃(j:Nat) (b:an),U.pl[j]? =some (.blk q.1)∧bs[j]? =some b∧gz σ b q.2∧Bv (bP hp U.upd) q:=by
    intro q hq
    obtain ⟨j,b,k1,k2,k3,k4⟩:=Gj q hq
    refine ⟨j,b,k1,k2,k3,fun hn=> ?_⟩
    have:=pc _ (jR k1)
    simp only[Place.id] at this
    rw[this]
    exact k4 hn
   have xz: ∀j blk,(bu (A.sin key) U.ds).hp j=some blk→∃p,en U.pl j=some p∧eg P w β (bP hp U.upd) p (o j) blk:=by
    intro j blk hj
    obtain ⟨p,k1,k2⟩:=hl j blk hj
    exact ⟨p,k1,k2.other (pc p (by rw[mc] at k1;exact jR k1))⟩
   have acE: ∀q∈fr,bP hp U.upd q.1=none:=by
    intro q hq
    rw[yc fun q' BC e=> ?_]
    ·exact tm q hq
    ·obtain ⟨e1,cx,_,h5⟩:=tn.Ga q' (Gl▸BC)
     rw[e,tm q hq] at h5
     rcases h5 with ⟨_,h5⟩|⟨_,h5⟩<;>cases h5
   obtain ⟨β',k1,k2,k3⟩:=RP S1 rS.symm Bw.symm kN rC p3 acD xz hd (by rw[←yd];exact ha.xZ) (by rw[←yd];exact ha.le) acE
   exact ⟨v,I2,β',rfl,rJ.trans k1,k2,k3.val (by have:=ha.res;rw[yd] at this;exact this)⟩
theorem RZ (hC:lD P A C) (hP:iL P A) (S:aH P w I β hp B M w0) (hg:gE P A.aF w I) {a:Act} {nb key:Nat} {o:Oper} {f:FuncId} {vals:List Value} {args:List V} (hlen:vals.length=args.length)
  (cL: ∀(j:Nat) v x,vals[j]? =some v→args[j]? =some x→ao P w I β hp v x) {r:R} {rd:List Nat} (h:(AN P A nb key f args).run C hp=some (r,rd))
  (hex:(execOp a.eval o).run P w=(callFunc f vals.toArray).run P w):Bz P A o a w I β hp B M w0 r:=by
 intro next Q hn
 obtain ⟨fn,c,hf,hb,Lk⟩:=acA hC S hg hlen cL h
 unfold Oper.wp
 rw[hex,MuLone.run_callFunc_enter hf (hP.count f _ hf) hb,Oper.upon_enter]
 refine Lk.mono fun e w' BB=> ?_
 obtain ⟨v,I2,cd,rfl,k1,k2,k3⟩:=BB
 exact hn v w' I2 cd a.defers k1 k2 k3 fun d hd=> .inl hd
theorem lr.args {a:Act} {sl:Nat→V} (hs:lr P w I β hp a sl) (hg:gE P A.aF w I) {args:Array Operand} {ts:Array TypeId} (bd:args.size=ts.size):
  (args.map a.eval).toList.length=((args.toList.zip ts.toList).map fun p=>aV P A.aF p.2 sl p.1).length∧
  ∀(j:Nat) v x,(args.map a.eval).toList[j]? =some v→((args.toList.zip ts.toList).map fun p=>aV P A.aF p.2 sl p.1)[j]? =some x→ao P w I β hp v x:=by
 refine ⟨by simp;omega,fun j v x hv hx=> ?_⟩
 simp only[Array.toList_map,fU,List.getElem?_zip_eq_some,Ap] at hv hx
 obtain ⟨x1,BD,rfl⟩:=hv
 obtain ⟨⟨y1,t1⟩,⟨R3,_⟩,rfl⟩:=hx
 rw[BD] at R3
 cases R3
 exact hs.ev hg t1 _
theorem R4 {vs us:List Value} {xs ys:List V} (h1:vs.length=xs.length) (U: ∀(j:Nat) v x,vs[j]? =some v→xs[j]? =some x→ao P w I β hp v x)
  (h3: ∀(j:Nat) v x,us[j]? =some v→ys[j]? =some x→ao P w I β hp v x) (j:Nat) (v:Value) (x:V) (hv:(vs++us)[j]? =some v) (hx:(xs++ys)[j]? =some x):ao P w I β hp v x:=by
 by_cases hj:j<vs.length
 ·rw[iT hj] at hv
  rw[iT (by omega)] at hx
  exact U j v x hv hx
 ·rw[iU (by omega)] at hv
  rw[iU (by omega)] at hx
  rw[h1] at hv
  exact h3 _ v x hv hx
theorem acF (hP:iL P A) (S:aH P w I β hp B M w0) (hg:gE P A.aF w I) {a:Act} {sl:Nat→V} (hs:lr P w I β hp a sl) {dst:Option Tmp} {ty e:TypeId} {pos:String} {after:Array Edge} {guard:Option (Nat × Bool)} {f:FuncId}
  {args:Array Operand} {argTypes:Array TypeId} {nb:Nat} {r:R} {rd:List Nat} (kM:A.oQ f=some e)
  (h:((match args.toList with
    | [x]=> .aE (cX P e) (sW e (aV P A.aF ty sl x) fun xs=> .aE (Nat.ble (xs.length*P.bytesOf e) cI) (jz nb (.arr e xs false) (.whole e nb) []))
    | _=> .fail):Rd R).run C hp=some (r,rd)):Bz P A (Oper.mk dst (.call (Go.Call.mk (.value (.func f)) args argTypes)) ty pos after guard) a w I β hp B M w0 r:=by
 cases ha:args.toList with
 | nil=>rw[ha] at h;cases h
 | cons x l=>
  rw[ha] at h
  cases l with
  | cons _ _=>cases h
  | nil=>
   simp only at h
   have e1:args= #[x]:=by rw[←Array.toArray_toList (xs:=args),ha]
   subst e1
   have hx:=hs.ev hg ty x
   obtain ⟨ay,h⟩:=aK h
   have fin: ∀{w1:World} {Gm:Nat→Option Nat},(∀id blk,hp id=some blk→ee P w1 I Gm hp (Gm id) blk)→ao P w1 I Gm hp (a.eval x) (aV P A.aF ty sl x)→∃xs,(((∃a',a.eval x= .slice a' 0 0)∧xs=[])∨∃a' c news,Row P w1 I e (a.eval x) xs a' c news)∧
     xs.length*P.bytesOf e≤cI∧hp nb=none∧r=⟨.whole e nb,[(nb,.arr e xs false)]⟩:=by
    intro w1 Gm h1 U
    obtain ⟨xs,ma,l,h⟩:=FR h1 ay U h
    obtain ⟨dZ,h⟩:=aK h
    rw[ej] at dZ
    obtain ⟨hn,rfl⟩:=nS h
    exact ⟨xs,ma,dZ,hn,rfl⟩
   obtain ⟨c1,t,hu,c2⟩:=hP.oQ f e kM
   intro next Q ye
   unfold Oper.wp
   have e2:(execOp a.eval ⟨dst,.call ⟨.value (.func f),#[x],argTypes⟩,ty,pos,after,guard⟩).run P w= .ok (.enter f #[a.eval x]) w:=by
    have fb:a.eval (.func f)= .func (.func f) #[] #[]:=rfl
    simpa[execOp,resolve,fb,Deferred.ofValue,invoke] using c1 #[a.eval x] w
   rw[e2,Oper.upon_enter]
   refine c2 _ w _ (fun BE=> ?_) (fun b n c rH=> ?_) ?_
   ·obtain ⟨xs,ma,dZ,hn,rfl⟩:=fin S.h.rel hx
    have gI:xs=[]:=by
     rcases ma with ⟨_,h⟩|⟨a,c,news,hr⟩
     ·exact h
     ·have:=hr.val.symm.trans BE
      cases this
    subst gI
    obtain ⟨a1,a2⟩:=Fv S e hn
    exact ye _ w I _ a.defers a1 a2 (.dO (c7 _ _ _) (c7 _ _ _)) fun d hd=> .inl hd
   ·obtain ⟨m1,m2⟩:=aaJ (w':=w.alloc (.cells #[] e)) S (fun b hb=>heap_alloc_old w _ b hb) (by simp) ⟨rfl,rfl⟩
    obtain ⟨xs,ma,dZ,hn,rfl⟩:=fin m2.h.rel (hx.mono m1)
    obtain ⟨v,w',β',a1,a2,a3,a4⟩:=KA (ty:=t) (a0:=some ⟨w.heap.size,0,none⟩) m2 hu ay hn dZ ma
    exact ⟨v,w',a1,ye v w' I β' a.defers (m1.trans a2) a3 a4 fun d hd=> .inl hd⟩
   ·obtain ⟨xs,ma,dZ,hn,rfl⟩:=fin S.h.rel hx
    rcases ma with ⟨⟨b,h⟩,_⟩|⟨b,c,news,hr⟩
    ·rw[h]
     cases b with
     | none=>exact .inl rfl
     | some b=>exact .inr ⟨_,_,_,rfl⟩
    ·exact .inr ⟨_,_,_,hr.val⟩
theorem acG (hP:iL P A) (S:aH P w I β hp B M w0) (hg:gE P A.aF w I) {a:Act} {sl:Nat→V} (hs:lr P w I β hp a sl) {dst:Option Tmp} {ty T0:TypeId} {pos:String} {after:Array Edge} {guard:Option (Nat × Bool)} {f:FuncId}
  {args:Array Operand} {argTypes:Array TypeId} {r:R} {rd:List Nat} (BF:A.ext f=some T0)
  (h:((match args.toList with
   | [x]=>
    match aV P A.aF ty sl x with
    | .ptr id i c=>Rd.get id fun
     | some (.var T cs)=> .aE (Nat.beq T T0&&(pO P T&&(Nat.beq cs.length (P.cellsOf T)&&(Nat.beq i 0&&Nat.beq c 0)))) (.ret ⟨.bn [],[(id,.var T (.undef::cs.tail))]⟩)
     | _=> .fail
    | _=> .fail
   | _=> .fail):Rd R).run C hp=some (r,rd)):Bz P A (Oper.mk dst (.call (Go.Call.mk (.value (.func f)) args argTypes)) ty pos after guard) a w I β hp B M w0 r:=by
 cases ha:args.toList with
 | nil=>rw[ha] at h;cases h
 | cons x l=>
  rw[ha] at h
  cases l with
  | cons _ _=>cases h
  | nil=>
   simp only at h
   have e1:args= #[x]:=by rw[←Array.toArray_toList (xs:=args),ha]
   subst e1
   have hx:=hs.ev hg ty x
   cases fw:aV P A.aF ty sl x<;>rw[fw] at h hx<;>simp only at h<;>first|(cases h;done)|skip
   rename_i id i c
   obtain ⟨l,h1⟩:=run_get h
   cases ab:hp id with
   | none=>rw[ab] at h1;cases h1
   | some blk=>
    rw[ab] at h1
    cases blk<;>simp only at h1<;>first|(cases h1;done)|skip
    rename_i T cs
    obtain ⟨U,h3⟩:=aK h1
    simp only[aO,a9] at U
    obtain ⟨rfl,bM,yf,rfl,rfl⟩:=U
    obtain rfl:=aU h3
    obtain ⟨b,hb,he⟩:=hx.hX ab (by simp)
    have hr:=S.h.rel id _ ab
    rw[hb] at hr
    cases hr with
    | @var _ b' Ca _ aB hh bd hI gI gu=>
     cases aB
     have hY:a.eval x= .pointer (some ⟨b,0,none⟩):=by rw[he];simp[an.sz]
     obtain ⟨q1,q2⟩:=hP.ext f T BF b Ca w hh (bd.trans yf) (gu bM)
     have h0:0<Ca.size:=by
      rcases gu bM with k|k<;>exact (iz.1 k).1
     have oZ:(V.undef::cs.tail).length=cs.length:=by
      cases cs with
      | nil=>rw[bd] at h0;simp at h0
      | cons _ _=>rfl
     have rel: ∀(C':Array Value),(∀j,0<j→C'[j]? =Ca[j]?)→∀(j:Nat) v y,C'[j]? =some v→(V.undef::cs.tail)[j]? =some y→ao P w I β hp v y:=by
      intro C' xP j v y hj hy
      cases j with
      | zero=>simp at hy;subst hy;exact .undef
      | succ j=>
       rw[xP _ (by omega)] at hj
       refine gI (j+1) v y hj ?_
       cases cs with
       | nil=>rw[bd] at h0;simp at h0
       | cons _ _=>simpa using hy
     have fin: ∀w' C',(∀b',b'≠b→w'.heap[b']? =w.heap[b']?)→w'.heap[b]? =some (.cells C' T (0,0))→C'.size=Ca.size→w.heap.size≤w'.heap.size→w'.os=w.os∧w'.output=w.output→
       (∀j,0<j→C'[j]? =Ca[j]?)→(C'[0]? =some (.pointer none)∨C'[0]? =some (.pointer (some ⟨b,0,none⟩)))→
       Le P w I β hp w' I β (aM hp id (some (.var T (V.undef::cs.tail))))∧aH P w' I β (aM hp id (some (.var T (V.undef::cs.tail)))) B M w0:=by
      intro w' C' k1 k2 k3 k4 k5 k6 k7
      exact Fx (w':=w') (blk':= .var T (V.undef::cs.tail)) S ab (by simp) rfl hb hI (by simp) k1 (by rw[nK k2,nK hh,k3]) k4 k5 fun hle=>
       .var rfl k2 (by rw[k3,bd,oZ]) hI (fun j v y hj hy=>(rel C' k6 j v y hj hy).mono hle) fun _=>k7
     intro next Q hn
     unfold Oper.wp
     have e2:(execOp a.eval ⟨dst,.call ⟨.value (.func f),#[x],argTypes⟩,ty,pos,after,guard⟩).run P w= .ok (.enter f #[.pointer (some ⟨b,0,none⟩)]) w:=by
      have fb:a.eval (.func f)= .func (.func f) #[] #[]:=rfl
      simpa[execOp,resolve,fb,Deferred.ofValue,invoke,hY] using q1
     rw[e2,Oper.upon_enter]
     refine q2.mono fun e w' BB=> ?_
     obtain ⟨rfl,hw⟩:=BB
     have R5:Le P w I β hp w' I β (aM hp id (some (.var T (V.undef::cs.tail))))∧aH P w' I β (aM hp id (some (.var T (V.undef::cs.tail)))) B M w0:=by
      rcases hw with rfl|rfl
      ·exact fin w' Ca (fun _ _=>rfl) hh rfl (bV _) ⟨rfl,rfl⟩ (fun _ _=>rfl) (gu bM)
      ·refine fin (w.setCell ⟨b,0,none⟩ (.pointer (some ⟨b,0,none⟩))) (Ca.setIfInBounds 0 (.pointer (some ⟨b,0,none⟩))) (fun b' bD=> ?_) ?_ (by simp) (by simp[World.setCell]) ⟨rfl,rfl⟩ (fun j hj=> ?_) (.inr ?_)
       ·simp only[World.setCell,Ao]
        rw[ah (fun e=>bD e.symm)]
       ·simp[World.setCell,Ao,hh]
       ·rw[EH (by omega)]
       ·rw[JC h0]
     exact hn (.tuple #[]) w' I β a.defers R5.1 R5.2 (.bn rfl fun j v y hj _=>by simp at hj) fun d hd=> .inl hd
theorem acH (hC:lD P A C) (hP:iL P A) (S:aH P w I β hp B M w0) (hg:gE P A.aF w I) {a:Act} {sl:Nat→V} (hs:lr P w I β hp a sl) {ix nb:Nat} {o:Oper} {r:R} {rd:List Nat}
  (h:(fI P A sl ix nb o).run C hp=some (r,rd)):Bz P A o a w I β hp B M w0 r:=by
 cases hc:K0 o.op with
 | false=>exact (acb S hg hs hc h).step
 | true=>
  obtain ⟨dst,op,ty,pos,after,guard⟩:=o
  cases op<;>simp only[K0] at hc<;>first|(cases hc;done)|skip
  case defer c=>
   obtain ⟨callee,args,argTypes⟩:=c
   cases callee with
   | invoke r m=>simp only[fI] at h;cases h
   | builtin b=>simp only[fI] at h;cases h
   | value f=>
   cases f with
   | tmp t=>
    simp only[fI] at h
    cases bM:sl t<;>rw[bM] at h<;>simp only at h<;>first|(cases h;done)|skip
    rename_i f xs ys
    obtain ⟨h1,U⟩:=aK h
    obtain rfl:=aU U
    have hv:=hs t
    rw[bM] at hv
    generalize u9:a.tmps.getD t undef=vt at hv
    cases hv with
    | @fn _ fs cs _ _ q1 q2 q3 q4=>
     intro next Q hn
     unfold Oper.wp
     have fb:a.eval (.tmp t)= .func (.func f) fs cs:=u9
     have e1:(execOp a.eval ⟨dst,.defer ⟨.value (.tmp t),args,argTypes⟩,ty,pos,after,guard⟩).run P w= .ok (.defer {target:= .fn (.func f) cs,args:=fs++args.map a.eval}) w:=by
      simp[execOp,resolve,fb,Deferred.ofValue]
     rw[e1,Oper.upon_defer]
     exact hn undef w I β _ (Le.refl w I β hp) S .undef fun d hd=>by
      rcases dx.1 hd with rfl|hd
      ·exact .inr ⟨f,cs,rfl,h1⟩
      ·exact .inl hd
   | func f=>simp only[fI] at h;cases h
   | const _=>simp only[fI] at h;cases h
   | global _=>simp only[fI] at h;cases h
  rename_i c
  obtain ⟨callee,args,argTypes⟩:=c
  cases callee with
  | invoke r m=>cases hc
  | builtin b=>cases hc
  | value f=>
   cases f with
   | func f=>
    simp only[fI] at h
    cases BF:A.ext f with
    | some T0=>
     rw[BF] at h
     simp only at h
     exact acG hP S hg hs BF h
    | none=>
    rw[BF] at h
    simp only at h
    cases kM:A.oQ f with
    | some e0=>
     rw[kM] at h
     simp only at h
     exact acF hP S hg hs kM h
    | none=>
    rw[kM] at h
    simp only at h
    obtain ⟨h1,U⟩:=aK h
    rw[a9] at h1
    obtain ⟨k1,k2⟩:=hs.args hg h1
    refine RZ hC hP S hg k1 k2 U ?_
    have e1:(args.map a.eval).toList.toArray=args.map a.eval:=Array.toArray_toList
    rw[e1]
    simp[execOp,resolve,Act.eval,Deferred.ofValue,invoke]
   | tmp t=>
    simp only[fI] at h
    cases bM:sl t<;>rw[bM] at h<;>simp only at h<;>first|(cases h;done)|skip
    rename_i f xs ys
    obtain ⟨h1,U⟩:=aK h
    rw[a9] at h1
    obtain ⟨k1,k2⟩:=hs.args hg h1
    have hv:=hs t
    rw[bM] at hv
    generalize u9:a.tmps.getD t undef=vt at hv
    cases hv with
    | @fn _ fs cs _ _ q1 q2 q3 q4=>
     have l1:fs.toList.length=xs.length:=by simpa using q1
     have l3:cs.toList.length=ys.length:=by simpa using q3
     have r1: ∀(j:Nat) v x,fs.toList[j]? =some v→xs[j]? =some x→ao P w I β hp v x:=fun j v x hj hx=>q2 j v x (by simpa using hj) hx
     have r3: ∀(j:Nat) v x,cs.toList[j]? =some v→ys[j]? =some x→ao P w I β hp v x:=fun j v x hj hx=>q4 j v x (by simpa using hj) hx
     refine RZ hC hP S hg (vals:=fs.toList++(args.map a.eval).toList++cs.toList) (args:=xs++((args.toList.zip argTypes.toList).map fun p=>aV P A.aF p.2 sl p.1)++ys) (by simp only[cB];omega) ?_ U ?_
     ·exact R4 (by simp only[cB];omega) (R4 l1 r1 k2) r3
     ·have e1:(fs.toList++(args.map a.eval).toList++cs.toList).toArray=fs++args.map a.eval++cs:=by
       apply Array.toList_inj.1;simp
      rw[e1]
      have fb:a.eval (.tmp t)= .func (.func f) fs cs:=u9
      simp[execOp,resolve,fb,Deferred.ofValue,invoke]
   | _=>cases hc
end
section
variable {P:Program} {A:cK} {w w':World} {I I' I2:Nat→Prop} {μ β β':Nat→Option Nat} {hp hp':Nat→Option an} {C:ae} {B:Nat} {M:Nat→Prop} {w0:Start}
structure jm (P:Program) (E:FuncId→Bool) (G:Nat→V) (w:World) (I:Nat→Prop) (β:Nat→Option Nat) (n:Nat) (a:Act) (st:St):Prop where
 sl:lr P w I β st.hp a st.sl
 size:a.tmps.size=n
 defers: ∀d∈a.defers,By E d
 aF:gE P G w I
theorem Lm {E:FuncId→Bool} {G:Nat→V} {n:Nat} {a:Act} {st:St} {o:Oper} {v:Value} {x:V} {hp':Nat→Option an} {ds:List Deferred} (h:jm P E G w I β n a st) (hle:Le P w I β st.hp w' I' β' hp') (hd:s0 o n=true)
  (hv:ao P w' I' β' hp' v x) (lN: ∀d∈ds,d∈a.defers∨By E d):jm P E G w' I' β' n ({a with defers:=ds}.put o.dst v) ⟨iC st.sl o.dst x,hp',st.nb⟩:=by
 have R6: ∀d∈ds,By E d:=fun d hd=>(lN d hd).elim (h.defers d) id
 cases acI:o.dst with
 | none=>exact ⟨fun k=>(h.sl k).mono hle,h.size,R6,h.aF.mono hle.dq hle.cm⟩
 | some d=>
  have aQ:d<a.tmps.size:=by
   unfold s0 at hd
   rw[acI] at hd
   rw[h.size]
   simpa using hd
  refine ⟨fun k=> ?_,by simp[Act.put,h.size],R6,h.aF.mono hle.dq hle.cm⟩
  simp only[Act.put,iC,aM]
  cases hb:Nat.beq k d with
  | true=>
   rw[a9] at hb
   subst hb
   simpa[aQ] using hv
  | false=>
   have bD:d≠k:=fun e=>by rw[e,jQ] at hb;cases hb
   have:=(h.sl k).mono hle
   simpa[EH bD] using this
theorem R7 {E:FuncId→Bool} {G:Nat→V} {n:Nat} {a:Act} {st:St} {d:Nat} {b:Bool} (h:jm P E G w I β n a st) (hd:st.sl d= .bool b):a.tmps[d]? =some (.bool b):=by
 have:=h.sl d
 rw[hd] at this
 have:=this.kH
 cases ht:a.tmps[d]? with
 | none=>simp[ht] at this;cases this
 | some v=>simp[ht] at this;rw[this]
theorem acJ {x:V} {b:Bool} (h:lR x=some (some b)):x= .bool b:=by
 cases x with
 | bool c=>simp only[lR] at h;injection h with h;injection h with h;rw[h]
 | bn vs=>cases vs<;>simp[lR] at h
 | _=>simp[lR] at h
theorem acK {x:V} (h:lR x=some none):x= .bn []:=by
 cases x with
 | bn vs=>cases vs with
  | nil=>rfl
  | cons _ _=>simp[lR] at h
 | bool c=>simp[lR] at h
 | _=>simp[lR] at h
theorem ao.acL {v:Value} (h:ao P w I β hp v (.bn [])):v= .tuple #[]:=by
 cases h with
 | @bn cs _ hs _=>
  have:cs= #[]:=by
   apply Array.eq_empty_of_size_eq_zero
   simpa using hs
  rw[this]
theorem ao.R8:ao P w I β hp Go.undef (.bn []):= .bn (by rfl) (fun j v x _ hx=>by simp at hx)
theorem R9 (hC:lD P A C) (hP:iL P A) {ops:Array Oper} {n i nb:Nat} {o:Oper} (ho:ops[i]? =some o) {a:Act} {st st':St} {R W:List Nat} (S:aH P w I β st.hp B M w0) (hA:jm P A.idle A.aF w I β n a st)
  (h:gY P A C n ops i o nb st=some (st',R,W)) {K:Act→World→Prop} {Q:Exit→Act→World→Prop}
  (hK: ∀a' w' I' β',Le P w I β st.hp w' I' β' st'.hp→aH P w' I' β' st'.hp B M w0→jm P A.idle A.aF w' I' β' n a' st'→K a' w'):wpOp P ops Q i K a w:=by
 unfold gY at h
 cases hd:s0 o n with
 | false=>rw[hd] at h;cases h
 | true=>
  rw[hd] at h
  simp only[cond_true] at h
  have go: ∀{Ln:St} {R W:List Nat},(((fI P A st.sl i (nb+64*i) o).run C st.hp).bind fun r=>some ((⟨iC st.sl o.dst r.1.v,bP st.hp r.1.upd,st.nb⟩:St),rn r.2 r.1.upd,fY st.hp r.1.upd))=some (Ln,R,W)→Ln=st'→
    o.wp P a w K Q:=by
   intro Ln R W h e
   obtain ⟨⟨r,rd⟩,h1,U⟩:=bind_some h
   cases U
   subst e
   exact acH hC hP S hA.aF hA.sl h1 K Q fun v w' I' β' ds k1 k2 k3 k4=>hK _ w' I' β' k1 k2 (Lm hA k1 hd k3 k4)
  unfold wpOp
  rw[ho]
  simp only
  cases hg:o.guard with
  | none=>
   rw[hg] at h
   simp only[Region.wanted,hg,cU]
   exact .inl (go h rfl)
  | some gw=>
   obtain ⟨g,want⟩:=gw
   rw[hg] at h
   simp only at h
   cases me:(ops[g]?).bind (·.dst) with
   | none=>rw[me] at h;cases h
   | some d=>
    rw[me] at h
    simp only at h
    cases mU:lR (st.sl d) with
    | none=>rw[mU] at h;cases h
    | some ob=>
    rw[mU] at h
    cases ob with
    | none=>
     have rH:=acK mU
     have hy:yielded ops a.tmps g=none:=by
      unfold yielded
      rw[me]
      have:=hA.sl d
      rw[rH] at this
      have hu:=ao.acL this
      simp only[Option.bind_some]
      cases ht:a.tmps[d]? with
      | none=>rfl
      | some v=>simp[ht] at hu;subst hu;rfl
     simp only[Region.wanted,hg,hy]
     injection h with h
     injection h with h3 h4
     subst h3
     have U:((none:Option Bool)==some want)=false:=rfl
     simp only[U,Bool.false_eq_true,fS]
     exact hK _ w I β (Le.refl w I β st.hp) S (Lm (ds:=a.defers) hA (Le.refl w I β st.hp) hd ao.R8 fun d h=> .inl h)
    | some b=>
    simp only at h
    have rH:=acJ mU
    have hy:yielded ops a.tmps g=some b:=by
     unfold yielded
     rw[me]
     simp only[Option.bind_some,R7 hA rH]
    simp only[Region.wanted,hg,hy]
    by_cases hb:b=want
    ·subst hb
     simp only[beq_self_eq_true,cond_true] at h
     simp only[beq_self_eq_true,cU]
     exact .inl (go h rfl)
    ·have h1:(b==want)=false:=by simp[hb]
     have U:(some b==some want)=false:=by simp[hb]
     rw[h1] at h
     simp only[cond_false] at h
     injection h with h
     injection h with h3 h4
     subst h3
     simp only[U,Bool.false_eq_true,fS]
     exact hK _ w I β (Le.refl w I β st.hp) S (Lm (ds:=a.defers) hA (Le.refl w I β st.hp) hd ao.R8 fun d h=> .inl h)
def vi (hp hp':Nat→Option an) (c:Nat):Prop:=hp' c=hp c∧(KB≤c→gp (hp' (c-KB))=gp (hp (c-KB)))
theorem vi.symm {c:Nat} (h:vi hp hp' c):vi hp' hp c:=⟨h.1.symm,fun hc=>(h.2 hc).symm⟩
theorem tp {α:Type}: ∀{p:Rd α} {r:α} {rd:List Nat},p.run C hp=some (r,rd)→(∀id∈rd,vi hp hp' id)→p.run C hp'=some (r,rd)
 | .ret a,r,rd,h,_=>h
 | .fail,r,rd,h,_=>by cases h
 | .get id k,r,rd,h,he=>by
  obtain ⟨x,h1,U⟩:=bind_some h
  cases U
  have e1:hp' id=hp id:=(he id (by simp)).1
  have:=tp (p:=k (hp id)) (r:=x.1) (rd:=x.2) h1 (fun i hi=>he i (by simp[hi]))
  simp only[Rd.run,e1,this,Option.bind_some]
 | .live id ok k,r,rd,h,he=>by
  simp only[Rd.run] at h⊢
  cases hk:ok (gp (hp id)) with
  | false=>rw[hk] at h;cases h
  | true=>
   rw[hk] at h
   obtain ⟨x,h1,U⟩:=bind_some h
   cases U
   have e1:gp (hp' id)=gp (hp id):=by
    have:=(he (id+KB) (by simp)).2 (Nat.le_add_left _ _)
    rwa [xc] at this
   have:=tp (p:=k) (r:=x.1) (rd:=x.2) h1 (fun i hi=>he i (by simp[hi]))
   rw[e1,hk,this]
   rfl
 | .opt o k,r,rd,h,he=>by
  obtain ⟨x,h1,U⟩:=bind_some h
  simp only[Rd.run,h1,Option.bind_some]
  exact tp U he
 | .aE b k,r,rd,h,he=>by
  obtain ⟨h1,U⟩:=aK h
  simp only[Rd.run,h1,cond_true]
  exact tp U he
 | .call key ds k,r,rd,h,he=>by
  obtain ⟨x,h1,U⟩:=bind_some h
  simp only[Rd.run,h1,Option.bind_some]
  exact tp U he
 | .alt true x y,r,rd,h,he=>tp (p:=x) h he
 | .alt false x y,r,rd,h,he=>tp (p:=y) h he
theorem acM {G:Nat→V} {sl sl':Nat→V} {t:TypeId} {x:Operand} (h: ∀k,x= .tmp k→sl k=sl' k):aV P G t sl x=aV P G t sl' x:=by
 cases x with
 | tmp k=>exact h k rfl
 | _=>rfl
theorem acN {sl sl':Nat→V} {ix nb:Nat} {o:Oper} (h: ∀x∈o.op.operands,∀k,x= .tmp k→sl k=sl' k):fI P A sl ix nb o=fI P A sl' ix nb o:=by
 have fb: ∀t x,x∈o.op.operands→aV P A.aF t sl x=aV P A.aF t sl' x:=fun t x hx=>acM (h x hx)
 obtain ⟨dst,op,ty,pos,after,guard⟩:=o
 have Sa: ∀(t:TypeId) (ps:Array (Nat × Operand)),(∀x∈ps.map (·.2),aV P A.aF t sl x=aV P A.aF t sl' x)→
   (ps.toList.map fun p=>(p.1,aV P A.aF t sl p.2))=ps.toList.map fun p=>(p.1,aV P A.aF t sl' p.2):=fun t ps hp=>
  nA fun p hm=>by rw[hp p.2 (Array.mem_map.2 ⟨p,pK.1 hm,rfl⟩)]
 have acO: ∀(t:TypeId) (ps:Array (Nat × Operand)),(∀x∈ps.map (·.2),aV P A.aF t sl x=aV P A.aF t sl' x)→
   (ps.toList.map fun p=>(aV P A.aF t sl p.2).cells)=ps.toList.map fun p=>(aV P A.aF t sl' p.2).cells:=fun t ps hp=>
  nA fun p hm=>by rw[hp p.2 (Array.mem_map.2 ⟨p,pK.1 hm,rfl⟩)]
 cases op<;>simp only[Op.operands] at fb<;>simp only[fI]
 case pick c x y=>rw[fb ty c (by simp),fb ty x (by simp),fb ty y (by simp)]
 case build t ps=>rw[Sa ty ps fun x hx=>fb ty x (by simpa using hx),acO ty ps fun x hx=>fb ty x (by simpa using hx)]
 case buildSlice t len ps=>
  split
  ·rename_i e _
   rw[Sa e ps fun x hx=>fb e x (by simpa using hx)]
  ·rfl
 case slice t x lo hi mx=>
  cases mx with
  | some m=>
   have e1:lo.map (aV P A.aF 0 sl)=lo.map (aV P A.aF 0 sl'):=by
    cases lo with
    | none=>rfl
    | some l=>simp only[Option.map_some,fb 0 l (by simp)]
   have e2:hi.map (aV P A.aF 0 sl)=hi.map (aV P A.aF 0 sl'):=by
    cases hi with
    | none=>rfl
    | some l=>simp only[Option.map_some,fb 0 l (by simp)]
   have e3:=fb 0 m (by simp)
   simp only[fb ty x (by simp),e1,e2,e3]
  | none=>
   have e1:lo.map (aV P A.aF 0 sl)=lo.map (aV P A.aF 0 sl'):=by
    cases lo with
    | none=>rfl
    | some l=>simp only[Option.map_some,fb 0 l (by simp)]
   have e2:hi.map (aV P A.aF 0 sl)=hi.map (aV P A.aF 0 sl'):=by
    cases hi with
    | none=>rfl
    | some l=>simp only[Option.map_some,fb 0 l (by simp)]
   simp only[fb ty x (by simp),e1,e2]
 case call c=>
  obtain ⟨callee,args,argTypes⟩:=c
  have vj: ∀t x,x∈args→aV P A.aF t sl x=aV P A.aF t sl' x:=fun t x hx=>fb t x (by simp[Call.operands,hx])
  have hl: ∀t (l:List Operand),(∀x∈l,x∈args)→l.map (aV P A.aF t sl)=l.map (aV P A.aF t sl'):=fun t l hl=>nA fun x hx=>vj t x (hl x hx)
  have hz:((args.toList.zip argTypes.toList).map fun p=>aV P A.aF p.2 sl p.1)=(args.toList.zip argTypes.toList).map fun p=>aV P A.aF p.2 sl' p.1:=
   nA fun p hp=>vj p.2 p.1 (pK.1 (List.of_mem_zip hp).1)
  cases callee with
  | invoke r m=>rfl
  | builtin b=>
   have cq: ∀x∈args.toList,∀t,aV P A.aF t sl x=aV P A.aF t sl' x:=fun x hx t=>vj t x (pK.1 hx)
   have Lo: ∀t (l:List Operand),(∀x∈l,∀t,aV P A.aF t sl x=aV P A.aF t sl' x)→l.map (aV P A.aF t sl)=l.map (aV P A.aF t sl'):=fun t l h=>nA fun x hx=>h x hx t
   cases b<;>first|rfl|skip
   case append=>
    dsimp only
    generalize args.toList=al at cq
    match al,cq,argTypes.toList with
    | [s,x],cq,[t,u]=>simp only[cq s (by simp),cq x (by simp)]
    | [],_,_=>rfl
    | [_],_,_=>rfl
    | _::_::_::_,_,_=>rfl
    | [_,_],_,[]=>rfl
    | [_,_],_,[_]=>rfl
    | [_,_],_,_::_::_::_=>rfl
   case copy=>
    dsimp only
    generalize args.toList=al at cq
    match al,cq,argTypes.toList with
    | [s,x],cq,[t,u]=>simp only[cq s (by simp),cq x (by simp)]
    | [],_,_=>rfl
    | [_],_,_=>rfl
    | _::_::_::_,_,_=>rfl
    | [_,_],_,[]=>rfl
    | [_,_],_,[_]=>rfl
    | [_,_],_,_::_::_::_=>rfl
   case len=>
    dsimp only
    generalize args.toList=al at cq
    match al,cq,argTypes.toList with
    | [x],cq,[t]=>simp only[cq x (by simp)]
    | [],_,_=>rfl
    | _::_::_,_,_=>rfl
    | [_],_,[]=>rfl
    | [_],_,_::_::_=>rfl
   case clear=>
    dsimp only
    generalize args.toList=al at cq
    match al,cq,argTypes.toList with
    | [x],cq,[t]=>simp only[cq x (by simp)]
    | [],_,_=>rfl
    | _::_::_,_,_=>rfl
    | [_],_,[]=>rfl
    | [_],_,_::_::_=>rfl
   case unsafeSliceData=>
    dsimp only
    generalize args.toList=al at cq
    match al,cq with
    | [],_=>rfl
    | [x],cq=>simp only[cq x (by simp)]
    | _::_::_,_=>rfl
   case unsafeString=>
    dsimp only
    generalize args.toList=al at cq
    match al,cq,argTypes.toList with
    | [s,x],cq,[t,u]=>simp only[cq s (by simp),cq x (by simp)]
    | [],_,_=>rfl
    | [_],_,_=>rfl
    | _::_::_::_,_,_=>rfl
    | [_,_],_,[]=>rfl
    | [_,_],_,[_]=>rfl
    | [_,_],_,_::_::_::_=>rfl
   case max=>
    dsimp only
    generalize args.toList=al at cq
    match al,cq with
    | [],_=>rfl
    | x::l,cq=>simp only[cq x (by simp),Lo ty l (fun y hy=>cq y (by simp[hy]))]
   case min=>
    dsimp only
    generalize args.toList=al at cq
    match al,cq with
    | [],_=>rfl
    | x::l,cq=>simp only[cq x (by simp),Lo ty l (fun y hy=>cq y (by simp[hy]))]
  | value f=>
   cases f<;>first|rfl|skip
   ·rename_i t
    have ht:sl t=sl' t:=h (.tmp t) (by simp[Op.operands,Call.operands]) t rfl
    simp only[hz,ht]
   ·simp only[hz]
    cases hx:args.toList with
    | nil=>rfl
    | cons x l=>
     cases l with
     | cons _ _=>rfl
     | nil=>simp only[vj ty x (pK.1 (by rw[hx];simp))]
 case defer c=>
  obtain ⟨callee,args,argTypes⟩:=c
  cases callee with
  | invoke r m=>rfl
  | builtin b=>rfl
  | value f=>
   cases f<;>first|rfl|skip
   rename_i t
   have ht:sl t=sl' t:=h (.tmp t) (by simp[Op.operands,Call.operands]) t rfl
   simp only[ht]
 case makeFunc fn a b=>
  cases fn<;>first|rfl|skip
  have e1:a.toList.map (aV P A.aF ty sl)=a.toList.map (aV P A.aF ty sl'):=nA fun x hx=>fb ty x (by simp[pK.1 hx])
  have e2:b.toList.map (aV P A.aF ty sl)=b.toList.map (aV P A.aF ty sl'):=nA fun x hx=>fb ty x (by simp[pK.1 hx])
  dsimp only
  rw[e1,e2]
 case makeMap t r=>cases r<;>rfl
 all_goals first
  | rfl
  | (simp[fb];done)
end
section
variable {P:Program} {A:cK} {w w':World} {I I' I2:Nat→Prop} {μ β β':Nat→Option Nat} {hp hp':Nat→Option an} {C:ae} {B:Nat} {M:Nat→Prop} {w0:Start}
theorem Lp {q:Nat × an} {upd:List (Nat × an)} (h:q∈upd):q.1∈fY hp upd:=by
 unfold fY
 rw[List.mem_flatMap]
 refine ⟨q,h,?_⟩
 cases Nat.beq (gp (hp q.1)) (gp (some q.2))<;>simp
theorem acP {upd:List (Nat × an)} (h: ∀q∈upd,gp (hp' q.1)=gp (hp q.1)):fY hp' upd=fY hp upd:=by
 unfold fY
 induction upd with
 | nil=>rfl
 | cons q l ih=>
  rw[mE,mE,ih fun x hx=>h x (lP _ hx),h q (by simp)]
theorem Sb {c:Nat}: ∀{upd:List (Nat × an)},c∉fY hp upd→vi hp (bP hp upd) c:=fun {upd} h=>by
 refine ⟨yc fun q hq e=>h (e▸Lp hq),fun hc=> ?_⟩
 induction upd with
 | nil=>rfl
 | cons q l ih=>
  have hl:c∉fY hp l:=fun hx=>h (by unfold fY at*;rw[mE];exact List.mem_append_right _ hx)
  have hq:gp (hp q.1)=gp (some q.2)∨c≠q.1+KB:=by
   cases hb:Nat.beq (gp (hp q.1)) (gp (some q.2)) with
   | true=>exact .inl (Ah hb)
   | false=>
    refine .inr fun e=>h ?_
    unfold fY
    rw[mE,hb,e]
    simp
  show gp (aM (bP hp l) q.1 (some q.2) (c-KB))=_
  simp only[aM]
  cases hb:Nat.beq (c-KB) q.1 with
  | false=>exact ih hl
  | true=>
   have e:=Ah hb
   rcases hq with hq|hq
   ·rw[cond_true,e];exact hq.symm
   ·exact absurd (by omega) hq
theorem Sd {n i nb:Nat} {ops:Array Oper} {o:Oper} {st st':St} {R W:List Nat} (h:gY P A C n ops i o nb st=some (st',R,W)):
  ∃x upd,st'=⟨iC st.sl o.dst x,bP st.hp upd,st.nb⟩∧W=fY st.hp upd∧∀eh:St,(∀d∈o.looksAt ops,eh.sl d=st.sl d)→(∀id∈R,vi st.hp eh.hp id)→
   gY P A C n ops i o nb eh=some (⟨iC eh.sl o.dst x,bP eh.hp upd,eh.nb⟩,R,W)∧W=fY eh.hp upd:=by
 unfold gY at h
 cases hd:s0 o n with
 | false=>rw[hd] at h;cases h
 | true=>
  rw[hd] at h
  simp only[cond_true] at h
  have go:(((fI P A st.sl i (nb+64*i) o).run C st.hp).bind fun r=>some ((⟨iC st.sl o.dst r.1.v,bP st.hp r.1.upd,st.nb⟩:St),rn r.2 r.1.upd,fY st.hp r.1.upd))=some (st',R,W)→
    ∃x upd,st'=⟨iC st.sl o.dst x,bP st.hp upd,st.nb⟩∧W=fY st.hp upd∧∀eh:St,(∀d∈o.looksAt ops,eh.sl d=st.sl d)→(∀id∈R,vi st.hp eh.hp id)→
     (((fI P A eh.sl i (nb+64*i) o).run C eh.hp).bind fun r=>some ((⟨iC eh.sl o.dst r.1.v,bP eh.hp r.1.upd,eh.nb⟩:St),rn r.2 r.1.upd,fY eh.hp r.1.upd))=some (⟨iC eh.sl o.dst x,bP eh.hp upd,eh.nb⟩,R,W)∧W=fY eh.hp upd:=by
   intro h
   obtain ⟨⟨r,rd⟩,h1,U⟩:=bind_some h
   cases U
   refine ⟨r.v,r.upd,rfl,rfl,fun eh hs hh=> ?_⟩
   have hw:fY eh.hp r.upd=fY st.hp r.upd:=acP fun q hq=>by
    have:=(hh (q.1+KB) (List.mem_append_right _ (ey.2 ⟨q,hq,rfl⟩))).2 (Nat.le_add_left _ _)
    rwa [xc] at this
   rw[acN (sl':=st.sl) fun x hx k hk=> ?_,tp h1 fun c hc=>hh c (List.mem_append_left _ hc)]
   ·refine ⟨?_,hw.symm⟩
    rw[Option.bind_some,hw]
   ·subst hk
    exact hs k (List.mem_append_left _ (List.mem_filterMap.2 ⟨.tmp k,by simpa using hx,rfl⟩))
  cases hg:o.guard with
  | none=>
   rw[hg] at h
   obtain ⟨x,upd,e1,e2,e3⟩:=go h
   refine ⟨x,upd,e1,e2,fun eh hs hh=> ?_⟩
   unfold gY
   simp only[hd,cond_true,hg]
   exact e3 eh hs hh
  | some gw=>
   obtain ⟨g,want⟩:=gw
   rw[hg] at h
   simp only at h
   cases me:(ops[g]?).bind (·.dst) with
   | none=>rw[me] at h;cases h
   | some d=>
    rw[me] at h
    simp only at h
    have Lq:d∈o.looksAt ops:=List.mem_append_right _ (by rw[hg];simp[me])
    cases mU:lR (st.sl d) with
    | none=>rw[mU] at h;cases h
    | some ob=>
    rw[mU] at h
    cases ob with
    | none=>
     injection h with h
     injection h with h3 h4
     injection h4 with h5 h6
     subst h5;subst h6
     refine ⟨.bn [],[],h3.symm,rfl,fun eh hs hh=> ?_⟩
     unfold gY
     simp only[hd,cond_true,hg,me,hs d Lq,mU]
     exact ⟨rfl,rfl⟩
    | some b=>
    simp only at h
    cases hb:b==want with
    | true=>
     rw[hb] at h
     obtain ⟨x,upd,e1,e2,e3⟩:=go h
     refine ⟨x,upd,e1,e2,fun eh hs hh=> ?_⟩
     unfold gY
     simp only[hd,cond_true,hg,me,hs d Lq,mU,hb]
     exact e3 eh hs hh
    | false=>
     rw[hb] at h
     simp only[cond_false] at h
     injection h with h
     injection h with h3 h4
     injection h4 with h5 h6
     subst h5;subst h6
     refine ⟨.bn [],[],h3.symm,rfl,fun eh hs hh=> ?_⟩
     unfold gY
     simp only[hd,cond_true,hg,me,hs d Lq,mU,hb,cond_false]
     exact ⟨rfl,rfl⟩
theorem Se {sl:Nat→V} {d:Option Nat} {x:V} {k:Nat} (h:d≠some k):iC sl d x k=sl k:=by
 cases d with
 | none=>rfl
 | some d=>exact er _ _ fun e=>h (by rw[e])
theorem acQ {hp:Nat→Option an} {a b:List (Nat × an)} (h: ∀q∈a,∀q'∈b,q.1≠q'.1):bP (bP hp a) b=bP (bP hp b) a:=by
 funext id
 by_cases ha: ∃q∈a,q.1=id
 ·have hb: ∀q∈b,q.1≠id:=by
   obtain ⟨q,hq,rfl⟩:=ha
   exact fun q' BC e=>h q hq q' BC e.symm
  rw[yc hb]
  obtain ⟨q,hq,rfl⟩:=ha
  have same: ∀(bx g9:Nat→Option an) (l:List (Nat × an)) (q:Nat × an),q∈l→bP bx l q.1=bP g9 l q.1:=by
   intro bx g9 l
   induction l with
   | nil=>intro q hq;simp at hq
   | cons p l ih=>
    intro q hq
    simp only[bP,aM]
    cases hb:Nat.beq q.1 p.1 with
    | true=>rfl
    | false=>
     simp only[cond_false]
     refine ih q ((dx.1 hq).resolve_left fun e=> ?_)
     rw[e,jQ] at hb;cases hb
  exact same _ _ a q hq
 ·rw[yc (hp:=bP hp b) (l:=a) fun q hq e=>ha ⟨q,hq,e⟩]
  have same: ∀(bx g9:Nat→Option an) (l:List (Nat × an)),bx id=g9 id→bP bx l id=bP g9 l id:=by
   intro bx g9 l he
   induction l with
   | nil=>exact he
   | cons p l ih=>
    simp only[bP,aM]
    cases hb:Nat.beq id p.1 with
    | true=>rfl
    | false=>exact ih
  exact same _ _ b (yc fun q hq e=>ha ⟨q,hq,e⟩)
structure Sf (ops:Array Oper) (o1 o2:Oper) (R1 W1 R2 W2:List Nat):Prop where
 apart:Oper.apart ops o1 o2=true
 w: ∀id∈W1,id∉R2∧id∉W2
 r: ∀id∈R1,id∉W2
theorem acR {n i j nb:Nat} {ops:Array Oper} {o1 o2:Oper} {st jn eh:St} {R1 W1 R2 W2:List Nat} (h1:gY P A C n ops i o1 nb st=some (jn,R1,W1)) (U:gY P A C n ops j o2 nb jn=some (eh,R2,W2))
  (hi:Sf ops o1 o2 R1 W1 R2 W2): ∃Gn,gY P A C n ops j o2 nb st=some (Gn,R2,W2)∧gY P A C n ops i o1 nb Gn=some (eh,R1,W1):=by
 obtain ⟨x1,u1,e1,f1,g1⟩:=Sd h1
 obtain ⟨x2,u2,e2,f2,g2⟩:=Sd U
 obtain ⟨a1,a2,a3⟩:=Oper.apart_spec hi.apart
 subst e1
 have k2:=g2 st (fun d hd=>by simp only;rw[Se fun e=>a1 d e hd]) fun c hc=>(Sb fun hw=>(hi.w c (by rw[f1];exact hw)).1 hc).symm
 refine ⟨_,k2.1,?_⟩
 rw[(g1 _ (fun d hd=> ?_) (fun c hd=> ?_)).1,e2]
 ·congr 3
  ·funext k
   cases Gp:o1.dst with
   | none=>rfl
   | some d1=>
    cases je:o2.dst with
    | none=>rfl
    | some d2=>
     have bD:d2≠d1:=fun e=>a2 d1 Gp (by rw[je,e])
     simp only[iC,aM]
     cases yg:Nat.beq k d1<;>cases fy:Nat.beq k d2<;>simp only[cond_true,cond_false]
     rw[a9] at yg fy
     exact absurd (fy.symm.trans yg) bD
  ·exact (acQ fun q hq q' BC e=>(hi.w q.1 (by rw[f1];exact Lp hq)).2 (by rw[f2,e];exact Lp BC)).symm
 ·simp only
  rw[Se fun e=>a3 d e hd]
 ·exact Sb fun hw=>hi.r c hd (by rw[k2.2];exact hw)
def yh (P:Program) (A:cK) (C:ae) (n:Nat) (ops:Array Oper) (nb:Nat):List (Nat × Oper × List Nat × List Nat)→St→St→Prop
 | [],st,st'=>st=st'
 | (i,o,R,W)::l,st,st'=> ∃jn,gY P A C n ops i o nb st=some (jn,R,W)∧yh P A C n ops nb l jn st'
def vk (x:Nat × Oper × List Nat × List Nat):Nat × List Nat × List Nat:=(x.1,x.2.2.1,x.2.2.2)
theorem Sg {n nb:Nat} {ops:Array Oper}: ∀{l:List (Nat × Oper)} {st st':St} {log Gq:Log},pT P A C n ops nb l st log=some (st',Gq)→
  ∃g,g.map (fun x=>(x.1,x.2.1))=l∧Gq=log++g.map vk∧yh P A C n ops nb g st st'
 | [],st,st',log,Gq,h=>by
  cases h
  exact ⟨[],rfl,by simp,rfl⟩
 | (i,o)::l,st,st',log,Gq,h=>by
  obtain ⟨⟨jn,R,W⟩,h1,U⟩:=bind_some h
  obtain ⟨g,a,b,c⟩:=Sg U
  exact ⟨(i,o,R,W)::g,by simp[a],by simp[b,vk],jn,h1,c⟩
def Sh (ops:Array Oper) (x y:Nat × Oper × List Nat × List Nat):Prop:=Sf ops x.2.1 y.2.1 x.2.2.1 x.2.2.2 y.2.2.1 y.2.2.2
theorem Si {n nb:Nat} {ops:Array Oper} {y:Nat × Oper × List Nat × List Nat} {g2:List (Nat × Oper × List Nat × List Nat)}: ∀{g1:List (Nat × Oper × List Nat × List Nat)} {st st':St},
  yh P A C n ops nb (g1++y::g2) st st'→(∀x∈g1,Sh ops x y)→∃jn,gY P A C n ops y.1 y.2.1 nb st=some (jn,y.2.2.1,y.2.2.2)∧yh P A C n ops nb (g1++g2) jn st'
 | [],st,st',h,_=>h
 | x::g1,st,st',h,hi=>by
  obtain ⟨jn,h1,U⟩:=h
  obtain ⟨eh,h3,h4⟩:=Si U fun z hz=>hi z (lP _ hz)
  obtain ⟨Gn,h5,h6⟩:=acR h1 h3 (hi x (by simp))
  exact ⟨Gn,h5,eh,h6,h4⟩
theorem Sj (hC:lD P A C) (hP:iL P A) {n nb:Nat} {ops:Array Oper} {Q:Exit→Act→World→Prop}: ∀{g:List (Nat × Oper × List Nat × List Nat)} {st st':St} {a:Act} {w:World} {I:Nat→Prop} {β:Nat→Option Nat},
  yh P A C n ops nb g st st'→(∀x∈g,ops[x.1]? =some x.2.1)→aH P w I β st.hp B M w0→jm P A.idle A.aF w I β n a st→
  (∀a' w' I' β',Le P w I β st.hp w' I' β' st'.hp→aH P w' I' β' st'.hp B M w0→jm P A.idle A.aF w' I' β' n a' st'→Q .normal a' w')→wpOps P ops Q (g.map (·.1)) a w
 | [],st,st',a,w,I,β,h,_,S,hA,hQ=>by
  cases h
  exact hQ a w I β (Le.refl w I β _) S hA
 | x::g,st,st',a,w,I,β,h,ho,S,hA,hQ=>by
  obtain ⟨jn,h1,U⟩:=h
  rw[cr,wpOps_cons]
  refine R9 hC hP (ho x (by simp)) S hA h1 fun a' w' I' β' k1 k2 k3=> ?_
  exact Sj hC hP U (fun y hy=>ho y (lP _ hy)) k2 k3 fun a2 w2 I2 cd m1 m2 m3=>hQ a2 w2 I2 cd (k1.trans m1) m2 m3
end
section
variable {P:Program} {A:cK} {w w':World} {I I' I2:Nat→Prop} {μ β β':Nat→Option Nat} {hp hp':Nat→Option an} {C:ae} {B:Nat} {M:Nat→Prop} {w0:Start}
inductive vl (ops:Array Oper):Nat→Nat→Prop
 | Sk {i x:Nat} {o:Oper} {e:Edge}:ops[i]? =some o→e∈o.after→Region.binds .any e=true→e.on=x→vl ops i x
 | trans {i x:Nat} {o:Oper} {e:Edge}:ops[i]? =some o→e∈o.after→Region.binds .any e=true→vl ops e.on x→vl ops i x
theorem Sl {acc:Array Nat} {x:Nat}: ∀{l:List Edge} {s:Nat},(l.foldl (fun s e=>if Region.binds .any e then s|||2^e.on|||acc.getD e.on 0 else s) s).testBit x=true→
  s.testBit x=true∨∃e∈l,Region.binds .any e=true∧(e.on=x∨(acc.getD e.on 0).testBit x=true)
 | [],s,h=> .inl h
 | e::l,s,h=>by
  simp only[List.foldl_cons] at h
  rcases Sl h with h1|⟨e',a,b⟩
  ·by_cases hb:Region.binds .any e=true
   ·rw[ag hb,sO,sO,Aq,Aq] at h1
    rcases h1 with (h1|h1)|h1
    ·exact .inl h1
    ·rw[Ar] at h1
     exact .inr ⟨e,by simp,hb,.inl (by simpa using h1)⟩
    ·exact .inr ⟨e,by simp,hb,.inr h1⟩
   ·rw[ah hb] at h1
    exact .inl h1
  ·exact .inr ⟨e',lP _ a,b⟩
theorem Sm {ops:Array Oper} {x:Nat}: ∀{l:List Oper} {acc:Array Nat},(∀j o,l[j]? =some o→ops[acc.size+j]? =some o)→(∀j,(acc.getD j 0).testBit x=true→vl ops j x)→
  ∀j,((l.foldl (fun acc o=>acc.push (o.after.foldl (fun s e=>if Region.binds .any e then s|||2^e.on|||acc.getD e.on 0 else s) 0)) acc).getD j 0).testBit x=true→vl ops j x
 | [],acc,_,Gr,j,h=>Gr j h
 | o::l,acc,hl,Gr,j,h=>by
  simp only[List.foldl_cons] at h
  refine Sm (l:=l) ?_ ?_ j h
  ·intro j o' hj
   have:=hl (j+1) o' (by simpa using hj)
   rw[Array.size_push]
   rwa [show acc.size+1+j=acc.size+(j+1) by omega]
  ·intro k hk
   simp only[xd,Array.getElem?_push] at hk
   by_cases br:k=acc.size
   ·rw[ag br] at hk
    simp only[Option.getD_some] at hk
    rw[←EI] at hk
    have ho:=hl 0 o rfl
    rw[Nat.add_zero] at ho
    rw[br]
    have fy:(o.after.toList.foldl (fun s e=>if Region.binds .any e then s|||2^e.on|||acc.getD e.on 0 else s) 0).testBit x=true:=by simpa[xd] using hk
    rcases Sl fy with h0|⟨e,he,hb,h1⟩
    ·simp at h0
    ·rcases h1 with h1|h1
     ·exact .Sk ho (pK.1 he) hb h1
     ·exact .trans ho (pK.1 he) hb (Gr _ h1)
   ·rw[ah br] at hk
    exact Gr k (by simpa[xd] using hk)
theorem acS {ops:Array Oper} {i x:Nat} (h:((Region.before ops).getD i 0).testBit x=true):vl ops i x:=by
 unfold Region.before at h
 rw[←EI] at h
 refine Sm (l:=ops.toList) (acc:= #[]) (fun j o hj=>by simpa using hj) (fun j hj=>by simp at hj) i h
def Sn (ops:Array Oper) (listed:Array Bool):Prop:= ∀i o,ops[i]? =some o→listed.getD i false=true→∀e∈o.after,Region.binds .any e=true→listed.getD e.on false=true
theorem acT {ops:Array Oper} {listed:Array Bool} (hc:Sn ops listed) {i x:Nat} (h:vl ops i x) (hi: ∀o,ops[i]? =some o→∀e∈o.after,Region.binds .any e=true→listed.getD e.on false=true):listed.getD x false=true:=by
 induction h with
 | Sk ho he hb hx=>rw[←hx];exact hi _ ho _ he hb
 | trans ho he hb _ ih=>exact ih fun o' jD e' hY aB=>hc _ o' jD (hi _ ho _ he hb) e' hY aB
theorem So: ∀{l:List Oper} {k j:Nat} {o:Oper},AQ k l=true→l[j]? =some o→∀e∈o.after,Region.binds .any e=true→e.on<k+j
 | [],k,j,o,_,h=>by simp at h
 | o'::l,k,j,o,hk,h=>by
  simp only[AQ,aO] at hk
  cases j with
  | zero=>
   simp at h
   subst h
   intro e he hb
   have:=fm.1 hk.1 e (pK.2 he)
   simp[hb] at this
   omega
  | succ j=>
   intro e he hb
   have:=So hk.2 (j:=j) (by simpa using h) e he hb
   omega
theorem Sp {ops:Array Oper} {uG:Array Nat}: ∀{l:Log},Fh ops uG l=true→l.Pairwise fun x y=>AP ops uG x y=true
 | [],_=> .nil
 | x::l,h=>by
  simp only[Fh,aO] at h
  exact .cons (fun y hy=>fm.1 h.1 y hy) (Sp h.2)
theorem Sq {listed:Array Bool} {i:Nat} (h:listed.getD i true=false):i<listed.size∧listed.getD i false=false:=by
 rcases pJ i listed.size with h'|h'
 ·refine ⟨h',?_⟩
  simpa[h'] using h
 ·simp[Array.getElem?_eq_none h'] at h
theorem Sr (hC:lD P A C) (hP:iL P A) {n nb:Nat} {ops:Array Oper} {Q:Exit→Act→World→Prop} (Gt:AQ 0 ops.toList=true):
  ∀(fuel:Nat) {g:List (Nat × Oper × List Nat × List Nat)} {listed:Array Bool} {st st':St} {a:Act} {w:World} {I:Nat→Prop} {β:Nat→Option Nat},
  g.length=fuel→yh P A C n ops nb g st st'→(∀x∈g,ops[x.1]? =some x.2.1)→(g.map (·.1)).Pairwise (· < ·)→(g.map vk).Pairwise (fun x y=>AP ops (Region.before ops) x y=true)→
  listed.size=ops.size→(∀i,i<ops.size→(listed.getD i false=false↔i∈g.map (·.1)))→Sn ops listed→
  aH P w I β st.hp B M w0→jm P A.idle A.aF w I β n a st→
  (∀a' w' I' β',Le P w I β st.hp w' I' β' st'.hp→aH P w' I' β' st'.hp B M w0→jm P A.idle A.aF w' I' β' n a' st'→Q .normal a' w')→wpAny P .any ops Q fuel listed a w
 | 0,g,listed,st,st',a,w,I,β,hf,hr,ho,aQ,Gu,bd,vm,kM,S,hA,hQ=>by
  obtain rfl:g=[]:=lO hf
  cases hr
  refine ⟨?_,hQ a w I β (Le.refl w I β _) S hA⟩
  rw[List.eq_nil_iff_forall_not_mem]
  intro i hi
  obtain ⟨h0,_⟩:=mem_ready.1 hi
  obtain ⟨h1,U⟩:=Sq h0
  have:=(vm i (by omega)).1 U
  simp at this
 | fuel+1,g,listed,st,st',a,w,I,β,hf,hr,ho,aQ,Gu,bd,vm,kM,S,hA,hQ=>by
  refine ⟨fun BE=> ?_,fun i hi=> ?_⟩
  ·exfalso
   cases g with
   | nil=>simp at hf
   | cons x g=>
    have hx:=ho x (by simp)
    have gI:x.1<ops.size:=(iz.1 hx).1
    have jF:x.1∈Region.ready .any ops listed:=by
     rw[mem_ready]
     have h0:=(vm x.1 gI).2 (by simp)
     refine ⟨?_,x.2.1,hx,fun e he hb=> ?_⟩
     ·have hl:x.1<listed.size:=by omega
      simpa[hl] using h0
     ·have KH:=So Gt (j:=x.1) (by simpa using hx) e he hb
      rw[gV] at KH
      cases hle:listed.getD e.on false with
      | true=>rfl
      | false=>
       have hm:=(vm e.on (by omega)).1 hle
       simp only[cr,dx] at hm
       rw[cr,uv] at aQ
       rcases hm with hm|hm
       ·omega
       ·have:=aQ.1 _ hm;omega
    rw[BE] at jF
    cases jF
  ·obtain ⟨h0,oi,BG,Ss⟩:=mem_ready.1 hi
   obtain ⟨h1,U⟩:=Sq h0
   have hig:=(vm i (by omega)).1 U
   obtain ⟨y,hy,hyi⟩:=ey.1 hig
   obtain ⟨g1,g2,rfl⟩:=List.append_of_mem hy
   subst hyi
   have Su:=ho y hy
   rw[BG] at Su
   have Sv:oi=y.2.1:=cT Su
   have kN:((g1++y::g2).map (·.1)).Nodup:=aQ.imp fun h=>Nat.ne_of_lt h
   have acU: ∀x∈g1,Sh ops x y:=by
    intro x hx
    have hp:AP ops (Region.before ops) (vk x) (vk y)=true:=by
     rw[gn,cr,List.pairwise_append] at Gu
     exact Gu.2.2 _ (ey.2 ⟨x,hx,rfl⟩) _ (by simp)
    have Lr:=ho x (eJ.2 (.inl hx))
    unfold AP at hp
    rw[Aq] at hp
    rcases hp with hp|hp
    ·have hl:=acT kM (acS hp) fun o jD e he hb=>by
      have:o=oi:=by
       have h3:ops[y.1]? =some o:=jD
       rw[BG] at h3
       exact (cT h3).symm
      subst this
      exact Ss e he hb
     have gI:x.1<ops.size:=(iz.1 Lr).1
     have:=(vm x.1 gI).2 (ey.2 ⟨x,eJ.2 (.inl hx),rfl⟩)
     rw[show (vk x).1=x.1 from rfl,this] at hl
     cases hl
    ·simp only[vk,xd,Lr,BG,Option.getD_some,aO,lQ] at hp
     obtain ⟨q1,q2,q3⟩:=hp
     refine ⟨Sv▸q1,fun id ab=> ?_,fun id ab=>Gg q3 ab⟩
     have:=Gg q2 ab
     rw[eJ] at this
     exact ⟨fun h=>this (.inl h),fun h=>this (.inr h)⟩
   obtain ⟨jn,jc,nW⟩:=Si hr acU
   rw[←Sv] at jc
   refine R9 hC hP BG S hA jc fun a' w' I' β' k1 k2 k3=> ?_
   have kI:List.Sublist (g1++g2) (g1++y::g2):=List.Sublist.append_left (List.sublist_cons_self y g2) g1
   have uI: ∀j,j≠y.1→(listed.setIfInBounds y.1 true).getD j false=listed.getD j false:=fun j hj=>getD_set_ne false (Ne.symm hj)
   refine Sr hC hP Gt fuel (g:=g1++g2) (st':=st') ?_ nW (fun x hx=>ho x (kI.subset hx)) (aQ.sublist (kI.map _)) (Gu.sublist (kI.map _)) (by simp[bd]) (fun j hj=> ?_) (fun j o Lt cp e he hb=> ?_) k2 k3 fun a2 w2 I2 cd m1 m2 m3=>hQ a2 w2 I2 cd (k1.trans m1) m2 m3
   ·simp at hf⊢;omega
   ·by_cases pZ:j=y.1
    ·subst pZ
     have hl:y.1<listed.size:=by omega
     simp only[xd,JC hl,Option.getD_some]
     refine ⟨fun h=>(by cases h),fun h=> ?_⟩
     exfalso
     rw[gn,cr,EO,List.nodup_cons] at kN
     rw[gn,eJ] at h
     rcases h with h|h
     ·exact kN.2.2 _ h _ (by simp) rfl
     ·exact kN.2.1.1 h
    ·rw[uI j pZ,vm j hj]
     simp only[gn,cr,eJ,dx]
     constructor
     ·rintro (h|h|h)
      ·exact .inl h
      ·exact absurd h pZ
      ·exact .inr h
     ·rintro (h|h)
      ·exact .inl h
      ·exact .inr (.inr h)
   ·by_cases pZ:j=y.1
    ·subst pZ
     rw[BG] at Lt
     cases Lt
     exact getD_set_true (Ss e he hb)
    ·rw[uI j pZ] at cp
     exact getD_set_true (kM j o Lt cp e he hb)
end
section
variable {P:Program} {A:cK} {w w':World} {I I' I2:Nat→Prop} {μ β β':Nat→Option Nat} {hp hp':Nat→Option an} {C:ae} {B:Nat} {M:Nat→Prop} {w0:Start}
theorem Sw: ∀{l:List Oper} {k j:Nat},(oU k l)[j]? =(l[j]?).map fun o=>(k+j,o)
 | [],k,j=>by simp[oU]
 | o::l,k,0=>by simp[oU]
 | o::l,k,j+1=>by
  simp only[oU,List.getElem?_cons_succ,Sw]
  congr 1
  funext o
  rw[show k+1+j=k+(j+1) by omega]
theorem Sy: ∀{l:List Oper} {k:Nat},(oU k l).map (·.1)=List.range' k l.length
 | [],k=>rfl
 | o::l,k=>by simp[oU,Sy,List.range'_succ]
theorem acV (hC:lD P A C) (hP:iL P A) (hm:P.follows .mixedOrders=true) {n id:Nat} {ops:Array Oper} {draw:Bool} {st st':St} {a:Act} {Q:Exit→Act→World→Prop}
  (h:AS P A C n ops draw st=some st') (S:aH P w I β st.hp B M w0) (hA:jm P A.idle A.aF w I β n a st)
  (hQ: ∀a' w' I' β',Le P w I β st.hp w' I' β' st'.hp→aH P w' I' β' st'.hp B M w0→jm P A.idle A.aF w' I' β' n a' st'→Q .normal a' w'):(Code.region id ops draw).wp P Q a w:=by
 obtain ⟨⟨jn,log⟩,h1,U⟩:=bind_some h
 obtain ⟨g,g1,g2,g3⟩:=Sg h1
 have Gv:g.map (·.1)=List.range ops.size:=by
  have:g.map (·.1)=(g.map fun x=>(x.1,x.2.1)).map (·.1):=by simp
  rw[this,g1,Sy,List.range_eq_range']
  simp
 have Gw: ∀x∈g,ops[x.1]? =some x.2.1:=by
  intro x hx
  have:(x.1,x.2.1)∈oU 0 ops.toList:=by rw[←g1];exact ey.2 ⟨x,hx,rfl⟩
  obtain ⟨j,hj⟩:=List.mem_iff_getElem?.1 this
  rw[Sw] at hj
  cases ho:ops.toList[j]? with
  | none=>rw[ho] at hj;cases hj
  | some o=>
   rw[ho] at hj
   simp only[Option.map_some,gV,ed,ko] at hj
   rw[←hj.1,←hj.2]
   simpa using ho
 cases draw with
 | false=>
  simp only[uw,Bool.true_or,cond_true] at U
  cases U
  refine wp_region ?_
  rw[←Gv]
  exact Sj hC hP g3 Gw S hA hQ
 | true=>
  simp only[qX,Bool.false_or] at U
  cases hc:(Region.noSelect ops&&AR ops log) with
  | false=>rw[hc] at U;cases U
  | true=>
   rw[hc] at U
   cases U
   simp only[aO,AR] at hc
   obtain ⟨hns,Gt,acW⟩:=hc
   simp only[List.nil_append] at g2
   refine wp_region_any hm ?_
   have hlen:g.length=ops.size:=by
    have:=congrArg List.length Gv
    simpa using this
   refine Sr hC hP Gt ops.size (g:=g) (st':=st') hlen g3 Gw (by rw[Gv];exact List.pairwise_lt_range) (by rw[←g2];exact Sp acW) (by simp) (fun i hi=> ?_) (fun i o ho hl=> ?_)
    (w:=w.drew) S.drew ⟨fun k=>(hA.sl k).mono (Le.drew w I β _),hA.size,hA.defers,hA.aF.mono (Le.drew (P:=P) w I β st.hp).dq (Le.drew (P:=P) w I β st.hp).cm⟩ fun a' w' I' β' k1 k2 k3=>hQ a' w' I' β' ((Le.drew w I β _).trans k1) k2 k3
   ·rw[Gv]
    simp[hi]
   ·have hi:=(iz.1 ho).1
    simp[hi] at hl
end
section
variable {P:Program} {A:cK} {E:FuncId→Bool} {G:Nat→V} {w w':World} {I I' I2:Nat→Prop} {μ β β':Nat→Option Nat} {hp hp':Nat→Option an} {C:ae} {B:Nat} {M:Nat→Prop} {w0:Start}
theorem vn: ∀{l:List Nat} {hp:Nat→Option an} {I:Nat→Prop},aH P w I β hp B M w0→∃I',Le P w I β hp w I' β (uF hp l)∧aH P w I' β (uF hp l) B M w0
 | [],hp,I,S=>⟨I,Le.refl w I β hp,S⟩
 | id::l,hp,I,S=>by
  simp only[uF]
  cases ab:hp id with
  | none=>exact vn S
  | some blk=>
   cases blk with
   | dead=>exact vn S
   | var _=>exact vn S
   | map _ _=>exact vn S
   | arr e es fz=>
    obtain ⟨h1,U⟩:=A3 S (upd:=[(id,.arr e es true)]) (fun p hp=>by
     simp only[ew] at hp
     subst hp
     exact ⟨e,es,rfl,.inl ⟨fz,ab⟩⟩)
    obtain ⟨I',h3,h4⟩:=vn (l:=l) U
    exact ⟨I',h1.trans h3,h4⟩
   | nest e es aq=>
    obtain ⟨h1,U⟩:=A3 S (upd:=[(id,.arr e es true)]) (fun p hp=>by
     simp only[ew] at hp
     subst hp
     exact ⟨e,es,rfl,.inr ⟨aq,ab⟩⟩)
    obtain ⟨I',h3,h4⟩:=vn (l:=l) U
    exact ⟨I',h1.trans h3,h4⟩
theorem Sz {n m:Nat} {pur:List Nat} {a:Act} {st:St} (S:aH P w I β st.hp B M w0) (hA:jm P E G w I β n a st):
  ∃I',Le P w I β st.hp w I' β (freeze m pur st).hp∧aH P w I' β (freeze m pur st).hp B M w0∧jm P E G w I' β n a (freeze m pur st):=by
 obtain ⟨I',h1,U⟩:=vn (l:=(P8 st pur).filter fun id=>Nat.ble m id) S
 exact ⟨I',h1,U,fun k=>(hA.sl k).mono h1,hA.size,hA.defers,hA.aF.mono h1.dq h1.cm⟩
structure yi (hp:Nat→Option an) (β:Nat→Option Nat) (ord:List Nat) (hp':Nat→Option an) (β':Nat→Option Nat):Prop where
 arr: ∀(j:Nat) id e es fz,ord[j]? =some id→hp id=some (.arr e es fz)→hp' j=some (.arr e es fz)
 var: ∀(j:Nat) id T cs,ord[j]? =some id→hp id=some (.var T cs)→∃iJ,hp' j=some (.var T iJ)
 dead: ∀(j:Nat) id,ord[j]? =some id→hp id=some .dead→hp' j=some .dead
 place: ∀(j:Nat) id,ord[j]? =some id→β' j=β id
 nest: ∀(j:Nat) id e es aq,ord[j]? =some id→hp id=some (.nest e es aq)→hp' j=some (.nest e es (aq.map fun _=>0))
 map: ∀(j:Nat) id t es,ord[j]? =some id→hp id=some (.map t es)→hp' j=some (.map t es)
theorem mf: ∀{l:List Nat} {n i j:Nat},iD l n i=some j→∃k,j=i+k∧l[k]? =some n
 | [],n,i,j,h=>by cases h
 | a::l,n,i,j,h=>by
  simp only[iD] at h
  cases hb:Nat.beq n a with
  | true=>
   rw[hb] at h
   cases h
   rw[a9] at hb
   exact ⟨0,rfl,by rw[hb];rfl⟩
  | false=>
   rw[hb] at h
   obtain ⟨k,h1,U⟩:=mf h
   exact ⟨k+1,by omega,by simpa using U⟩
def lE (hp':Nat→Option an) (β':Nat→Option Nat) (n:Nat) (bs:List an):Prop:=
 ∀(k:Nat) b,bs[k]? =some b→hp' (n+k)=some b∧β' (n+k)=none
theorem Lu: ∀(aq:List Nat) (k:Nat),bI (aq.map fun _=>0) k=0
 | [],_=>rfl
 | _::_,0=>rfl
 | _::vs,k+1=>Lu vs k
theorem SA {e:TypeId} {es:List V} {aq:List Nat} {path:Path} {ver:Nat} (hc:(Nat.blt 0 path.length&&(Nat.ble path.length aq.length&&Nat.beq (bI aq (path.length-1)) ver))=true)
  (h:(an.nest e es aq).uJ path ver):False:=by
 simp only[aO,jP,ej,a9] at hc
 obtain ⟨h1,U,h3⟩:=hc
 rcases h with h|h|h
 ·subst h;simp at h1
 ·omega
 ·omega
theorem SB (S:aH P w I β hp B M w0) {ord:List Nat} (hR:yi hp β ord hp' β') {v:Value} {x:V} (hv:ao P w I β hp v x):ao P w I β' hp' v (iE hp ord x):=by
 cases hv with
 | undef=>exact .undef
 | int=>exact .int
 | bool=>exact .bool
 | str h=>exact .str h
 | list h=>exact .list h
 | nilS=>exact .nilS
 | agg=>exact .undef
 | bn=>exact .undef
 | dB=>exact .dB
 | fn=>exact .undef
 | pref a b c=>exact .pref a b c
 | @eo _ e id ab=>
  simp only[iE]
  cases bx:iD ord id 0 with
  | none=>simp only[ab];exact .undef
  | some j=>
   obtain ⟨k,rfl,hk⟩:=mf bx
   exact .eo (hR.dead _ id (by simpa using hk) ab)
 | @gq _ e id off len ab=>
  simp only[iE]
  cases bx:iD ord id 0 with
  | none=>simp only[ab];exact .undef
  | some j=>
   obtain ⟨k,rfl,hk⟩:=mf bx
   exact .gq (hR.dead _ id (by simpa using hk) ab)
 | @kE _ id i c ab=>
  simp only[iE]
  cases bx:iD ord id 0 with
  | none=>exact .undef
  | some j=>
   obtain ⟨k,rfl,hk⟩:=mf bx
   exact .kE (hR.dead _ id (by simpa using hk) ab)
 | @dO e id fz _ ab hb=>
  simp only[iE]
  cases bx:iD ord id 0 with
  | none=>
   simp only[ab]
   cases fz with
   | false=>exact .undef
   | true=>simp only[jQ,cond_true];exact .list (.any fun _=>rfl)
  | some j=>
   obtain ⟨k,rfl,hk⟩:=mf bx
   have dt:ord[0+k]? =some id:=by simpa using hk
   exact .dO (hR.arr _ id _ _ _ dt ab) ((hR.place _ id dt).trans hb)
 | @whole e id es fz b cap ab hb bd ch hm=>
  simp only[iE]
  cases bx:iD ord id 0 with
  | none=>
   simp only[ab]
   cases fz with
   | false=>exact .undef
   | true=>
    simp only[jQ,cond_true]
    have hr:=S.h.rel id _ ab
    cases hr with
    | dP aB=>rw[aB] at hb;cases hb
    | arr ay aB hh hs hf ep hx=>
     rw[hb] at aB;cases aB
     have:=uO (I':=I) (off:=0) (len:=es.length) (o:=0) hh hx (fL ay) (by omega) ch (fun _=>by simp) (fun _ h=>h) (hf rfl)
     exact .list (by simpa using this)
  | some j=>
   obtain ⟨k,rfl,hk⟩:=mf bx
   have dt:ord[0+k]? =some id:=by simpa using hk
   exact .whole (hR.arr _ id _ _ _ dt ab) ((hR.place _ id dt).trans hb) bd ch hm
 | @ga e id fz _ ab hb=>
  simp only[iE]
  cases bx:iD ord id 0 with
  | none=>
   simp only[ab]
   cases fz with
   | false=>exact .undef
   | true=>simp only[jQ,cond_true];exact .list (by simpa using (ja.any (P:=P) fun _=>rfl))
  | some j=>
   obtain ⟨k,rfl,hk⟩:=mf bx
   have dt:ord[0+k]? =some id:=by simpa using hk
   exact .ga (hR.arr _ id _ _ _ dt ab) ((hR.place _ id dt).trans hb)
 | @sub e id off len es fz b o cap ab hb lq ch ho=>
  simp only[iE]
  cases bx:iD ord id 0 with
  | none=>
   simp only[ab]
   cases fz with
   | false=>exact .undef
   | true=>
    simp only[jQ,cond_true]
    have hr:=S.h.rel id _ ab
    cases hr with
    | dP aB=>rw[aB] at hb;cases hb
    | arr ay aB hh hs hf ep hx=>
     rw[hb] at aB;cases aB
     exact .list (uO (I':=I) hh hx (fL ay) lq ch ho (fun _ h=>h) (hf rfl))
  | some j=>
   obtain ⟨k,rfl,hk⟩:=mf bx
   have dt:ord[0+k]? =some id:=by simpa using hk
   exact .sub (hR.arr _ id _ _ _ dt ab) ((hR.place _ id dt).trans hb) lq ch ho
 | @ptr id i c b blk ab hd hb=>
  simp only[iE]
  cases bx:iD ord id 0 with
  | none=>exact .undef
  | some j=>
   obtain ⟨k,rfl,hk⟩:=mf bx
   have dt:ord[0+k]? =some id:=by simpa using hk
   cases blk with
   | dead=>exact absurd rfl hd
   | var T0 cs=>
    obtain ⟨iJ,h'⟩:=hR.var _ id T0 cs dt ab
    exact .ptr (blk:= .var T0 iJ) h' (by simp) ((hR.place _ id dt).trans hb)
   | arr e es fz=>exact .ptr (blk:= .arr e es fz) (hR.arr _ id _ _ _ dt ab) (by simp) ((hR.place _ id dt).trans hb)
   | nest e es aq=>exact .ptr (blk:= .nest e es (aq.map fun _=>0)) (hR.nest _ id _ _ _ dt ab) (by simp) ((hR.place _ id dt).trans hb)
   | map t es=>exact .ptr (blk:= .map t es) (hR.map _ id _ _ dt ab) (by simp) ((hR.place _ id dt).trans hb)
 | dE=>exact .dE
 | @iH _ t id ab=>
  simp only[iE]
  cases bx:iD ord id 0 with
  | none=>exact .undef
  | some j=>
   obtain ⟨k,rfl,hk⟩:=mf bx
   exact .iH (hR.dead _ id (by simpa using hk) ab)
 | @cE t id b es ab hb=>
  simp only[iE]
  cases bx:iD ord id 0 with
  | none=>exact .undef
  | some j=>
   obtain ⟨k,rfl,hk⟩:=mf bx
   have dt:ord[0+k]? =some id:=by simpa using hk
   exact .cE (hR.map _ id _ _ dt ab) ((hR.place _ id dt).trans hb)
 | @eC e id es aq b cap ab hb bd ch hm=>
  simp only[iE]
  cases bx:iD ord id 0 with
  | none=>simp only[ab];exact .undef
  | some j=>
   obtain ⟨k,rfl,hk⟩:=mf bx
   have dt:ord[0+k]? =some id:=by simpa using hk
   exact .eC (hR.nest _ id _ _ _ dt ab) ((hR.place _ id dt).trans hb) bd ch hm
 | @jV v e id ver path blk ab A0=>
  simp only[iE]
  split
  ·rename_i j e1 cx aq h1 U
   rw[ab] at U
   cases U
   cases hc:(Nat.blt 0 path.length&&(Nat.ble path.length aq.length&&Nat.beq (bI aq (path.length-1)) ver)) with
   | false=>exact .undef
   | true=>exact (SA hc A0).elim
  ·exact .undef
 | @jW v id ver i c path blk ab A0=>
  simp only[iE]
  split
  ·rename_i j e1 cx aq h1 U
   rw[ab] at U
   cases U
   cases hc:(Nat.blt 0 path.length&&(Nat.ble path.length aq.length&&Nat.beq (bI aq (path.length-1)) ver)) with
   | false=>exact .undef
   | true=>exact (SA hc A0).elim
  ·exact .undef
 | @row v e e0 t id ver b i c q es l aq ab hb hq hv ht hc=>
  simp only[iE]
  split
  ·rename_i j e1 cx vh h1 U
   obtain ⟨k,rfl,hk⟩:=mf h1
   have dt:ord[0+k]? =some id:=by simpa using hk
   cases hx:(Nat.blt 0 (q++[(i,c)]).length&&(Nat.ble (q++[(i,c)]).length vh.length&&Nat.beq (bI vh ((q++[(i,c)]).length-1)) ver)) with
   | false=>exact .undef
   | true=>exact .row (hR.nest _ id _ _ _ dt ab) ((hR.place _ id dt).trans hb) (by simpa using hq) (Lu _ _) ht hc
  ·exact .undef
 | @cJ e e0 t id ver b b1 len cap i0 c0 i c q es l aq ab hb hq hv ht jZ hc=>
  simp only[iE]
  split
  ·rename_i j e1 cx vh h1 U
   obtain ⟨k,rfl,hk⟩:=mf h1
   have dt:ord[0+k]? =some id:=by simpa using hk
   cases hx:(Nat.blt 0 (q++[(i0,c0)]).length&&(Nat.ble (q++[(i0,c0)]).length vh.length&&Nat.beq (bI vh ((q++[(i0,c0)]).length-1)) ver)) with
   | false=>exact .undef
   | true=>exact .cJ (hR.nest _ id _ _ _ dt ab) ((hR.place _ id dt).trans hb) (by simpa using hq) (Lu _ _) ht jZ hc
  ·exact .undef
theorem SC (S:aH P w I β hp B M w0) {ord:List Nat} (hR:yi hp β ord hp' β') {vs:Array Value} {xs:List V} (h: ∀(j:Nat) v x,vs[j]? =some v→xs[j]? =some x→ao P w I β hp v x) (j:Nat) (v:Value) (y:V)
  (hv:vs[j]? =some v) (hy:(xs.map (iE hp ord))[j]? =some y):ao P w I β' hp' v y:=by
 rw[fU] at hy
 cases hx:xs[j]? with
 | none=>rw[hx] at hy;cases hy
 | some x=>rw[hx] at hy;cases hy;exact SB S hR (h j v x hv hx)
theorem SD (S:aH P w I β hp B M w0) {ord:List Nat} (hR:yi hp β ord hp' β') {n:Nat} {v:Value} {x:V} (hv:ao P w I β hp v x) (hF:lE hp' β' n (xu hp ord n x).2):
  ao P w I β' hp' v (xu hp ord n x).1:=by
 cases x with
 | nilS e=>
  obtain ⟨h1,U⟩:=hF 0 _ rfl
  cases hv with
  | nilS=>exact .dO h1 U
 | fn f a b=>
  cases hv with
  | fn q1 q2 q3 q4=>exact .fn (by simpa using q1) (SC S hR q2) (by simpa using q3) (SC S hR q4)
 | _=>exact SB S hR hv
end
section
variable {P:Program} {A:cK} {w w':World} {I I' I2:Nat→Prop} {μ β β':Nat→Option Nat} {hp hp':Nat→Option an} {C:ae} {B:Nat} {M:Nat→Prop} {w0:Start}
theorem lE.left {n:Nat} {a b:List an} (h:lE hp' β' n (a++b)):lE hp' β' n a:=fun k x hx=>
 h k x (by rw[iT (bw.1 hx).1];exact hx)
theorem lE.right {n:Nat} {a b:List an} (h:lE hp' β' n (a++b)):lE hp' β' (n+a.length) b:=fun k x hx=>by
 have:=h (a.length+k) x (by rw[iU (by omega),Nat.add_sub_cancel_left];exact hx)
 rwa [←oN] at this
def mV (bs:List an):Prop:= ∀b∈bs,∃e,b= .arr e [] false
theorem mV.app {a b:List an} (h1:mV a) (U:mV b):mV (a++b):=fun x hx=>(eJ.1 hx).elim (h1 x) (U x)
theorem mV.nil:mV []:=fun x hx=>by simp at hx
theorem SE {ord:List Nat} {n:Nat} {x:V}:mV (xu hp ord n x).2:=by
 cases x<;>simp only[xu]<;>first|exact .nil|skip
 intro b hb
 simp only[ew] at hb
 exact ⟨_,hb⟩
theorem Lv {ord:List Nat}: ∀{xs:List V} {n:Nat},mV (nG hp ord n xs).2
 | [],n=> .nil
 | x::xs,n=>by
  simp only[nG]
  exact SE.app Lv
theorem Gx {ord:List Nat}: ∀{xs:List V} {n:Nat},(nG hp ord n xs).1.length=xs.length
 | [],n=>rfl
 | x::xs,n=>by simp only[nG,List.length_cons,Gx]
theorem Gy (S:aH P w I β hp B M w0) {ord:List Nat} (hR:yi hp β ord hp' β'): ∀{xs:List V} {vs:List Value} {n:Nat},(∀(j:Nat) v x,vs[j]? =some v→xs[j]? =some x→ao P w I β hp v x)→
  lE hp' β' n (nG hp ord n xs).2→∀(j:Nat) v y,vs[j]? =some v→(nG hp ord n xs).1[j]? =some y→ao P w I β' hp' v y
 | [],vs,n,h,hF,j,v,y,hv,hy=>by simp[nG] at hy
 | x::xs,vs,n,h,hF,j,v,y,hv,hy=>by
  simp only[nG] at hF hy
  cases j with
  | zero=>
   simp at hy
   subst hy
   exact SD S hR (h 0 v x hv rfl) hF.left
  | succ j=>
   cases vs with
   | nil=>simp at hv
   | cons v0 vs=>exact Gy S hR (vs:=vs) (fun j v x hj hx=>h (j+1) v x (by simpa using hj) (by simpa using hx)) hF.right j v y (by simpa using hv) (by simpa using hy)
theorem acX {ord:List Nat} {n:Nat} {x:V}:mV (rk hp ord n x).2:=by
 cases x<;>simp only[rk]<;>first|exact SE|exact Lv
theorem acY (S:aH P w I β hp B M w0) {ord:List Nat} (hR:yi hp β ord hp' β') {n:Nat} {v:Value} {x:V} (hv:ao P w I β hp v x) (hF:lE hp' β' n (rk hp ord n x).2):
  ao P w I β' hp' v (rk hp ord n x).1:=by
 cases x with
 | agg cs=>
  obtain ⟨ds,rfl,h1,U⟩:=hv.ly
  simp only[rk] at hF⊢
  exact .agg (by rw[Gx];exact h1) fun j v y hj hy=>Gy S hR (vs:=ds.toList) (fun j v x hj hx=>U j v x (by simpa using hj) hx) hF j v y (by simpa using hj) hy
 | bn cs=>
  obtain ⟨ds,rfl,h1,U⟩:=hv.uS
  simp only[rk] at hF⊢
  exact .bn (by rw[Gx];exact h1) fun j v y hj hy=>Gy S hR (vs:=ds.toList) (fun j v x hj hx=>U j v x (by simpa using hj) hx) hF j v y (by simpa using hj) hy
 | _=>exact SD S hR hv hF
theorem SF {ord:List Nat} {sl:Nat→V}: ∀{l:List Nat} {n:Nat},mV (lV hp ord sl n l).2
 | [],n=> .nil
 | s::l,n=>by
  simp only[lV]
  exact acX.app SF
theorem SG {ord:List Nat} {sl:Nat→V} {k:Nat} {y:V}: ∀{l:List Nat} {n:Nat},lE hp' β' n (lV hp ord sl n l).2→dN (lV hp ord sl n l).1 k=some y→
  ∃n',lE hp' β' n' (rk hp ord n' (sl k)).2∧y=(rk hp ord n' (sl k)).1
 | [],n,_,h=>by cases h
 | s::l,n,hF,h=>by
  simp only[lV] at hF h
  simp only[dN] at h
  cases hb:Nat.beq k s with
  | true=>
   rw[hb] at h
   rw[a9] at hb
   subst hb
   cases h
   exact ⟨n,hF.left,rfl⟩
  | false=>
   rw[hb] at h
   exact SG hF.right h
theorem acZ {ord:List Nat} {n id:Nat}:mV (e6 hp ord n id).2:=by
 unfold e6
 split
 ·exact Lv
 ·exact .nil
 ·exact .nil
 ·exact .nil
 ·exact .nil
theorem SH {ord:List Nat}: ∀{l:List Nat} {n:Nat},mV (fJ hp ord n l).2
 | [],n=> .nil
 | s::l,n=>by
  simp only[fJ]
  exact acZ.app SH
theorem SI {ord:List Nat}: ∀{l:List Nat} {n:Nat},(fJ hp ord n l).1.length=l.length
 | [],n=>rfl
 | x::xs,n=>by simp only[fJ,List.length_cons,SI]
theorem SJ {ord:List Nat}: ∀{l:List Nat} {n j:Nat} {id:Nat},l[j]? =some id→∃n',(lE hp' β' n (fJ hp ord n l).2→lE hp' β' n' (e6 hp ord n' id).2)∧(fJ hp ord n l).1[j]? =some (e6 hp ord n' id).1
 | [],n,j,id,h=>by simp at h
 | s::l,n,j,id,h=>by
  simp only[fJ]
  cases j with
  | zero=>
   simp at h
   subst h
   exact ⟨n,fun hF=>hF.left,rfl⟩
  | succ j=>
   obtain ⟨n',h1,U⟩:=SJ (n:=n+(e6 hp ord n s).2.length) (j:=j) (by simpa using h)
   exact ⟨n',fun hF=>h1 hF.right,by simpa using U⟩
theorem Gz: ∀{l acc:List Nat},∃t,uE hp acc l=acc++t∧(acc.Nodup→(acc++t).Nodup)
 | [],acc=>⟨[],by simp[uE],by simp⟩
 | id::l,acc=>by
  simp only[uE]
  cases hb:(ky acc id|| !(P7 hp id)) with
  | true=>exact Gz
  | false=>
   obtain ⟨t,h1,U⟩:=Gz (l:=l) (acc:=acc++[id])
   refine ⟨id::t,by simp only[cond_false,h1,cw,List.singleton_append],fun hn=> ?_⟩
   have:acc++id::t=(acc++[id])++t:=by simp
   rw[this]
   refine U ?_
   rw[EO]
   refine ⟨hn,by simp,fun a ha b aB=> ?_⟩
   simp only[ew] at aB
   subst aB
   intro e
   subst e
   rw[xK ha] at hb
   cases hb
theorem SK: ∀{n:Nat} {l:List Nat},∃t,grow hp n l=l++t∧(l.Nodup→(l++t).Nodup)
 | 0,l=>⟨[],by simp[grow],by simp⟩
 | n+1,l=>by
  simp only[grow]
  obtain ⟨t,h1,U⟩:=Gz (hp:=hp) (acc:=l) (l:=l.flatMap (JT hp))
  rw[h1]
  obtain ⟨t',h3,h4⟩:=SK (n:=n) (l:=l++t)
  exact ⟨t++t',by rw[h3,cw],fun hn=>by rw[←cw];exact h4 (U hn)⟩
theorem ac0 {m:Nat} {live:List Nat} {st:St}: ∃t,JU m live st=List.range m++t∧(List.range m++t).Nodup:=by
 unfold JU
 obtain ⟨t,h1,U⟩:=Gz (hp:=st.hp) (acc:=List.range m) (l:=live.flatMap fun s=>JS (st.sl s))
 rw[h1]
 obtain ⟨t',h3,h4⟩:=SK (hp:=st.hp) (n:=3) (l:=List.range m++t)
 exact ⟨t++t',by rw[h3,cw],by rw[←cw];exact h4 (U List.nodup_range)⟩
end
section
variable {P:Program} {A:cK} {E:FuncId→Bool} {G:Nat→V} {w w':World} {I I' I2:Nat→Prop} {μ β β':Nat→Option Nat} {hp hp' hp0:Nat→Option an} {C:ae} {B:Nat} {M:Nat→Prop} {w0:Start}
theorem SL {n m:Nat} {ord live:List Nat} {a:Act} {st:St} (lY:ord.Nodup) (BH: ∀id,id<m→ord[id]? =some id∨∃p,ord[id]? =some p∧st.hp p=none) (S:aH P w I β st.hp B M w0) (hA:jm P E G w I β n a st) (hE:lC w0.w w0.I μ hp0 w I β st.hp) (hm: ∀id blk,hp0 id=some blk→id<m) (jH: ∀id e es aq,hp0 id=some (.nest e es aq)→∀k,bI aq k=0):
  ∃β',aH P w I β' (xw ord live st).hp B M w0∧jm P E G w I β' n a (xw ord live st)∧lC w0.w w0.I μ hp0 w I β' (xw ord live st).hp:=by
 have ac1:xw ord live st=mk (lV st.hp ord st.sl (ord.length+(fJ st.hp ord ord.length ord).2.length) live).1
   ((fJ st.hp ord ord.length ord).1++((fJ st.hp ord ord.length ord).2++(lV st.hp ord st.sl (ord.length+(fJ st.hp ord ord.length ord).2.length) live).2)):=by
  rfl
 rw[ac1]
 let hp':=jT ((fJ st.hp ord ord.length ord).1++((fJ st.hp ord ord.length ord).2++(lV st.hp ord st.sl (ord.length+(fJ st.hp ord ord.length ord).2.length) live).2))
 let β':Nat→Option Nat:=fun j=>if j<ord.length then (ord[j]?).bind β else none
 have hlen:(fJ st.hp ord ord.length ord).1.length=ord.length:=SI
 have ji: ∀j,j<ord.length→hp' j=(fJ st.hp ord ord.length ord).1[j]? :=by
  intro j hj
  simp only[hp',ig]
  rw[iT (by omega)]
 have ic: ∀k,hp' (ord.length+k)=((fJ st.hp ord ord.length ord).2++(lV st.hp ord st.sl (ord.length+(fJ st.hp ord ord.length ord).2.length) live).2)[k]? :=by
  intro k
  simp only[hp',ig]
  rw[iU (by omega),hlen,Nat.add_sub_cancel_left]
 have hF:lE hp' β' ord.length ((fJ st.hp ord ord.length ord).2++(lV st.hp ord st.sl (ord.length+(fJ st.hp ord ord.length ord).2.length) live).2):=by
  intro k b hb
  refine ⟨(ic k).trans hb,?_⟩
  simp only[β']
  rw[ah (by omega)]
 have BE:mV ((fJ st.hp ord ord.length ord).2++(lV st.hp ord st.sl (ord.length+(fJ st.hp ord ord.length ord).2.length) live).2):=SH.app SF
 have pb: ∀(j:Nat) id,ord[j]? =some id→β' j=β id:=by
  intro j id hj
  simp only[β']
  rw[ag (bw.1 hj).1,hj]
  rfl
 have rV: ∀(j:Nat) id,ord[j]? =some id→∃n',lE hp' β' n' (e6 st.hp ord n' id).2∧hp' j=some (e6 st.hp ord n' id).1:=by
  intro j id hj
  obtain ⟨n',h1,U⟩:=SJ (hp:=st.hp) (hp':=hp') (β':=β') (ord:=ord) (n:=ord.length) hj
  exact ⟨n',h1 hF.left,(ji j (bw.1 hj).1).trans U⟩
 have hR:yi st.hp β ord hp' β':=by
  refine ⟨fun j id e es fz hj ab=> ?_,fun j id T cs hj ab=> ?_,fun j id hj ab=> ?_,pb,fun j id e es aq hj ab=> ?_,fun j id t es hj ab=> ?_⟩
  ·obtain ⟨n',_,U⟩:=rV j id hj
   rw[U];simp only[e6,ab]
  ·obtain ⟨n',_,U⟩:=rV j id hj
   rw[U];simp only[e6,ab];exact ⟨_,rfl⟩
  ·obtain ⟨n',_,U⟩:=rV j id hj
   rw[U];simp only[e6,ab]
  ·obtain ⟨n',_,U⟩:=rV j id hj
   rw[U];simp only[e6,ab]
  ·obtain ⟨n',_,U⟩:=rV j id hj
   rw[U];simp only[e6,ab]
 have cls: ∀j blk',hp' j=some blk'→(∃id,ord[j]? =some id∧((blk'= .dead)∨∃blk,st.hp id=some blk∧blk≠ .dead∧∀o b,bC P w o blk' b→bC P w o blk b))∨(∃e,blk'= .arr e [] false∧β' j=none):=by
  intro j blk' hj
  rcases pJ j ord.length with h|h
  ·have gb:=bH h
   obtain ⟨n',_,U⟩:=rV j _ gb
   rw[hj] at U
   refine .inl ⟨_,gb,?_⟩
   cases ab:st.hp ord[j] with
   | none=>left;simp only[e6,ab] at U;exact cT U
   | some blk=>
    cases blk with
    | dead=>left;simp only[e6,ab] at U;exact cT U
    | var T0 cs=>exact .inr ⟨_,rfl,by simp,fun o b h=>by simp only[e6,ab] at U;rw[cT U] at h;exact .root (by simp) (h.flat (by simp))⟩
    | arr e es fz=>exact .inr ⟨_,rfl,by simp,fun o b h=>by simp only[e6,ab] at U;rw[cT U] at h;exact .root (by simp) (h.flat (by simp))⟩
    | map t es=>exact .inr ⟨_,rfl,by simp,fun o b h=>by simp only[e6,ab] at U;rw[cT U] at h;exact .root (by simp) (h.flat (by simp))⟩
    | nest e es aq=>
     refine .inr ⟨_,rfl,by simp,fun o b h=> ?_⟩
     simp only[e6,ab] at U
     rw[cT U] at h
     cases h with
     | root _ h=>exact .root (by simp) h
     | row h1 U=>exact .row h1 U
  ·obtain ⟨k,rfl⟩: ∃k,j=ord.length+k:=⟨j-ord.length,by omega⟩
   rw[ic] at hj
   obtain ⟨e,he⟩:=BE _ (jR hj)
   exact .inr ⟨e,he,(hF k _ hj).2⟩
 refine ⟨β',⟨⟨fun j blk' hj=> ?_,fun j1 j2 b1 b2 b e1 e2 f1 f2=> ?_,fun j blk b e1 f1=> ?_,S.h.jX⟩,S.cm,S.size,S.new,S.io⟩,⟨fun k=> ?_,hA.size,hA.defers,hA.aF⟩,⟨hE.dq,hE.cm,fun id blk ab=> ?_,fun id blk blk' b ab bJ hd hb=> ?_⟩⟩
 ·change hp' j=some blk' at hj
  rcases pJ j ord.length with h|h
  ·have gb:=bH h
   obtain ⟨n',SM,U⟩:=rV j _ gb
   rw[hj] at U
   rw[pb j _ gb]
   cases ab:st.hp ord[j] with
   | none=>simp only[e6,ab] at U;rw[cT U];exact .dead
   | some blk=>
    have hr:=S.h.rel _ _ ab
    generalize β ord[j]=o at hr
    cases hr with
    | dead=>simp only[e6,ab] at U;rw[cT U];exact .dead
    | dP hb=>simp only[e6,ab] at U;rw[cT U];exact .dP hb
    | arr a1 a2 a3 a4 a5 a6 a7=>simp only[e6,ab] at U;rw[cT U];exact .arr a1 a2 a3 a4 a5 a6 a7
    | nest a1 a2 a3=>simp only[e6,ab] at U;rw[cT U];exact .nest a1 a2 a3
    | map a1 a2 a3 a4 a5 a6 a7=>simp only[e6,ab] at U;rw[cT U];exact .map a1 a2 a3 a4 a5 a6 a7
    | @var xs b Ca T hb hh hs cV hx gu=>
     simp only[e6,ab] at U SM
     rw[cT U]
     exact .var hb hh (by rw[Gx];exact hs) cV (fun i v y hi hy=>Gy S hR (vs:=Ca.toList) (fun i v x hi cF=>hx i v x (by simpa using hi) cF) SM i v y (by simpa using hi) hy) gu
  ·rcases cls j blk' hj with ⟨id,ab,_⟩|⟨e,he,hb⟩
   ·have:=(bw.1 ab).1;omega
   ·rw[he];exact .dP hb
 ·rcases cls j1 b1 e1 with ⟨Lw,o1,x1⟩|⟨e,_,hb⟩
  ·rcases cls j2 b2 e2 with ⟨cH,o2,x2⟩|⟨e,_,hb⟩
   ·obtain ⟨c1,y1,z1,g1⟩:=x1.resolve_left f1.alive
    obtain ⟨c2,y2,z2,g2⟩:=x2.resolve_left f2.alive
    rw[pb _ _ o1] at f1
    rw[pb _ _ o2] at f2
    have:=S.h.inj Lw cH c1 c2 b y1 y2 (g1 _ _ f1) (g2 _ _ f2)
    subst this
    obtain ⟨q1,q2⟩:=bw.1 o1
    obtain ⟨q3,q4⟩:=bw.1 o2
    exact (List.getElem_inj lY).1 (q2.trans q4.symm)
   ·subst ‹b2=_›;have:=f2.flat (by simp);rw[hb] at this;cases this
  ·subst ‹b1=_›;have:=f1.flat (by simp);rw[hb] at this;cases this
 ·rcases cls j blk e1 with ⟨Lw,o1,x1⟩|⟨e,_,hb⟩
  ·obtain ⟨c1,y1,z1,g1⟩:=x1.resolve_left f1.alive
   rw[pb _ _ o1] at f1
   exact S.h.own Lw c1 b y1 (g1 _ _ f1)
  ·subst ‹blk=_›;have:=f1.flat (by simp);rw[hb] at this;cases this
 ·change ao P w I β' hp' (a.tmps.getD k undef) (jA _ k)
  unfold jA
  cases K7:dN (lV st.hp ord st.sl (ord.length+(fJ st.hp ord ord.length ord).2.length) live).1 k with
  | none=>exact .undef
  | some y=>
   obtain ⟨n',h1,U⟩:=SG hF.right K7
   simp only[Option.getD_some,U]
   exact acY S hR (hA.sl k) h1
 ·obtain ⟨rR,k1,k2,k3⟩:=hE.blk id blk ab
  rcases BH id (hm id blk ab) with ho|⟨p,ho,bx⟩
  ·cases rR with
   | dead=>exact ⟨.dead,hR.dead id id ho k1,k2,fun h=>absurd rfl h⟩
   | var T0 cs=>
    obtain ⟨iJ,h'⟩:=hR.var id id T0 cs ho k1
    refine ⟨_,h',?_,fun _=>(pb id id ho).trans (k3 (by simp))⟩
    cases blk<;>simp_all [an.le]
   | arr e es fz=>exact ⟨_,hR.arr id id e es fz ho k1,k2,fun _=>(pb id id ho).trans (k3 (by simp))⟩
   | map t es=>exact ⟨_,hR.map id id t es ho k1,k2,fun _=>(pb id id ho).trans (k3 (by simp))⟩
   | nest e es aq=>
    refine ⟨_,hR.nest id id e es aq ho k1,?_,fun _=>(pb id id ho).trans (k3 (by simp))⟩
    obtain ⟨J2,aaF,rfl,l1,l2,_⟩:=an.J0 k2
    exact ⟨rfl,l1,by simpa using l2,fun k=>by rw[jH id _ _ _ ab k];exact lf _⟩
  ·obtain ⟨n',_,U⟩:=rV id p ho
   simp only[e6,bx] at U
   exact ⟨.dead,U,by cases blk<;>trivial,fun h=>absurd rfl h⟩
 ·obtain ⟨rR,k1,k2,k3⟩:=hE.blk id blk ab
  rcases BH id (hm id blk ab) with ho|⟨p,ho,bx⟩
  ·refine hE.size id blk rR b ab k1 (fun rU=> ?_) hb
   subst rU
   have:=hR.dead id id ho k1
   change hp' id=some blk' at bJ
   rw[this] at bJ
   exact hd (cT bJ).symm
  ·obtain ⟨n',_,U⟩:=rV id p ho
   simp only[e6,bx] at U
   change hp' id=some blk' at bJ
   rw[U] at bJ
   exact absurd (cT bJ).symm hd
theorem ac2 {n m:Nat} {live:List Nat} {a:Act} {st:St} (S:aH P w I β st.hp B M w0) (hA:jm P E G w I β n a st) (hE:lC w0.w w0.I μ hp0 w I β st.hp) (hm: ∀id blk,hp0 id=some blk→id<m) (jH: ∀id e es aq,hp0 id=some (.nest e es aq)→∀k,bI aq k=0):
  ∃β',aH P w I β' (canon m live st).hp B M w0∧jm P E G w I β' n a (canon m live st)∧lC w0.w w0.I μ hp0 w I β' (canon m live st).hp:=by
 obtain ⟨t,BH,lY⟩:=ac0 (m:=m) (live:=live) (st:=st)
 refine SL (by rw[BH];exact lY) (fun id aQ=> .inl ?_) S hA hE hm jH
 rw[BH,iT (by simpa using aQ)]
 simp[aQ]
theorem SN: ∀{l:List Nat},rm l=true→l.Nodup
 | [],_=> .nil
 | a::l,h=>by
  simp only[rm,aO,lQ] at h
  rw[List.nodup_cons]
  exact ⟨fun hm=>Bool.noConfusion ((xK hm).symm.trans h.1),SN h.2⟩
theorem ac3 {m:Nat} {mv:List Nat} {id:Nat} (h:id<m):(oT m mv)[id]? =some id∨(oT m mv)[id]? =some (m+id):=by
 unfold oT
 rw[iT (by simpa using h),fU]
 simp only[List.getElem?_range h,Option.map_some]
 cases ky mv id with
 | true=>exact .inr rfl
 | false=>exact .inl rfl
end
section
variable {P:Program} {A:cK} {w w':World} {I I' I2:Nat→Prop} {μ β β':Nat→Option Nat} {hp hp' hp0:Nat→Option an} {C:ae} {B:Nat} {M:Nat→Prop} {w0:Start}
theorem GA (p:Nat→Prop) (h: ∃n,p n): ∃n,p n∧∀m,p m→n≤m:=by
 obtain ⟨n,hn⟩:=h
 induction n using Nat.strongRecOn with
 | _ n ih=>
  by_cases hx: ∃m,m<n∧p m
  ·obtain ⟨m,hm,hp⟩:=hx
   exact ih m hm hp
  ·exact ⟨n,hn,fun m hm=>Nat.le_of_not_lt fun aQ=>hx ⟨m,aQ,hm⟩⟩
open Classical in
theorem ac4 {c:Code} {Q:Exit→Act→World→Prop} (J:Nat→Act→World→Prop) (h0: ∀a w,¬J 0 a w) (round: ∀n a w,J (n+1) a w→c.wp P (Exit.then (J n) Q) a w) {n:Nat} {a:Act} {w:World} (h:J n a w):
  (Code.loop c).wp P Q a w:=by
 refine wp_loop (fun a w=> ∃n,J n a w) (fun a w=>if h: ∃n,J n a w then (GA _ h).choose else 0) ⟨n,h⟩ fun a w hJ=> ?_
 obtain ⟨h1,U⟩:=(GA _ hJ).choose_spec
 generalize hk:(GA _ hJ).choose=k at h1 U
 cases k with
 | zero=>exact absurd h1 (h0 a w)
 | succ k=>
  refine wp_mono (round k a w h1) fun e a' w' he=> ?_
  cases e with
  | normal=>
   have hex: ∃n,J n a' w':=⟨k,he⟩
   refine ⟨hex,?_⟩
   have h3:=(GA _ hex).choose_spec.2 k he
   rw[sJ hex,sJ hJ,hk]
   omega
  | _=>exact he
def yj:Out→Exit
 | .norm=> .normal
 | .exit id=> .exit id
 | .ret=> .ret
def Inv (P:Program) (E:FuncId→Bool) (G:Nat→V) (B:Nat) (M:Nat→Prop) (w0:Start) (μ:Nat→Option Nat) (hp0:Nat→Option an) (n:Nat) (a:Act) (w:World) (st:St):Prop:=
 ∃I β,aH P w I β st.hp B M w0∧jm P E G w I β n a st∧lC w0.w w0.I μ hp0 w I β st.hp
theorem Inv.canon {E:FuncId→Bool} {G:Nat→V} {n m:Nat} {a:Act} {st:St} {live:List Nat} (h:Inv P E G B M w0 μ hp0 n a w st) (hm: ∀id blk,hp0 id=some blk→id<m) (jH: ∀id e es aq,hp0 id=some (.nest e es aq)→∀k,bI aq k=0):Inv P E G B M w0 μ hp0 n a w (canon m live st):=by
 obtain ⟨I,β,S,hA,hE⟩:=h
 obtain ⟨β',a,b,c⟩:=ac2 (live:=live) S hA hE hm jH
 exact ⟨I,β',a,b,c⟩
theorem GB: ∀{l:List BS} {ds:List V},(eM l ds).length=l.length
 | [],_=>rfl
 | b::l,ds=>by simp only[eM,List.length_cons,GB]
theorem Inv.enter {A:cK} {E:FuncId→Bool} {G:Nat→V} {n f:Nat} {ds:List V} {a:Act} (kN:rm (oT (A.sin f).ba.length (A.mv f))=true) (h:Inv P E G B M w0 μ hp0 n a w (bu (A.sin f) ds)) (hm: ∀id blk,hp0 id=some blk→id<(A.sin f).ba.length)
  (jH: ∀id e es aq,hp0 id=some (.nest e es aq)→∀k,bI aq k=0) (yk: ∀p,(A.sin f).ba.length≤p→(bu (A.sin f) ds).hp p=none):Inv P E G B M w0 μ hp0 n a w (Fj A f ds):=by
 unfold Fj
 split
 ·exact h
 ·obtain ⟨I,β,S,hA,hE⟩:=h
  obtain ⟨β',x,y,z⟩:=SL (m:=(A.sin f).ba.length) (ord:=oT (A.sin f).ba.length (A.mv f)) (live:=(A.sin f).bR.map (·.1)) (SN kN) (fun id ab=>(ac3 ab).imp (fun h=>h) fun h=>⟨_,h,yk _ (by omega)⟩) S hA hE hm jH
  exact ⟨I,β',x,y,z⟩
theorem Inv.reshape {E:FuncId→Bool} {G:Nat→V} {n m:Nat} {a:Act} {st:St} {S:Shape} {ds:List V} (h:Inv P E G B M w0 μ hp0 n a w st) (hs:jU m S st=some ds) (hm: ∀id blk,hp0 id=some blk→id<m):Inv P E G B M w0 μ hp0 n a w (bu S ds):=by
 obtain ⟨I,β,S1,hA,hE⟩:=h
 obtain ⟨r1,r2,_,r4⟩:=AM.reshape hs S1
 refine ⟨I,β,r1,⟨fun k=>r2 k _ (hA.sl k),hA.size,hA.defers,hA.aF⟩,⟨hE.dq,hE.cm,fun id blk ab=> ?_,fun id blk blk' b ab bJ hd hb=> ?_⟩⟩
 ·obtain ⟨rR,k1,k2,k3⟩:=hE.blk id blk ab
  obtain ⟨_,hle,_⟩:=Rv hs
  have hl:=hm id blk ab
  obtain ⟨ca,U⟩: ∃ca,(bu S ds).hp id=some ca:=by
   simp only[bu,mk,ig]
   exact ⟨_,bH (by rw[GB];omega)⟩
  by_cases hd:ca= .dead
  ·subst hd
   exact ⟨_,U,by cases blk<;>trivial,fun h=>absurd rfl h⟩
  ·obtain ⟨gZ,e1,e2,_⟩:=r4 id ca U hd
   rw[k1] at e1;cases e1
   exact ⟨_,U,an.le_trans k2 e2,fun _=>k3 (fun e=>hd (an.pU (e▸e2)))⟩
 ·obtain ⟨gZ,e1,e2,_⟩:=r4 id blk' bJ hd
  exact hE.size id blk gZ b ab e1 (fun e=>hd (an.pU (e▸e2))) hb
theorem lD.here (h:lD P A C) (f:Nat) (id:Nat):lD P (A.here f id) C:=by
 intro key ds es hh
 obtain ⟨fn,c,h1,U,h3⟩:=h key ds es hh
 refine ⟨fn,c,h1,U,fun w I μ vals a g b d=>(h3 w I μ vals a g b d).mono fun e w' hx=> ?_⟩
 obtain ⟨v,I2,cd,q1,q2⟩:=hx
 exact ⟨v,I2,cd,q1,⟨q2.xZ,q2.le,q2.res⟩⟩
theorem ac5 {a b:Out} (h:Fi a b=true):a=b:=by
 cases a<;>cases b<;>simp[Fi] at h<;>first|rfl|(subst h;rfl)
theorem SO {m:Nat} {r:Out × St}: ∀{l:List (Out × Shape)} {j:Nat} {e:Nat × List V},ways m j l r=some e→j≤e.1
 | [],j,e,h=>by cases h
 | (o,S)::l,j,e,h=>by
  simp only[ways] at h
  split at h
  ·cases h;exact bV _
  ·have:=SO h;omega
theorem Lx {m:Nat} {o:Out} {s:St} {out:Out} {st':St}: ∀{l:List (Out × Shape)} {k:Nat} {e:Nat × List V},ways m k l (o,s)=some e→mI k l e.1 e.2 (fun o st=>some (o,st))=some (out,st')→
  out=o∧∃S,jU m S s=some e.2∧st'=bu S e.2
 | [],k,e,h,_=>by cases h
 | (o',S)::l,k,e,h,U=>by
  simp only[ways] at h
  split at h
  ·rename_i ds hx
   cases h
   cases ho:Fi o' o with
   | false=>rw[ho] at hx;cases hx
   | true=>
    rw[ho] at hx
    have:=ac5 ho
    subst this
    cases l with
    | nil=>
     simp only[mI,ed,ko] at U
     exact ⟨U.1.symm,S,hx,U.2.symm⟩
    | cons p l=>
     simp only[mI,jQ,cond_true,ed,ko] at U
     exact ⟨U.1.symm,S,hx,U.2.symm⟩
  ·have p5:=SO h
   cases l with
   | nil=>cases h
   | cons p l=>
    have bD:Nat.beq e.1 k=false:=by
     cases hb:Nat.beq e.1 k with
     | false=>rfl
     | true=>rw[a9] at hb;omega
    simp only[mI,bD,cond_false] at U
    exact Lx h U
theorem ac6 (hC:lD P A C) (hP:iL P A) (nY:P.follows .mixedOrders=true) {f n m:Nat} (hm: ∀id blk,hp0 id=some blk→id<m) (jH: ∀id e es aq,hp0 id=some (.nest e es aq)→∀k,bI aq k=0):
  ∀(c:Code) {st st':St} {out:Out} {Q:Exit→Act→World→Prop} {a:Act} {w:World},exec P A C f n m c st=some (out,st')→Inv P A.idle A.aF B M w0 μ hp0 n a w st→
   (∀a' w',Inv P A.idle A.aF B M w0 μ hp0 n a' w' st'→Q (yj out) a' w')→c.wp P Q a w:=by
 intro c
 induction c with
 | skip=>
  intro st st' out Q a w h hI hQ
  simp only[exec,ed,ko] at h
  obtain ⟨rfl,rfl⟩:=h
  exact wp_skip (hQ a w hI)
 | exit id=>
  intro st st' out Q a w h hI hQ
  simp only[exec,ed,ko] at h
  obtain ⟨rfl,rfl⟩:=h
  exact wp_exit (hQ a w hI)
 | ret=>
  intro st st' out Q a w h hI hQ
  simp only[exec,ed,ko] at h
  obtain ⟨rfl,rfl⟩:=h
  exact wp_ret (hQ a w hI)
 | region id ops draw=>
  intro st st' out Q a w h hI hQ
  simp only[exec] at h
  obtain ⟨jn,h1,U⟩:=bind_some h
  simp only[ed,ko] at U
  obtain ⟨rfl,rfl⟩:=U
  obtain ⟨I,β,S,hA,hE⟩:=hI
  refine acV (hC.here f id) (hP.here f id) nY h1 S hA fun a' w' I' β' k1 k2 k3=> ?_
  obtain ⟨I2,l1,l2,l3⟩:=Sz (m:=m) (pur:=A.pur f id) k2 k3
  have hE2:=(hE.trans k1.Gf).trans l1.Gf
  exact hQ a' w' (Inv.canon ⟨I2,β',l2,l3,hE2⟩ hm jH)
 | seq x y iY iZ=>
  intro st st' out Q a w h hI hQ
  simp only[exec] at h
  obtain ⟨⟨o1,jn⟩,h1,U⟩:=bind_some h
  refine wp_seq (iY h1 hI fun a' w' j8=> ?_)
  cases o1 with
  | norm=>exact iZ U j8 hQ
  | exit id=>
   simp only[ed,ko] at U
   obtain ⟨rfl,rfl⟩:=U
   exact hQ a' w' j8
  | ret=>
   simp only[ed,ko] at U
   obtain ⟨rfl,rfl⟩:=U
   exact hQ a' w' j8
 | cond c x y iY iZ=>
  intro st st' out Q a w h hI hQ
  cases c with
  | tmp t=>
   have go: ∀{st st':St} {out:Out} {Q:Exit→Act→World→Prop} {a:Act} {w:World},(match st.sl t with
     | .bool b=>(bif b then exec P A C f n m x st else exec P A C f n m y st).bind fun r=>
      match r.1 with
      | .norm=>some (.norm,AM.canon m (A.join f t) r.2)
      | _=>some r
     | _=>none)=some (out,st')→Inv P A.idle A.aF B M w0 μ hp0 n a w st→(∀a' w',Inv P A.idle A.aF B M w0 μ hp0 n a' w' st'→Q (yj out) a' w')→(Code.cond (.tmp t) x y).wp P Q a w:=by
    intro st st' out Q a w h hI hQ
    cases hs:st.sl t<;>rw[hs] at h<;>simp only at h<;>first|(cases h;done)|skip
    rename_i b
    obtain ⟨⟨o1,jn⟩,h1,U⟩:=bind_some h
    obtain ⟨I,β,S,hA,hE⟩:=hI
    have fb:a.eval (.tmp t)= .bool b:=by
     have:=R7 hA hs
     simp[Act.eval,this]
    have fin: ∀a' w',Inv P A.idle A.aF B M w0 μ hp0 n a' w' jn→Q (yj o1) a' w':=by
     intro a' w' j8
     cases o1 with
     | norm=>
      simp only[ed,ko] at U
      obtain ⟨rfl,rfl⟩:=U
      exact hQ a' w' (j8.canon hm jH)
     | exit id=>
      simp only[ed,ko] at U
      obtain ⟨rfl,rfl⟩:=U
      exact hQ a' w' j8
     | ret=>
      simp only[ed,ko] at U
      obtain ⟨rfl,rfl⟩:=U
      exact hQ a' w' j8
    refine wp_cond fb ?_
    cases b with
    | true=>exact iY h1 ⟨I,β,S,hA,hE⟩ fin
    | false=>exact iZ h1 ⟨I,β,S,hA,hE⟩ fin
   simp only[exec] at h
   split at h
   ·exact go h hI hQ
   ·obtain ⟨ds,h1,U⟩:=bind_some h
    obtain ⟨e,h3,h4⟩:=bind_some U
    obtain ⟨⟨o1,s1⟩,h5,h6⟩:=bind_some h3
    obtain ⟨rfl,S',k1,rfl⟩:=Lx h6 h4
    exact go h5 (hI.reshape h1 hm) fun a' w' j8=>hQ a' w' (j8.reshape k1 hm)
  | const v=>
   cases v with
   | bool b=>
    simp only[exec] at h
    refine wp_cond (t:=b) rfl ?_
    cases b with
    | true=>exact iY h hI hQ
    | false=>exact iZ h hI hQ
   | _=>simp only[exec] at h;cases h
  | _=>simp only[exec] at h;cases h
 | block id c ih=>
  intro st st' out Q a w h hI hQ
  simp only[exec] at h
  obtain ⟨⟨o1,jn⟩,h1,U⟩:=bind_some h
  refine wp_block (ih h1 hI fun a' w' j8=> ?_)
  cases o1 with
  | norm=>
   simp only[ed,ko] at U
   obtain ⟨rfl,rfl⟩:=U
   exact hQ a' w' (j8.canon hm jH)
  | exit aG=>
   simp only at U
   cases hb:Nat.beq aG id with
   | true=>
    rw[hb] at U
    simp only[cond_true,ed,ko] at U
    obtain ⟨rfl,rfl⟩:=U
    rw[a9] at hb
    simp only[yj,Exit.inBlock,hb,cU]
    exact hQ a' w' (j8.canon hm jH)
   | false=>
    rw[hb] at U
    simp only[cond_false,ed,ko] at U
    obtain ⟨rfl,rfl⟩:=U
    have bD:aG≠id:=fun e=>by rw[e,jQ] at hb;cases hb
    simp only[yj,Exit.inBlock,bD,fS]
    exact hQ a' w' j8
  | ret=>
   simp only[ed,ko] at U
   obtain ⟨rfl,rfl⟩:=U
   exact hQ a' w' j8
 | loop c ih=>
  intro st st' out Q a w h hI hQ
  simp only[exec] at h
  split at h
  ·cases h
  ·rename_i S hS
   obtain ⟨ds,h1,U⟩:=bind_some h
   obtain ⟨e,h3,h4⟩:=bind_some U
   obtain ⟨k,hk⟩:=xh h3
   refine ac4 (J:=fun k a w=> ∃ds,Inv P A.idle A.aF B M w0 μ hp0 n a w (bu S.1 ds)∧fG (fun ds=>nH m S.1 S.2 (exec P A C f n m c (bu S.1 ds))) k ds=some e) (fun a w ⟨s,_,h⟩=>by cases h) (fun k a w ⟨ds,hs,hk⟩=> ?_) ⟨ds,hI.reshape h1 hm,hk⟩
   simp only[fG] at hk
   obtain ⟨y,h5,h6⟩:=bind_some hk
   unfold nH at h5
   obtain ⟨⟨o1,s1⟩,h7,h8⟩:=bind_some h5
   refine ih h7 hs fun a' w' j8=> ?_
   have SP: ∀{e':Nat × List V},ways m 0 S.2 (o1,s1)=some e'→e'=e→Q (yj o1) a' w':=by
    intro e' q1 q2
    subst q2
    obtain ⟨rfl,S',k1,rfl⟩:=Lx q1 h4
    exact hQ a' w' (j8.reshape k1 hm)
   cases o1 with
   | norm=>
    obtain ⟨ds2,q1,q2⟩:=bind_some h8
    cases q2
    exact ⟨ds2,j8.reshape q1 hm,h6⟩
   | exit id=>
    obtain ⟨e',q1,q2⟩:=bind_some h8
    cases q2
    cases h6
    exact SP q1 rfl
   | ret=>
    obtain ⟨e',q1,q2⟩:=bind_some h8
    cases q2
    cases h6
    exact SP q1 rfl
 | _=>intro st st' out Q a w h;simp only[exec] at h;cases h
end
section
variable {P:Program} {A:cK} {w w':World} {I I' I2:Nat→Prop} {μ β β' cd:Nat→Option Nat} {hp hp' hp0:Nat→Option an} {C:ae} {B:Nat} {M:Nat→Prop} {w0:Start}
theorem GC (S:aH P w I β hp B M w0) {a:Act} {st:St} (hs:lr P w I β hp a st.sl): ∀{l:List ResultVar} {xs:List V} {rd:List Nat},(uH P st l).run C hp=some (xs,rd)→
  ∃vs:List Value,(l.mapM fun| .tmp t=>Pure.pure (a.tmps.getD t undef)| .cell x t=>do loadVar t (←asAddr (a.tmps.getD x undef)):Sem (List Value)).run P w= .ok vs w∧vs.length=xs.length∧l.length=xs.length∧
   ∀(j:Nat) v x,vs[j]? =some v→xs[j]? =some x→ao P w I β hp v x
 | [],xs,rd,h=>by
  cases h
  exact ⟨[],by simp,rfl,rfl,by simp⟩
 | .tmp t::l,xs,rd,h=>by
  simp only[uH] at h
  obtain ⟨ys,l1,l2,h1,U⟩:=lu h
  have h3:=J4 U
  subst h3
  obtain ⟨vs,a1,a2,a3,a4⟩:=GC S hs h1
  refine ⟨a.tmps.getD t undef::vs,by simp only[List.mapM_cons,Sem.run_bind,Sem.run_pure,Result.andThen_ok,a1],by simp[a2],by simp[a3],fun j v x hj hx=> ?_⟩
  cases j with
  | zero=>simp at hj hx;subst hj;subst hx;have:=hs t;simpa using this
  | succ j=>exact a4 j v x (by simpa using hj) (by simpa using hx)
 | .cell y t::l,xs,rd,h=>by
  simp only[uH] at h
  obtain ⟨r,l1,l2,h1,U⟩:=lu h
  obtain ⟨ys,l3,l4,h3,h4⟩:=lu U
  have h5:=J4 h4
  subst h5
  obtain ⟨v0,b1,b2,b3,ad,b4⟩:=Qr S (hs y) h1
  obtain ⟨vs,a1,a2,a3,a4⟩:=GC S hs h3
  refine ⟨v0::vs,?_,by simp[a2],by simp[a3],fun j v x hj hx=> ?_⟩
  ·have e1:(do loadVar t (←asAddr (a.tmps.getD y undef)):Sem Value).run P w= .ok v0 w:=by
    rw[b4] at b1⊢
    simpa[Instr.loadAt,Instr.sureAddr,asAddr] using b1
   simp only[List.mapM_cons,Sem.run_bind,e1,Result.andThen_ok,a1,Sem.run_pure]
  cases j with
  | zero=>simp at hj hx;subst hj;subst hx;exact b2
  | succ j=>exact a4 j v x (by simpa using hj) (by simpa using hx)
def vo:List Value→Value
 | [v]=>v
 | l=> .tuple l.toArray
theorem ac7 {vs:List Value} (h:vs.length≠1):vo vs= .tuple vs.toArray:=by
 match vs,h with
 | [],_=>rfl
 | [v],h=>simp at h
 | v::v2::l,_=>rfl
theorem ac8 {fn:Func} {a:Act} {st:St} (S:aH P w I β st.hp B M w0) (hs:lr P w I β st.hp a st.sl) {xs:List V} {rd:List Nat} (h:(uH P st fn.results.toList).run C st.hp=some (xs,rd)):
  ∃vs:List Value,(results fn a.tmps).run P w= .ok (vo vs) w∧vs.length=xs.length∧
   ∀(j:Nat) v x,vs[j]? =some v→xs[j]? =some x→ao P w I β st.hp v x:=by
 obtain ⟨vs,a1,a2,_,a4⟩:=GC S hs h
 refine ⟨vs,?_,a2,a4⟩
 unfold results
 rw[Array.mapM_eq_mapM_toList]
 simp only[map_eq_pure_bind,bind_assoc,pure_bind,Sem.run_bind]
 refine (congrArg (fun r:Result (List Value)=>r.andThen _) a1).trans ?_
 simp only[Result.andThen_ok,Sem.run_pure]
 match vs with
 | []=>simp[vo]
 | [v]=>simp[vo]
 | v::v2::l=>simp[vo]
theorem SQ: ∀{args:List V} {i k:Nat},dN (nJ i args) k=if i≤k then args[k-i]? else none
 | [],i,k=>by simp[nJ,dN]
 | v::vs,i,k=>by
  simp only[nJ,dN]
  cases hb:Nat.beq k i with
  | true=>
   rw[a9] at hb
   subst hb
   simp
  | false=>
   have bD:k≠i:=fun e=>by rw[e,jQ] at hb;cases hb
   simp only[cond_false,SQ]
   by_cases h:i≤k
   ·rw[ag (by omega),ag h]
    obtain ⟨d,rfl⟩: ∃d,k=i+1+d:=⟨k-(i+1),by omega⟩
    rw[show i+1+d-(i+1)=d by omega,show i+1+d-i=d+1 by omega]
    rfl
   ·rw[ah (by omega),ah h]
theorem Ly: ∀{l:List (Nat × VS)} {ds:List V} {i k:Nat},kD i l=true→dN (fq l ds) k=if i≤k then (fH (l.map (·.2)) ds)[k-i]? else none
 | [],ds,i,k,_=>by simp[fq,fH,dN]
 | (q,s)::l,ds,i,k,h=>by
  simp only[kD,aO,a9] at h
  obtain ⟨rfl,h⟩:=h
  simp only[fq,dN,cr,fH]
  cases hb:Nat.beq k q with
  | true=>
   rw[a9] at hb
   subst hb
   simp
  | false=>
   have bD:k≠q:=fun e=>by rw[e,jQ] at hb;cases hb
   simp only[cond_false]
   rw[Ly h]
   by_cases h:q≤k
   ·rw[ag (by omega),ag h]
    obtain ⟨d,rfl⟩: ∃d,k=q+1+d:=⟨k-(q+1),by omega⟩
    rw[show q+1+d-(q+1)=d by omega,show q+1+d-q=d+1 by omega]
    rfl
   ·rw[ah (by omega),ah h]
theorem SR: ∀{l:List (Nat × VS)} {ds:List V},(fq l ds).map (·.2)=fH (l.map (·.2)) ds
 | [],_=>rfl
 | (q,s)::l,ds=>by simp only[fq,cr,fH,SR]
theorem LA: ∀{l:List VS} {ds:List V},(fH l ds).length=l.length
 | [],_=>rfl
 | s::l,ds=>by simp only[fH,List.length_cons,LA]
theorem SS: ∀{l:List (Nat × VS)} {ds:List V},(fq l ds).length=l.length
 | [],_=>rfl
 | (q,s)::l,ds=>by simp only[fq,List.length_cons,SS]
theorem ac9 {vals:List Value} {l:List (Nat × V)} (hl:vals.length=l.length) (h: ∀(j:Nat) v y,vals[j]? =some v→(l.map (·.2))[j]? =some y→ao P w I β hp v y):ao P w I β hp (vo vals) (pS l):=by
 match l,hl,h with
 | [],hl,h=>
  obtain rfl:vals=[]:=lO hl
  exact .bn rfl fun j v x _ hx=>by simp at hx
 | [(k,y)],hl,h=>
  match vals,hl,h with
  | [v],_,h=>exact h 0 v y rfl rfl
 | a::b::l,hl,h=>
  have bD:vals.length≠1:=by rw[hl];simp
  rw[ac7 bD]
  simp only[pS]
  exact .bn (by simp[hl]) fun j v y hj hy=>h j v y (by simpa using hj) hy
theorem ada {l:List BS} {ds:List V} {j:Nat} {e:TypeId} {es:List V} {aq:List Nat} (h:(eM l ds)[j]? =some (.nest e es aq)) (k:Nat):bI aq k=0:=by
 obtain ⟨b,fx,_,U⟩:=Lb h
 cases b<;>simp only[fX] at U<;>cases U
 match k with
 | 0=>rfl
 | 1=>rfl
 | 2=>rfl
 | _+3=>rfl
theorem adb {f n m:Nat} {fn:Func} {a:Act} {st:St} {es:List V} {rd:List Nat} (hm: ∀id blk,hp0 id=some blk→id<m) (jH: ∀id e es aq,hp0 id=some (.nest e es aq)→∀k,bI aq k=0)
  (hI:Inv P A.idle A.aF B M w0 μ hp0 n a w st) (pc:kD 0 (A.gD f).bR=true) (bd:(A.gD f).bR.length=fn.results.size) (h:(xy P A f fn m st).run C st.hp=some (es,rd)):
  ∃v I2 cd,(results fn a.tmps).run P w= .ok v w∧aH P w I2 cd (bu (A.so f es) (A.lv f es)).hp B M w0∧lC w0.w w0.I μ hp0 w I2 cd (bu (A.so f es) (A.lv f es)).hp∧ao P w I2 cd (bu (A.so f es) (A.lv f es)).hp v (pS (fq (A.so f es).bR (A.lv f es))):=by
 unfold xy at h
 obtain ⟨xs,l1,l2,h1,U⟩:=lu h
 obtain ⟨I,β,S,hA,hE⟩:=hI
 obtain ⟨vals,e1,e2,e3⟩:=ac8 S hA.sl h1
 have e4:fn.results.size=xs.length:=by
  obtain ⟨_,_,_,q,_⟩:=GC S hA.sl h1
  simpa using q
 have fin: ∀(Sx:Shape) (es:List V),kD 0 Sx.bR=true→Sx.bR.length=fn.results.size→jU m Sx (canon m (List.range xs.length) (freeze m (A.uA f) ⟨jA (nJ 0 xs),st.hp,st.nb⟩))=some es→
   ∃v I2 cd,(results fn a.tmps).run P w= .ok v w∧aH P w I2 cd (bu Sx es).hp B M w0∧lC w0.w w0.I μ hp0 w I2 cd (bu Sx es).hp∧ao P w I2 cd (bu Sx es).hp v (pS (fq Sx.bR es)):=by
  intro Sx es pc bd vp
  have hA0:jm P A.idle A.aF w I β vals.length ⟨vals.toArray,[]⟩ ⟨jA (nJ 0 xs),st.hp,st.nb⟩:=by
   refine ⟨fun k=> ?_,by simp,by simp,hA.aF⟩
   change ao P w I β st.hp _ (jA (nJ 0 xs) k)
   unfold jA
   rw[SQ]
   simp only[lf,cU,Nat.sub_zero]
   cases hk:xs[k]? with
   | none=>exact .undef
   | some x=>
    have iK:k<vals.length:=by rw[e2];exact (bw.1 hk).1
    have:=e3 k vals[k] x (bH iK) hk
    have e5:(vals.toArray).getD k undef=vals[k]:=by simp[iK]
    rw[Option.getD_some]
    exact e5▸this
  obtain ⟨I2,k1,k2,k3⟩:=Sz (st:=⟨jA (nJ 0 xs),st.hp,st.nb⟩) (m:=m) (pur:=A.uA f) S hA0
  have hI2:Inv P A.idle A.aF B M w0 μ hp0 vals.length ⟨vals.toArray,[]⟩ w (freeze m (A.uA f) ⟨jA (nJ 0 xs),st.hp,st.nb⟩):=⟨I2,β,k2,k3,hE.trans k1.Gf⟩
  obtain ⟨I3,SU,q1,q2,q3⟩:=(hI2.canon (live:=List.range xs.length) hm jH).reshape vp hm
  refine ⟨vo vals,I3,SU,e1,q1,q3,ac9 (by rw[SS,bd,e4,e2]) fun j v y hj hy=> ?_⟩
  have hv:=q2.sl j
  have cp:=(bw.1 hj).1
  have e5:(vals.toArray).getD j undef=v:=by
   have:=(bw.1 hj).2
   simp[cp,this]
  change ao P w I3 SU _ ((vals.toArray).getD j undef) (jA (fq Sx.bR _) j) at hv
  rw[e5] at hv
  unfold jA at hv
  rw[Ly pc] at hv
  simp only[lf,cU,Nat.sub_zero] at hv
  rw[SR] at hy
  rw[hy] at hv
  exact hv
 unfold cK.so cK.lv
 cases cq:A.alt f with
 | none=>
  rw[cq] at U
  simp only at U⊢
  split at U
  ·rename_i fx vp
   have:=aU U
   subst this
   exact fin _ _ pc bd vp
  ·cases U
 | some S2=>
  rw[cq] at U
  simp only at U⊢
  split at U
  ·rename_i fx vp
   have:=aU U
   subst this
   exact fin _ _ pc bd vp
  ·split at U
   ·rename_i fx vp
    obtain ⟨hc,h3⟩:=aK U
    simp only[aO,a9] at hc
    have:=aU h3
    subst this
    exact fin _ _ hc.1 hc.2 vp
   ·cases U
theorem ade (hC:lD P A C) (hP:iL P A) (nY:P.follows .mixedOrders=true):lD P A (rp P A C):=by
 intro f ds es h
 unfold rp at h
 cases hf:P.funcs[A.aP f]? with
 | none=>rw[hf] at h;cases h
 | some fn=>
  rw[hf] at h
  simp only at h
  cases hb:fn.body with
  | none=>rw[hb] at h;cases h
  | some c=>
   rw[hb] at h
   simp only at h
   cases hc:(kD 0 (A.sin f).bR&&(Nat.ble (A.sin f).bR.length fn.ntmps&&((A.sin f).ok&&(kD 0 (A.gD f).bR&&(Nat.beq (A.gD f).bR.length fn.results.size&&rm (oT (A.sin f).ba.length (A.mv f))))))) with
   | false=>rw[hc] at h;cases h
   | true=>
    rw[hc] at h
    simp only[cond_true] at h
    simp only[aO,a9,ej] at hc
    obtain ⟨kL,hnt,_,ye,bd,kN⟩:=hc
    obtain ⟨⟨out,st'⟩,h1,U⟩:=bind_some h
    refine ⟨fn,c,rfl,hb,fun w I μ vals hH hgl hl hv=> ?_⟩
    have adf:(∀id,out≠ .exit id)∧∃rd,(xy P A f fn (A.sin f).ba.length st').run C st'.hp=some (es,rd):=by
     cases out with
     | exit id=>cases U
     | norm=>
      refine ⟨by simp,?_⟩
      simp only[Ap] at U
      obtain ⟨⟨x,rd⟩,e1,e2⟩:=U
      simp only at e2
      subst e2
      exact ⟨rd,e1⟩
     | ret=>
      refine ⟨by simp,?_⟩
      simp only[Ap] at U
      obtain ⟨⟨x,rd⟩,e1,e2⟩:=U
      simp only at e2
      subst e2
      exact ⟨rd,e1⟩
    obtain ⟨bD,rd,K2⟩:=adf
    refine calls_of_wp_defers hf hb ?_
    have hm: ∀id blk,(bu (A.sin f) ds).hp id=some blk→id<(A.sin f).ba.length:=by
     intro id blk ab
     simp only[bu,mk,ig] at ab
     have:=(bw.1 ab).1
     rwa [GB] at this
    have jH: ∀id e es aq,(bu (A.sin f) ds).hp id=some (.nest e es aq)→∀k,bI aq k=0:=by
     intro id e es aq ab k
     simp only[bu,mk,ig] at ab
     exact ada ab k
    refine ac6 (w0:=⟨w,I⟩) (μ:=μ) (hp0:=(bu (A.sin f) ds).hp) (B:=w.heap.size) (M:=o9 P w μ (bu (A.sin f) ds).hp) hC hP nY hm jH c h1 ?_ ?_
    ·refine Inv.enter kN ?_ hm jH fun p hp=>by
      simp only[bu,mk,ig]
      rw[List.getElem?_eq_none_iff,GB]
      exact hp
     refine ⟨I,μ,⟨hH,fun _ _ _=>rfl,bV _,fun b h=> .inl h,⟨rfl,rfl⟩⟩,⟨fun k=> ?_,?_,by simp,hgl⟩,(Le.refl (P:=P) w I μ _).Gf⟩
     ·change ao P w I μ _ _ (jA (fq (A.sin f).bR ds) k)
      unfold jA
      rw[Ly kL]
      simp only[lf,cU,Nat.sub_zero]
      cases hk:(fH ((A.sin f).bR.map (·.2)) ds)[k]? with
      | none=>exact .undef
      | some x=>
       have iK:k<vals.length:=by
        have:=(bw.1 hk).1
        rw[LA,bt] at this
        rw[hl];exact this
       have:=hv k vals[k] x (bH iK) hk
       have e1:(vals.toArray++Array.replicate (fn.ntmps-vals.toArray.size) undef).getD k undef=vals[k]:=by
        simp[Array.getElem?_append,iK]
       rw[Option.getD_some]
       exact e1▸this
     ·simp
      omega
    ·intro a' w' hI
     obtain ⟨v,I2,cd,q1,q2,q3,q4⟩:=adb hm jH hI ye bd K2
     obtain ⟨_,_,_,hA,_⟩:=hI
     cases out with
     | exit id=>exact absurd rfl (bD id)
     | norm=>exact Lj hP q1 ⟨v,I2,cd,rfl,q2,q3,q4⟩ _ hA.defers
     | ret=>exact Lj hP q1 ⟨v,I2,cd,rfl,q2,q3,q4⟩ _ hA.defers
theorem SV (hP:iL P A) (nY:P.follows .mixedOrders=true): ∀n,lD P A (lW P A n)
 | 0=>fun _ _ _ h=>by cases h
 | n+1=>ade (SV hP nY n) hP nY
theorem adg (hP:iL P A) (nY:P.follows .mixedOrders=true):lD P A (Call P A):=by
 intro f ds es h
 have hn: ∃n,lW P A n f ds=some es:=by
  unfold Call at h
  split at h
  ·rename_i hex
   have:=hex.choose_spec.choose_spec
   rw[cT h] at this
   exact ⟨_,this⟩
  ·cases h
 obtain ⟨n,hn⟩:=hn
 exact SV hP nY n f ds es hn
end
section
variable {P:Program} {A:cK} {C:ae} {D:Nat→ae}
def BI (C:ae) (D:Nat→ae):Prop:= ∀f a r,C f a=some r→∃n,∀k,n≤k→D k f a=some r
theorem qc {α:Type} (h:BI C D) {hp:Nat→Option an}: ∀{p:Rd α} {r:α × List Nat},p.run C hp=some r→∃n,∀k,n≤k→p.run (D k) hp=some r
 | .ret a,r,e=>⟨0,fun _ _=>e⟩
 | .fail,r,e=>by cases e
 | .get id q,r,e=>by
  obtain ⟨x,h1,U⟩:=bind_some e
  obtain ⟨n,hn⟩:=qc h h1
  exact ⟨n,fun k hk=>by simp only[Rd.run,hn k hk,Option.bind_some];exact U⟩
 | .opt o q,r,e=>by
  obtain ⟨x,h1,U⟩:=bind_some e
  obtain ⟨n,hn⟩:=qc h U
  exact ⟨n,fun k hk=>by simp only[Rd.run,h1,Option.bind_some];exact hn k hk⟩
 | .live id ok q,r,e=>by
  simp only[Rd.run] at e
  cases hk:ok (gp (hp id)) with
  | false=>rw[hk] at e;cases e
  | true=>
   rw[hk] at e
   obtain ⟨x,h1,U⟩:=bind_some e
   obtain ⟨n,hn⟩:=qc h h1
   exact ⟨n,fun k fy=>by simp only[Rd.run,hk,cond_true,hn k fy,Option.bind_some];exact U⟩
 | .aE b q,r,e=>by
  obtain ⟨h1,U⟩:=aK e
  obtain ⟨n,hn⟩:=qc h U
  exact ⟨n,fun k hk=>by simp only[Rd.run,h1,cond_true];exact hn k hk⟩
 | .call f a q,r,e=>by
  obtain ⟨x,h1,U⟩:=bind_some e
  obtain ⟨n1,kL⟩:=h f a x h1
  obtain ⟨n2,ye⟩:=qc h U
  exact ⟨max n1 n2,fun k hk=>by simp only[Rd.run,kL k (by omega),Option.bind_some];exact ye k (by omega)⟩
 | .alt true x y,r,e=>qc (p:=x) h e
 | .alt false x y,r,e=>qc (p:=y) h e
theorem adh (h:BI C D) {n i nb:Nat} {ops:Array Oper} {o:Oper} {st:St} {r:St × List Nat × List Nat} (e:gY P A C n ops i o nb st=some r): ∃N,∀k,N≤k→gY P A (D k) n ops i o nb st=some r:=by
 unfold gY at e
 have go:(((fI P A st.sl i (nb+64*i) o).run C st.hp).bind fun r=>some ((⟨iC st.sl o.dst r.1.v,bP st.hp r.1.upd,st.nb⟩:St),rn r.2 r.1.upd,fY st.hp r.1.upd))=some r→
   ∃N,∀k,N≤k→(((fI P A st.sl i (nb+64*i) o).run (D k) st.hp).bind fun r=>some ((⟨iC st.sl o.dst r.1.v,bP st.hp r.1.upd,st.nb⟩:St),rn r.2 r.1.upd,fY st.hp r.1.upd))=some r:=by
  intro e
  obtain ⟨x,h1,U⟩:=bind_some e
  obtain ⟨N,hN⟩:=qc h h1
  exact ⟨N,fun k hk=>by rw[hN k hk];exact U⟩
 unfold gY
 cases hd:s0 o n with
 | false=>rw[hd] at e;cases e
 | true=>
  rw[hd] at e
  simp only[cond_true] at e⊢
  cases hg:o.guard with
  | none=>rw[hg] at e;exact go e
  | some gw=>
   obtain ⟨g,want⟩:=gw
   rw[hg] at e
   simp only at e⊢
   cases me:(ops[g]?).bind (·.dst) with
   | none=>rw[me] at e;cases e
   | some d=>
    rw[me] at e
    simp only at e⊢
    cases mU:lR (st.sl d) with
    | none=>rw[mU] at e;cases e
    | some ob=>
    rw[mU] at e
    cases ob with
    | none=>exact ⟨0,fun _ _=>e⟩
    | some b=>
    simp only at e⊢
    cases hb:b==want with
    | true=>rw[hb] at e;exact go e
    | false=>rw[hb] at e;exact ⟨0,fun _ _=>e⟩
theorem SW (h:BI C D) {n nb:Nat} {ops:Array Oper}: ∀{l:List (Nat × Oper)} {st:St} {log:Log} {r:St × Log},pT P A C n ops nb l st log=some r→∃N,∀k,N≤k→pT P A (D k) n ops nb l st log=some r
 | [],st,log,r,e=>⟨0,fun _ _=>e⟩
 | (i,o)::l,st,log,r,e=>by
  obtain ⟨x,h1,U⟩:=bind_some e
  obtain ⟨N1,pd⟩:=adh h h1
  obtain ⟨N2,rW⟩:=SW h U
  exact ⟨max N1 N2,fun k hk=>by simp only[pT,pd k (by omega),Option.bind_some];exact rW k (by omega)⟩
theorem SY {X R:Type} {step:X→Option (X ⊕ R)} {stepD:Nat→X→Option (X ⊕ R)} (hs: ∀x y,step x=some y→∃N,∀k,N≤k→stepD k x=some y): ∀(n:Nat) (x:X) (r:R),fG step n x=some r→∃N,∀k,N≤k→fG (stepD k) n x=some r
 | 0,x,r,e=>by cases e
 | n+1,x,r,e=>by
  simp only[fG] at e⊢
  obtain ⟨y,h1,U⟩:=bind_some e
  obtain ⟨N1,pd⟩:=hs x y h1
  cases y with
  | inl z=>
   obtain ⟨N2,rW⟩:=SY hs n z r U
   exact ⟨max N1 N2,fun k hk=>by rw[pd k (by omega)];exact rW k (by omega)⟩
  | inr q=>exact ⟨N1,fun k hk=>by rw[pd k hk];exact U⟩
theorem adi (h:BI C D) {f n m:Nat}: ∀(c:Code) {st:St} {r:Out × St},exec P A C f n m c st=some r→∃N,∀k,N≤k→exec P A (D k) f n m c st=some r:=by
 intro c
 induction c with
 | skip=>exact fun e=>⟨0,fun _ _=>e⟩
 | exit id=>exact fun e=>⟨0,fun _ _=>e⟩
 | ret=>exact fun e=>⟨0,fun _ _=>e⟩
 | region id ops draw=>
  intro st r e
  simp only[exec] at e⊢
  obtain ⟨x,h1,U⟩:=bind_some e
  obtain ⟨y,h3,h4⟩:=bind_some h1
  obtain ⟨N,hN⟩:=SW h h3
  refine ⟨N,fun k hk=> ?_⟩
  have:AS P (A.here f id) (D k) n ops draw st=some x:=by
   unfold AS
   rw[hN k hk]
   exact h4
  rw[this]
  exact U
 | seq x y iY iZ=>
  intro st r e
  simp only[exec] at e⊢
  obtain ⟨⟨o,s1⟩,h1,U⟩:=bind_some e
  obtain ⟨N1,pd⟩:=iY h1
  cases o with
  | norm=>
   obtain ⟨N2,rW⟩:=iZ U
   exact ⟨max N1 N2,fun k hk=>by rw[pd k (by omega)];exact rW k (by omega)⟩
  | exit id=>exact ⟨N1,fun k hk=>by rw[pd k hk];exact U⟩
  | ret=>exact ⟨N1,fun k hk=>by rw[pd k hk];exact U⟩
 | cond c x y iY iZ=>
  intro st r e
  cases c with
  | tmp t=>
   have go: ∀{st:St} {r:Out × St},(match st.sl t with
     | .bool b=>(bif b then exec P A C f n m x st else exec P A C f n m y st).bind fun r=>
      match r.1 with
      | .norm=>some (.norm,canon m (A.join f t) r.2)
      | _=>some r
     | _=>none)=some r→∃N,∀k,N≤k→(match st.sl t with
     | .bool b=>(bif b then exec P A (D k) f n m x st else exec P A (D k) f n m y st).bind fun r=>
      match r.1 with
      | .norm=>some (.norm,canon m (A.join f t) r.2)
      | _=>some r
     | _=>none)=some r:=by
    intro st r e
    cases hs:st.sl t<;>rw[hs] at e<;>simp only at e⊢ <;>first|(cases e;done)|skip
    rename_i b
    obtain ⟨x1,h1,U⟩:=bind_some e
    cases b with
    | true=>
     obtain ⟨N,hN⟩:=iY h1
     exact ⟨N,fun k hk=>by simp only[cond_true,hN k hk,Option.bind_some];exact U⟩
    | false=>
     obtain ⟨N,hN⟩:=iZ h1
     exact ⟨N,fun k hk=>by simp only[cond_false,hN k hk,Option.bind_some];exact U⟩
   simp only[exec] at e⊢
   split at e
   ·rename_i hS
    obtain ⟨N,hN⟩:=go e
    exact ⟨N,fun k hk=>hN k hk⟩
   ·rename_i S hS
    obtain ⟨ds,h1,U⟩:=bind_some e
    obtain ⟨e',h3,h4⟩:=bind_some U
    obtain ⟨r1,h5,h6⟩:=bind_some h3
    obtain ⟨N,hN⟩:=go h5
    refine ⟨N,fun k hk=> ?_⟩
    try rw[hS]
    simp only[h1,Option.bind_some]
    exact (congrArg (fun z:Option (Out × St)=>(z.bind fun r=>ways m 0 S.2 r).bind fun e=>mI 0 S.2 e.1 e.2 fun o st=>some (o,st)) (hN k hk)).trans (by simp only[Option.bind_some,h6];exact h4)
  | const v=>
   cases v with
   | bool b=>
    simp only[exec] at e⊢
    cases b with
    | true=>exact iY e
    | false=>exact iZ e
   | _=>simp only[exec] at e;cases e
  | _=>simp only[exec] at e;cases e
 | block id c ih=>
  intro st r e
  simp only[exec] at e⊢
  obtain ⟨x1,h1,U⟩:=bind_some e
  obtain ⟨N,hN⟩:=ih h1
  exact ⟨N,fun k hk=>by rw[hN k hk];exact U⟩
 | loop c ih=>
  intro st r e
  simp only[exec] at e⊢
  split at e
  ·cases e
  ·rename_i S hS
   obtain ⟨ds,h1,U⟩:=bind_some e
   obtain ⟨e',h3,h4⟩:=bind_some U
   obtain ⟨q,hq⟩:=xh h3
   obtain ⟨N,hN⟩:=SY (stepD:=fun k ds=>nH m S.1 S.2 (exec P A (D k) f n m c (bu S.1 ds))) (fun x y GD=>by
    unfold nH at GD⊢
    obtain ⟨z,h5,h6⟩:=bind_some GD
    obtain ⟨N,hN⟩:=ih h5
    exact ⟨N,fun k hk=>by rw[hN k hk];exact h6⟩) q ds e' hq
   refine ⟨N,fun k hk=> ?_⟩
   try rw[hS]
   simp only[h1,Option.bind_some]
   rw[Ax (hN k hk)]
   exact h4
 | _=>intro st r e;simp only[exec] at e;cases e
theorem LB (h:BI C D) {f:Nat} {ds es:List V} (e:rp P A C f ds=some es): ∃N,∀k,N≤k→rp P A (D k) f ds=some es:=by
 unfold rp at e⊢
 cases hf:P.funcs[A.aP f]? with
 | none=>rw[hf] at e;cases e
 | some fn=>
  rw[hf] at e
  simp only at e⊢
  cases hb:fn.body with
  | none=>rw[hb] at e;cases e
  | some c=>
   rw[hb] at e
   simp only at e⊢
   cases hc:(kD 0 (A.sin f).bR&&(Nat.ble (A.sin f).bR.length fn.ntmps&&((A.sin f).ok&&(kD 0 (A.gD f).bR&&(Nat.beq (A.gD f).bR.length fn.results.size&&rm (oT (A.sin f).ba.length (A.mv f))))))) with
   | false=>rw[hc] at e;cases e
   | true=>
    rw[hc] at e
    simp only[cond_true] at e⊢
    obtain ⟨⟨o,s1⟩,h1,U⟩:=bind_some e
    obtain ⟨N1,pd⟩:=adi h c h1
    cases o with
    | exit id=>cases U
    | norm=>
     simp only[Ap] at U
     obtain ⟨x,e1,e2⟩:=U
     obtain ⟨N2,rW⟩:=qc h e1
     exact ⟨max N1 N2,fun k hk=>by rw[pd k (by omega)];simp only[Option.bind_some,rW k (by omega),Option.map_some,e2]⟩
    | ret=>
     simp only[Ap] at U
     obtain ⟨x,e1,e2⟩:=U
     obtain ⟨N2,rW⟩:=qc h e1
     exact ⟨max N1 N2,fun k hk=>by rw[pd k (by omega)];simp only[Option.bind_some,rW k (by omega),Option.map_some,e2]⟩
theorem SZ: ∀n f a r,lW P A n f a=some r→lW P A (n+1) f a=some r
 | 0,f,a,r,h=>by cases h
 | n+1,f,a,r,h=>by
  obtain ⟨N,hN⟩:=LB (C:=lW P A n) (D:=fun _=>lW P A (n+1)) (fun f a r h=>⟨0,fun _ _=>SZ n f a r h⟩) h
  exact hN N (bV _)
theorem LC {n k:Nat} (hk:n≤k) {f:Nat} {a r:List V} (h:lW P A n f a=some r):lW P A k f a=some r:=by
 induction hk with
 | refl=>exact h
 | step _ ih=>exact SZ _ _ _ _ ih
theorem GF {f:Nat} {a r:List V}:Call P A f a=some r↔∃n,lW P A n f a=some r:=by
 constructor
 ·intro h
  unfold Call at h
  split at h
  ·rename_i hex
   have:=hex.choose_spec.choose_spec
   rw[cT h] at this
   exact ⟨_,this⟩
  ·cases h
 ·rintro ⟨n,hn⟩
  have hex: ∃n r,lW P A n f a=some r:=⟨n,r,hn⟩
  unfold Call
  rw[sJ hex]
  have U:=hex.choose_spec.choose_spec
  have h3:=LC (Nat.le_max_left n hex.choose) hn
  have h4:=LC (Nat.le_max_right n hex.choose) U
  rw[h3] at h4
  exact h4.symm
theorem adj (f:Nat) (a:List V):Call P A f a=rp P A (Call P A) f a:=by
 apply Option.ext
 intro r
 constructor
 ·intro h
  obtain ⟨n,hn⟩:=GF.1 h
  cases n with
  | zero=>cases hn
  | succ n=>
   obtain ⟨N,hN⟩:=LB (C:=lW P A n) (D:=fun _=>Call P A) (fun f a r h=>⟨0,fun _ _=>GF.2 ⟨n,h⟩⟩) hn
   exact hN N (bV _)
 ·intro h
  obtain ⟨N,hN⟩:=LB (C:=Call P A) (D:=lW P A) (fun f a r h=>by
   obtain ⟨n,hn⟩:=GF.1 h
   exact ⟨n,fun k hk=>LC hk hn⟩) h
  exact GF.2 ⟨N+1,hN N (bV _)⟩
end
end Go.AM
namespace Go.AM
open Go.ChangeShapes Go.WideShapes Go.RowKit
section
variable (P:Program)
inductive WT:TypeId→V→Prop
 | int {t:TypeId} {k:IntKind} {n:Int}:P.underlying t=some (.int k)→(Lit.int k n).wf=true→WT t (.int k n)
 | bool {t:TypeId} {b:Bool}:P.underlying t=some .bool→WT t (.bool b)
 | str {t:TypeId} {l:List UInt8}:P.underlying t=some .string→l.length≤maxLen→WT t (.str l)
 | list {t e:TypeId} {es:List V}:P.underlying t=some (.slice e)→es.length≤maxLen→
   (∀(i:Nat) x,es[i]? =some x→bO P e=true→∃xs,x= .agg xs∧xs.length=(bc P e).length)→
   (∀(i j:Nat) x t',es[i]? =some x→(bc P e)[j]? =some t'→WT t' (bQ P e x j))→WT t (.list e es)
def jO (t:TypeId) (x:V):Prop:=
 (bO P t=true→∃xs,x= .agg xs∧xs.length=(bc P t).length)∧∀(j:Nat) t',(bc P t)[j]? =some t'→WT P t' (bQ P t x j)
def qS:List TypeId→List V→Prop
 | [],[]=>True
 | t::ts,x::xs=>jO P t x∧qS ts xs
 | _,_=>False
def hasB (L:List TypeId) (t:TypeId):Bool:=L.any fun u=>Nat.beq u t
def GG (L:List TypeId):Nat→List Field→Bool
 | _,[]=>true
 | n,f::fs=>hasB L f.type&&(Nat.beq f.offset n&&(Nat.beq (P.cellsOf f.type) (bc P f.type).length&&GG L (n+P.cellsOf f.type) fs))
def BJ:List Nat→List Nat→Bool
 | [],[]=>true
 | a::l,b::m=>Nat.beq a b&&BJ l m
 | _,_=>false
def LD (L:List TypeId) (t:TypeId):Bool:=
 Nat.beq (P.cellsOf t) (bc P t).length&&
 match P.underlying t with
 | some (.int _)=>true
 | some .bool=>true
 | some .string=>true
 | some (.slice e)=>hasB L e&&cX P e
 | some (.struct fs)=>GG P L 0 fs.toList&&BJ (flat P t) (fs.toList.flatMap fun f=>bc P f.type)
 | some (.array n e)=>hasB L e&&(Nat.beq (P.cellsOf e) (bc P e).length&&BJ (flat P t) (List.replicate n (bc P e)).flatten)
 | _=>false
def BK (L:List TypeId):Bool:=L.all fun t=>LD P L t
end
theorem GH {L:List TypeId} {t:TypeId} (h:hasB L t=true):t∈L:=by
 obtain ⟨u,hu,U⟩:=kp.1 h
 rw[a9] at U
 exact U▸hu
theorem LF: ∀{l m:List Nat},BJ l m=true→l=m
 | [],[],_=>rfl
 | a::l,b::m,h=>by
  simp only[BJ,aO,a9] at h
  rw[h.1,LF h.2]
 | [],_::_,h=>by cases h
 | _::_,[],h=>by cases h
section
variable {P:Program} {H:Type} {enc:TypeId × Value→H} {w:World} {base:Nat} {spare:Nat→Bool} {held:Bool} {L:List TypeId}
def mg (w:World):Nat→Prop:=fun b=>b<w.heap.size
def nZ (P:Program) (w:World) (ts:List TypeId) (cs:List Value) (xs:List V):Prop:=
 cs.length=ts.length∧xs.length=ts.length∧∀(j:Nat) t',ts[j]? =some t'→∃v y,cs[j]? =some v∧xs[j]? =some y∧Pure P w (mg w) t' v y∧WT P t' y
theorem nZ.app {ts xq:List TypeId} {cs iJ:List Value} {xs S0:List V} (h:nZ P w ts cs xs) (h':nZ P w xq iJ S0):nZ P w (ts++xq) (cs++iJ) (xs++S0):=by
 obtain ⟨a,b,c⟩:=h
 obtain ⟨a',b',c'⟩:=h'
 refine ⟨by simp[a,a'],by simp[b,b'],fun j t' hj=> ?_⟩
 by_cases aQ:j<ts.length
 ·rw[iT aQ] at hj
  obtain ⟨v,y,e1,e2,e3⟩:=c j t' hj
  exact ⟨v,y,by rw[iT (by omega)];exact e1,by rw[iT (by omega)];exact e2,e3⟩
 ·rw[iU (by omega)] at hj
  obtain ⟨v,y,e1,e2,e3⟩:=c' _ t' hj
  exact ⟨v,y,by rw[iU (by omega),a];exact e1,by rw[iU (by omega),b];exact e2,e3⟩
theorem adk {w:World} {a:Addr} {v:Value} (h:w.cell? a=some v):a.spot=none∧a.block<w.heap.size:=by
 unfold World.cell? at h
 split at h
 ·rename_i hh
  split at h
  ·cases h
  ·rename_i hs
   exact ⟨by simpa using hs,(iz.1 hh).1⟩
 all_goals (first|cases h|skip)
theorem S3 {rd:TypeId→List Value→Option (DataW H × List MemPlace)} (cs:List Value)
  (ih: ∀t cs x,t∈L→rd t cs=some x→∃xs,nZ P w (bc P t) cs xs): ∀(fs:List Field) (n:Nat),GG P L n fs=true→
  (∀f∈fs,∃x,rd f.type ((cs.drop f.offset).take (P.cellsOf f.type))=some x)→∃m xs,n≤m∧nZ P w (fs.flatMap fun f=>bc P f.type) ((cs.drop n).take (m-n)) xs∧m-n=(fs.flatMap fun f=>bc P f.type).length
 | [],n,_,_=>⟨n,[],bV _,⟨by simp,rfl,by simp⟩,by simp⟩
 | f::fs,n,h,hx=>by
  simp only[GG,aO,a9] at h
  obtain ⟨h1,U,h3,h4⟩:=h
  obtain ⟨x,hxf⟩:=hx f (by simp)
  obtain ⟨xs,gI⟩:=ih _ _ _ (GH h1) hxf
  obtain ⟨m,ys,hm,rX,Lo⟩:=S3 cs ih fs (n+P.cellsOf f.type) h4 fun g hg=>hx g (by simp[hg])
  refine ⟨m,xs++ys,by omega,?_,by simp only[mE,cB];omega⟩
  have:=gI.app rX
  rw[mE]
  rw[U] at this
  have e:(cs.drop n).take (m-n)=(cs.drop n).take (P.cellsOf f.type)++(cs.drop (n+P.cellsOf f.type)).take (m-(n+P.cellsOf f.type)):=by
   rw[show m-n=P.cellsOf f.type+(m-(n+P.cellsOf f.type)) by omega,List.take_add,pL]
  rw[e]
  exact this
theorem S4 {rd:List Value→Option (DataW H × List MemPlace)} (cs:List Value) {e:TypeId} (hs:P.cellsOf e=(bc P e).length)
  (ih: ∀cs x,rd cs=some x→∃xs,nZ P w (bc P e) cs xs): ∀(n:Nat),
  (∀i,i<n→∃x,rd ((cs.drop (i*P.cellsOf e)).take (P.cellsOf e))=some x)→∃xs,nZ P w (List.replicate n (bc P e)).flatten (cs.take (n*P.cellsOf e)) xs
 | 0,_=>⟨[],by simp,rfl,by simp⟩
 | n+1,hx=>by
  obtain ⟨xs,gI⟩:=S4 cs hs ih n fun i hi=>hx i (by omega)
  obtain ⟨x,BD⟩:=hx n (by omega)
  obtain ⟨ys,rX⟩:=ih _ _ BD
  refine ⟨xs++ys,?_⟩
  rw[List.replicate_succ',List.flatten_append]
  have:=gI.app rX
  rw[dA,Nat.one_mul,List.take_add]
  simpa using this
theorem GI (hL:BK P L=true): ∀(fuel:Nat) (t:TypeId) (cs:List Value) (x:DataW H × List MemPlace),t∈L→DataW.trod enc P w base spare held fuel t cs=some x→
  ∃xs,nZ P w (bc P t) cs xs
 | 0,_,_,_,_,h=>by cases h
 | fuel+1,t,cs,x,ht,h=>by
  have hg:=fm.1 hL t ht
  unfold LD at hg
  rw[aO,a9] at hg
  obtain ⟨hc,hg⟩:=hg
  have one:bO P t=false→bc P t=[t]:=fun h=>by simp[bc,h]
  cases hu:P.underlying t with
  | none=>rw[hu] at hg;cases hg
  | some d=>
   rw[hu] at hg
   cases d with
   | int k=>
    obtain ⟨n,rfl,rfl,rY⟩:=DataW.trod_int hu h
    rw[one (by simp[bO,hu])]
    exact ⟨[.int k n],rfl,rfl,fun j t' hj=>by
     cases j with
     | zero=>cases hj;exact ⟨_,_,rfl,rfl,.int hu,.int hu rY⟩
     | succ j=>simp at hj⟩
   | bool=>
    obtain ⟨b,rfl,rfl⟩:=DataW.trod_bool hu h
    rw[one (by simp[bO,hu])]
    exact ⟨[.bool b],rfl,rfl,fun j t' hj=>by
     cases j with
     | zero=>cases hj;exact ⟨_,_,rfl,rfl,.bool hu,.bool hu⟩
     | succ j=>simp at hj⟩
   | string=>
    obtain ⟨s,rfl,rfl,hl⟩:=DataW.trod_string hu h
    rw[one (by simp[bO,hu])]
    exact ⟨[.str s.data.toList],rfl,rfl,fun j t' hj=>by
     cases j with
     | zero=>cases hj;exact ⟨_,_,rfl,rfl,.str hu rfl,.str hu (by simpa using hl)⟩
     | succ j=>simp at hj⟩
   | slice e=>
    simp only[aO] at hg
    obtain ⟨he,ay⟩:=hg
    rw[one (by simp[bO,hu])]
    have single: ∀v y,cs=[v]→Pure P w (mg w) t v y→WT P t y→∃xs,nZ P w [t] cs xs:=by
     rintro v y rfl a b
     exact ⟨[y],rfl,rfl,fun j t' hj=>by
      cases j with
      | zero=>cases hj;exact ⟨_,_,rfl,rfl,a,b⟩
      | succ j=>simp at hj⟩
    rcases DataW.trod_slice hu h with ⟨rfl,rfl⟩|⟨a,len,cap,elems,rest,n,hn,rfl,rfl,hb,hl,hm,hlen,cY,_,_⟩
    ·exact single _ _ rfl (.nil hu) (.list hu (by simp) (by simp) (by simp))
    ·cases hn
     have jY:=(kG ay).2
     have QY:P.cellsOf e=(bc P e).length:=(fL ay).symm
     have key: ∀i,i<len→∃iJ xs,w.cells? base (a.add (i*P.cellsOf e)) (P.cellsOf e)=some iJ∧nZ P w (bc P e) iJ xs:=by
      intro i hi
      have h1:=cY i hi
      rw[bH (by omega)] at h1
      obtain ⟨iJ,U,h3⟩:=Option.bind_eq_some_iff.1 h1
      obtain ⟨xs,gI⟩:=GI hL fuel e iJ _ (GH he) h3
      exact ⟨iJ,xs,U,gI⟩
     by_cases h0:len=0
     ·subst h0
      exact single _ _ rfl (.emp hu) (.list hu (by simp) (by simp) (by simp))
     ·have ib:a.spot=none∧a.block<w.heap.size:=by
       obtain ⟨iJ,xs,U,_⟩:=key 0 (by omega)
       obtain ⟨_,h3,h4⟩:=World.cells?_some U
       have h5:=h4 0 jY
       rw[bH (by omega)] at h5
       have:=adk h5
       simpa[Addr.add] using this
      have hF: ∃(F:Nat→List Value) (X:Nat→List V),∀i,i<len→w.cells? base (a.add (i*P.cellsOf e)) (P.cellsOf e)=some (F i)∧nZ P w (bc P e) (F i) (X i):=by
       refine ⟨fun i=>if hi:i<len then (key i hi).choose else [],fun i=>if hi:i<len then (key i hi).choose_spec.choose else [],fun i hi=> ?_⟩
       simp only[sJ hi]
       exact (key i hi).choose_spec.choose_spec
      obtain ⟨F,X,LG⟩:=hF
      have hx: ∀(i j:Nat) y t',((List.range len).map fun i=>cA P e (X i))[i]? =some y→(bc P e)[j]? =some t'→i<len∧∃v,(F i)[j]? =some v∧Pure P w (mg w) t' v (bQ P e y j)∧WT P t' (bQ P e y j):=by
       intro i j y t' hy hj
       have hi:i<len:=by
        have:=(bw.1 hy).1
        simpa using this
       refine ⟨hi,?_⟩
       simp[List.getElem?_range hi] at hy
       obtain ⟨c1,c2,c3⟩:=(LG i hi).2
       obtain ⟨v,z,d1,d2,d3,d4⟩:=c3 j t' hj
       have:bQ P e y j=z:=by
        rw[←hy]
        unfold bQ cA
        cases ha:bO P e with
        | true=>
         simp only[cond_true,V.cell]
         rw[uU _ _ _ d2]
        | false=>
         simp only[cond_false]
         have:bc P e=[e]:=by simp[bc,ha]
         rw[this] at hj
         cases j with
         | zero=>rw[uU _ _ _ d2]
         | succ j=>simp at hj
       rw[this]
       exact ⟨v,d1,d3,d4⟩
      have gr: ∀i j,i<len→j<P.cellsOf e→w.cell? ⟨a.block,a.off+(i*P.cellsOf e+j),none⟩=some ((F i).getD j undef):=by
       intro i j hi hj
       obtain ⟨h1,U⟩:=LG i hi
       obtain ⟨_,h3,h4⟩:=World.cells?_some h1
       have h5:=h4 j hj
       rw[Go.Deep.add_add] at h5
       have e1:a.add (i*P.cellsOf e+j)=⟨a.block,a.off+(i*P.cellsOf e+j),none⟩:=by
        obtain ⟨b,o,s⟩:=a
        simp only at ib
        rw[ib.1]
        exact nP ..
       rw[e1] at h5
       rw[h5,gW,bH (by omega)]
       rfl
      have ha:a=⟨a.block,a.off,none⟩:=by
       obtain ⟨b,o,s⟩:=a
       simp only at ib
       rw[ib.1]
      refine single (.slice (some a) len cap) (.list e ((List.range len).map fun i=>cA P e (X i))) rfl ?_ ?_
      ·rw[ha]
       refine .list (fun i j=>(F i).getD j undef) hu (by simp) hl (fun _=>ib.2) gr ?_
       intro i j y t' hy hj
       obtain ⟨hi,v,d1,d2,_⟩:=hx i j y t' hy hj
       rw[gW,d1]
       exact d2
      ·refine .list hu (by simp;omega) ?_ ?_
       ·intro i y hy GJ
        have hi:i<len:=by
         have:=(bw.1 hy).1
         simpa using this
        simp[List.getElem?_range hi] at hy
        rw[←hy]
        exact ⟨X i,by simp[cA,GJ],(LG i hi).2.2.1⟩
       ·intro i j y t' hy hj
        obtain ⟨_,v,_,_,d3⟩:=hx i j y t' hy hj
        exact d3
   | struct fs=>
    simp only[aO] at hg
    obtain ⟨xs,n,hn,rfl,hlen,mS,hx⟩:=DataW.trod_struct hu h
    cases hn
    have het:bc P t=fs.toList.flatMap fun f=>bc P f.type:=by
     rw[←LF hg.2]
     simp[bc,bO,hu]
    obtain ⟨m,ys,_,rX,hm⟩:=S3 (w:=w) (rd:=fun t cs=>DataW.trod enc P w base spare held fuel t cs) cs (fun t cs x a b=>GI hL fuel t cs x a b) fs.toList 0 hg.1 (by
     intro f hf
     obtain ⟨i,hi⟩:=sL hf
     rw[sM] at hi
     have rN:i<fs.size:=(iz.1 hi).1
     exact ⟨_,(hx i f hi).trans (bH (by omega))⟩)
    rw[het]
    refine ⟨ys,?_⟩
    have:(cs.drop 0).take (m-0)=cs:=by
     rw[dK,hm,←het,←hc,←hlen,qV]
    rw[this] at rX
    exact rX
   | array n e=>
    simp only[aO,a9] at hg
    obtain ⟨xs,m,hn,rfl,hlen,mS,hx⟩:=DataW.trod_array hu h
    cases hn
    have het:bc P t=(List.replicate n (bc P e)).flatten:=by
     rw[←LF hg.2.2]
     simp[bc,bO,hu]
    obtain ⟨ys,rX⟩:=S4 (w:=w) (rd:=DataW.trod enc P w base spare held fuel e) cs hg.2.1 (fun cs x b=>GI hL fuel e cs x (GH hg.1) b) n (by
     intro i hi
     exact ⟨_,(hx i hi).trans (bH (by omega))⟩)
    rw[het]
    refine ⟨ys,?_⟩
    have:cs.take (n*P.cellsOf e)=cs:=by
     have:n*P.cellsOf e=cs.length:=by
      rw[hlen,hc,het,hg.2.1]
      simp
     rw[this,qV]
    rw[this] at rX
    exact rX
   | _=>cases hg
end
section
variable {P:Program} {H:Type} {enc:TypeId × Value→H} {w:World} {L:List TypeId}
theorem adl {base LH:Nat} {spare:Nat→Bool} {held:Bool} {r:Reach} {β:Nat→Option Nat} {hp:Nat→Option an} (hL:BK P L=true) {t:TypeId} {v:Value} {d:DataW H} {ps:List MemPlace} (ht:t∈L) (fe:Value.okWide P w r LH t v)
  (h:DataW.Trod enc P w base spare held t v d ps): ∃x,ao P w (mg w) β hp v x∧jO P t x:=by
 obtain ⟨fuel,hf⟩:=h
 obtain ⟨xs,c1,c2,c3⟩:=GI hL fuel t _ _ ht hf
 have hg:=fm.1 hL t ht
 unfold LD at hg
 rw[aO,a9] at hg
 obtain ⟨_,hg⟩:=hg
 have GJ:bO P t=true→∃x,ao P w (mg w) β hp v x∧jO P t x:=by
  intro ha
  have hv: ∃cs,v= .agg cs:=by
   unfold Value.okWide at fe
   unfold bO at ha
   split at fe
   ·obtain ⟨cs,e,_⟩:=fe;exact ⟨cs,e⟩
   ·obtain ⟨cs,e,_⟩:=fe;exact ⟨cs,e⟩
   ·split at ha<;>simp_all
  obtain ⟨cs,rfl⟩:=hv
  refine ⟨.agg xs,.agg (by simpa[Value.cells] using c1.trans c2.symm) fun j v x hv hx=> ?_,fun _=>⟨xs,rfl,c2⟩,fun j t' hj=> ?_⟩
  ·have hj:j<(bc P t).length:=by rw[←c2];exact (bw.1 hx).1
   obtain ⟨v',y,e1,e2,e3,_⟩:=c3 j _ (bH hj)
   rw[hx] at e2
   cases e2
   have:cs[j]? =some v':=by simpa[Value.cells] using e1
   rw[hv] at this
   cases this
   exact .rr e3
  ·obtain ⟨v',y,e1,e2,_,e4⟩:=c3 j t' hj
   have:bQ P t (.agg xs) j=y:=by
    simp only[bQ,ha,cond_true,V.cell]
    exact uU _ _ _ e2
   rw[this]
   exact e4
 have rK:bO P t=false→v.cells= #[v]→∃x,ao P w (mg w) β hp v x∧jO P t x:=by
  intro ha u3
  have he:bc P t=[t]:=by simp[bc,ha]
  rw[he] at c1 c2 c3
  obtain ⟨v',y,e1,e2,e3,e4⟩:=c3 0 t rfl
  rw[u3] at e1
  cases e1
  refine ⟨y,.rr e3,⟨fun h=>absurd (ha.symm.trans h) (by simp),fun j t' hj=> ?_⟩⟩
  rw[he] at hj
  cases j with
  | succ j=>simp at hj
  | zero=>
   cases hj
   simpa[bQ,ha] using e4
 unfold Value.okWide at fe
 cases hu:P.underlying t with
 | none=>rw[hu] at hg;cases hg
 | some dsc=>
  rw[hu] at hg fe
  cases dsc with
  | int k=>
   refine rK (by simp[bO,hu]) ?_
   simp only[Cell.okWide,Cell.ok,hu] at fe
   cases v<;>first|rfl|(simp at fe;done)|exact fe.elim
  | bool=>
   refine rK (by simp[bO,hu]) ?_
   simp only[Cell.okWide,Cell.ok,hu] at fe
   cases v<;>first|rfl|(simp at fe;done)|exact fe.elim
  | string=>
   refine rK (by simp[bO,hu]) ?_
   simp only[Cell.okWide,Cell.ok,hu] at fe
   cases v<;>first|rfl|(simp at fe;done)|exact fe.elim
  | slice e=>
   refine rK (by simp[bO,hu]) ?_
   simp only[Cell.okWide,Cell.ok,hu] at fe
   cases v<;>first|rfl|(simp at fe;done)|exact fe.elim
  | struct fs=>exact GJ (by simp[bO,hu])
  | array n e=>exact GJ (by simp[bO,hu])
  | _=>cases hg
theorem S5 {base LH:Nat} {spare:Nat→Bool} {held:Bool} {r:Reach} {β:Nat→Option Nat} {hp:Nat→Option an} (hL:BK P L=true): ∀{ts:List TypeId} {vs:List Value} {ds:List (DataW H)} {ps:List MemPlace},
  (∀t∈ts,t∈L)→(∀(j:Nat) t v,ts[j]? =some t→vs[j]? =some v→Value.okWide P w r LH t v)→DataW.TrodAll enc P w base spare held ts vs ds ps→
  ∃xs,vs.length=xs.length∧(∀(j:Nat) v x,vs[j]? =some v→xs[j]? =some x→ao P w (mg w) β hp v x)∧qS P ts xs
 | [],vs,ds,ps,_,_,h=>by
  obtain ⟨rfl,rfl,rfl⟩:=trodAll_nil h
  exact ⟨[],rfl,by simp,trivial⟩
 | t::ts,vs,ds,ps,hm,fe,h=>by
  obtain ⟨v,Fm,d,S6,a,b,rfl,rfl,rfl,h1,U⟩:=trodAll_cons h
  obtain ⟨x,BD,nR⟩:=adl (β:=β) (hp:=hp) hL (hm t (by simp)) (fe 0 t v rfl rfl) h1
  obtain ⟨xs,hl,hr,hw⟩:=S5 (β:=β) (hp:=hp) hL (fun t ht=>hm t (by simp[ht])) (fun j t v a b=>fe (j+1) t v (by simpa using a) (by simpa using b)) U
  refine ⟨x::xs,by simp[hl],fun j v' x' hv hx=> ?_,nR,hw⟩
  cases j with
  | zero=>cases hv;cases hx;exact BD
  | succ j=>exact hr j v' x' (by simpa using hv) (by simpa using hx)
theorem S7 {base:Nat} {spare:Nat→Bool} {held:Bool}: ∀{ts:List TypeId} {vs:List Value} {ds:List (DataW H)} {ps:List MemPlace},DataW.TrodAll enc P w base spare held ts vs ds ps→ds.length=ts.length
 | [],vs,ds,ps,h=>by obtain ⟨rfl,rfl,rfl⟩:=trodAll_nil h;rfl
 | t::ts,vs,ds,ps,h=>by
  obtain ⟨v,Fm,d,S6,a,b,rfl,rfl,rfl,h1,U⟩:=trodAll_cons h
  simp[S7 U]
theorem S8 {base:Nat} (hl:laidOutB P=true) {W W':World} {S9:Nat→Bool}: ∀{ts:List TypeId} {vs:List Value} {ds:List (DataW H)} {ps:List MemPlace},(∀t∈ts,P.readableRec t=true∧t<P.types.size)→
  DataW.TrodAll enc P W base (fun _=>true) true ts vs ds ps→(∀p∈ps,W.sameAt W' p)→(∀p∈ps,S9 p.block=true)→DataW.TrodAll enc P W' base S9 true ts vs ds ps
 | [],vs,ds,ps,_,h,_,_=>by obtain ⟨rfl,rfl,rfl⟩:=trodAll_nil h;exact trodAll_mk0
 | t::ts,vs,ds,ps,hr,h,h1,U=>by
  obtain ⟨v,Fm,d,S6,a,b,rfl,rfl,rfl,h3,h4⟩:=trodAll_cons h
  obtain ⟨r1,r2⟩:=hr t (by simp)
  exact trodAll_cons_mk (WideElems.Trod_stays hl r1 r2 h3 (fun p hp=>h1 p (by simp[hp])) (fun p hp=>U p (by simp[hp])))
   (S8 hl (fun t ht=>hr t (by simp[ht])) h4 (fun p hp=>h1 p (by simp[hp])) (fun p hp=>U p (by simp[hp])))
theorem adm {f:Func} {s:ChangeSpec} {apart fresh handsOn again:Bool} {W W':World} {args:Array Value} {v:Value} {ds gs:List (DataW H)} {before pa pv:List MemPlace}
  (hW:DataW.Whole enc P f.params.toList s.vars apart W args.toList ds gs before)
  (Ta: ∀(b:Nat) (sp:Nat→Bool) (hd:Bool),DataW.TrodAll enc P W' b sp hd f.resultTypes.toList (v.resultList f.resultTypes.size) (s.fn H (ds++gs)).results [])
  (vj: ∀sp:Nat→Bool,(∀p∈before,sp p.block=true)→DataW.TrodAll enc P W' 0 sp true f.params.toList args.toList (s.fn H (ds++gs)).args pa)
  (Tb: ∀sp:Nat→Bool,(∀p∈before,sp p.block=true)→DataW.TrodVars enc P W' sp s.vars (s.fn H (ds++gs)).vars pv)
  (GK:before=pa++pv) (hk:W.keptBut W' (· ∈before)) (LI: ∀a:Addr,a.block<W.heap.size→W'.frozen? a=W.frozen? a)
  (ay: ∀(j:Nat) (t:TypeId) (r:Value),f.resultTypes[j]? =some t→(v.resultList f.resultTypes.size)[j]? =some r→Value.okWide P W' .any 0 t r):
  s.post enc P f apart fresh handsOn again W args v W':=by
 have hold: ∀p∈before,(fun b=>decide (b<W.heap.size)) p.block=true:=fun p hp=>by simpa using hW.lt p hp
 refine ⟨ds,gs,before,[],pa,pv,hW,Ta _ _ _,vj _ hold,Tb _ hold,World.keptBut_mono (fun p hp=>⟨hp,?_⟩) hk,fun _=> ?_⟩
 ·rw[GK,eJ] at hp
  exact Or.inr hp
 ·have aQ:=hW.lt
  obtain ⟨_,_,_,_,_,hz,hn⟩:=hW
  refine ⟨ay,_,_,([]++pa)++pv,⟨[]++pa,pv,trodAll_append (vj _ (fun _ _=>rfl)) (Ta _ _ _),Tb _ (fun _ _=>rfl),rfl,?_,?_⟩,?_⟩
  ·intro b off hp
   have hb:MemPlace.cell b off∈before:=by rw[GK];simpa using hp
   rw[LI ⟨b,off,none⟩ (aQ _ hb)]
   exact hz b off hb
  ·intro ha
   have:=hn ha
   rw[GK] at this
   simpa using this
  ·intro p hp _
   rw[GK]
   simpa using hp
theorem adn {A:cK} (hP:iL P A) (nY:P.follows .mixedOrders=true) {f key:Nat} {fn:Func} {tb:TypeId} {s:ChangeSpec} {apart fresh handsOn again:Bool}
  (hf:P.funcs[f]? =some fn) (LJ:A.aP key=f) (hL:BK P L=true) (cb:fn.params.toList.all (fun t=>hasB L t)=true) (GL:fn.resultTypes= #[tb]) (GM:P.underlying tb=some .bool) (GN:s.vars=[])
  (hs: ∀ds:List (DataW H),ds.length=fn.params.toList.length→s.fn H ds={results:=[.lit (.bool true)],args:=ds})
  (LL:laidOutB P=true) (LM:fn.params.toList.all (fun t=>P.readableRec t&&Nat.blt t P.types.size)=true)
  (jF:(A.sin key).ba=[]) (ay:((A.sin key).bR.map (·.2)).all (VS.ok 0)=true) (LN:(A.gD key).bR=[(0,.one .bool)]) (halt:A.alt key=none)
  {W:World} {base:Nat} {args:Array Value} {ds gs:List (DataW H)} {before:List MemPlace}
  (LO:gE P A.aF W (mg W)) (fe: ∀(j:Nat) t v,fn.params[j]? =some t→args[j]? =some v→Value.okWide P W .any base t v)
  (hW:DataW.Whole enc P fn.params.toList s.vars apart W args.toList ds gs before) (Q:List V→Prop)
  (hQ: ∀xs:List V,qS P fn.params.toList xs→(∀(j:Nat) v x,args.toList[j]? =some v→xs[j]? =some x→ao P W (mg W) (fun _=>none) (fun _=>none) v x)→Q xs)
  (LP: ∀xs,qS P fn.params.toList xs→Q xs→∃ds,qT ((A.sin key).bR.map (·.2)) xs=some ds∧Call P A key ds=some [.bool true]):
  Calls P f args W fun e W'=> ∃v,e= .returned v∧s.post enc P fn apart fresh handsOn again W args v W':=by
 have Tc:=hW
 obtain ⟨p,q,hA,hV,rfl,LI,kN⟩:=hW
 rw[GN] at hV
 obtain ⟨hgs,hq⟩:gs=[]∧q=[]:=by
  cases gs with
  | nil=>exact ⟨rfl,hV⟩
  | cons g gs=>exact hV.elim
 subst hgs
 subst hq
 obtain ⟨xs,hl,hr,Td⟩:=S5 (β:=fun _=>none) (hp:=fun _=>none) hL (fun t ht=>GH (fm.1 cb t ht)) (fun j t v a b=>fe j t v (by simpa using a) (by simpa using b)) hA
 obtain ⟨ls,hls,BA⟩:=LP xs Td (hQ xs Td hr)
 obtain ⟨fn',c,h1,U,h3⟩:=adg (A:=A) hP nY key ls [.bool true] BA
 rw[LJ] at h1 h3
 rw[hf] at h1
 cases h1
 have yk: ∀j,(bu (A.sin key) ls).hp j=none:=fun j=>by simp[bu,mk,jF,eM,jT]
 obtain ⟨_,r1,r2⟩:=Bq (P:=P) (w:=W) (I:=mg W) (n:=0) (β:=fun _=>none) (β':=fun _=>none) (hp:=fun _=>none) (hp':=(bu (A.sin key) ls).hp) (fun j hj=>absurd hj (Nat.not_lt_zero j)) hls ay
 have hlen:((A.sin key).bR.map (·.2)).length=xs.length:=by rw[←r1 [],LA]
 have h4:=h3 W (mg W) (fun _=>none) args.toList ⟨fun id blk h=>(by rw[yk] at h;cases h),fun id aG blk blk' b h=>(by rw[yk] at h;cases h),fun id blk b h=>(by rw[yk] at h;cases h),fun b h=>h⟩ LO
  (by rw[hl,←hlen,bt]) (fun j v y hv hy=>r2 [] j v y (fun x hx=>hr j v x hv hx) (by rw[dy];exact hy))
 have ea:args.toList.toArray=args:=by simp
 rw[ea] at h4
 refine h4.mono fun e W' ⟨v,I2,cd,he,ha⟩=>⟨v,he,?_⟩
 have uY: ∀b,b<W.heap.size→W'.heap[b]? =W.heap[b]? :=fun b hb=>ha.xZ.cm b hb (by rintro ⟨j,blk,hj,_⟩;rw[yk] at hj;cases hj)
 have KL:=ha.res
 have Te:A.so key [.bool true]=A.gD key∧A.lv key [.bool true]=[.bool true]:=by unfold cK.so cK.lv;rw[halt];exact ⟨rfl,rfl⟩
 rw[Te.1,Te.2,LN] at KL
 obtain rfl:v= .bool true:=KL.kH
 have l9:Value.okWide P W' .any 0 tb (.bool true):=by simp[Value.okWide,GM,Cell.okWide,Cell.ok]
 have lN:ds.length=fn.params.toList.length:=S7 hA
 have jk: ∀p'∈p++[],W.sameAt W' p':=by
  intro p' hp'
  have aQ:=Tc.lt p' hp'
  cases p' with
  | cell b o=>exact World.cell?_of_block (w:=W) (uY b aQ)
  | map b=>exact uY b aQ
 refine adm (pa:=p) (pv:=[]) Tc ?_ ?_ ?_ rfl ?_ ?_ ?_
 ·intro b sp hd
  rw[dy,hs ds lN,GL]
  exact trodAll_mk1 ⟨1,by simp[DataW.trod,Value.cells,GM]⟩
 ·intro sp ib
  rw[dy,hs ds lN]
  refine S8 LL (fun t ht=> ?_) hA (fun p' hp'=>jk p' (by simpa using hp')) (fun p' hp'=>ib p' (by simpa using hp'))
  have:=fm.1 LM t ht
  simp only[aO] at this
  exact ⟨this.1,by simpa[jP] using this.2⟩
 ·intro sp ib
  rw[GN,dy,hs ds lN]
  exact rfl
 ·refine ⟨ha.xZ.io.1,ha.xZ.io.2,fun i hi=> ?_⟩
  rw[uY i hi]
  split<;>simp_all
 ·intro a aQ
  exact World.frozen?_of_block (w:=W) (uY a.block aQ)
 ·intro j t r hj LQ
  rw[GL] at hj LQ
  cases j with
  | zero=>
   simp[Value.resultList] at hj LQ
   subst hj
   subst LQ
   exact l9
  | succ j=>simp at hj
theorem aaw {A:cK} (hP:iL P A) (nY:P.follows .mixedOrders=true) {f key:Nat} {fn:Func} {tb:TypeId} {s:ChangeSpec} {apart fresh handsOn again:Bool}
  (hf:P.funcs[f]? =some fn) (LJ:A.aP key=f) (hL:BK P L=true) (cb:fn.params.toList.all (fun t=>hasB L t)=true) (GL:fn.resultTypes= #[tb]) (GM:P.underlying tb=some .bool) (GN:s.vars=[])
  (hs: ∀ds:List (DataW H),ds.length=fn.params.toList.length→s.fn H ds={results:=[.lit (.bool true)],args:=ds})
  (LL:laidOutB P=true) (LM:fn.params.toList.all (fun t=>P.readableRec t&&Nat.blt t P.types.size)=true)
  (jF:(A.sin key).ba=[]) (ay:((A.sin key).bR.map (·.2)).all (VS.ok 0)=true) (LN:(A.gD key).bR=[(0,.one .bool)]) (halt:A.alt key=none)
  (LP: ∀xs,qS P fn.params.toList xs→∃ds,qT ((A.sin key).bR.map (·.2)) xs=some ds∧Call P A key ds=some [.bool true])
  {W:World} {base:Nat} {args:Array Value} {ds gs:List (DataW H)} {before:List MemPlace}
  (LO:gE P A.aF W (mg W)) (fe: ∀(j:Nat) t v,fn.params[j]? =some t→args[j]? =some v→Value.okWide P W .any base t v)
  (hW:DataW.Whole enc P fn.params.toList s.vars apart W args.toList ds gs before):
  Calls P f args W fun e W'=> ∃v,e= .returned v∧s.post enc P fn apart fresh handsOn again W args v W':=
 adn hP nY hf LJ hL cb GL GM GN hs LL LM jF ay LN halt LO fe hW (fun _=>True) (fun _ _ _=>trivial) fun xs h _=>LP xs h
end
end Go.AM
namespace Go.AM
@[simp] theorem V.toInt_int (k:IntKind) (n:Int):V.toInt (.int k n)=n:=by cases k<;>rfl
@[simp] theorem V.cQ (b:Bool):V.toBool (.bool b)=b:=by cases b<;>rfl
@[simp] theorem V.mh (s:List UInt8):V.toStr (.str s)=s:=by cases s<;>rfl
@[simp] theorem V.bS (e:TypeId) (es:List V):V.toList (.list e es)=es:=by cases es<;>rfl
@[simp] theorem V.an1 (e:TypeId) (es:List V):V.toList (.own e es)=es:=by cases es<;>rfl
@[simp] theorem V.ado (cs:List V) (j:Nat):V.cell (.agg cs) j=V.nth cs j:=by cases cs<;>rfl
@[simp] theorem V.an2 (cs:List V) (j:Nat):V.comp (.bn cs) j=V.nth cs j:=by cases cs<;>rfl
@[simp] theorem V.aC (x:V) (l:List V):V.nth (x::l) 0=x:=by cases l<;>rfl
@[simp] theorem V.rZ (x:V) (l:List V) (n:Nat):V.nth (x::l) (n+1)=V.nth l n:=by cases l<;>rfl
@[simp] theorem V.an3 (x y:V) (l:List V):V.nth (x::y::l) 1=y:=by cases l<;>rfl
@[simp] theorem V.an4 (x y z:V) (l:List V):V.nth (x::y::z::l) 2=z:=by cases l<;>rfl
@[simp] theorem V.an5 (x y z u:V) (l:List V):V.nth (x::y::z::u::l) 3=u:=by cases l<;>rfl
theorem wrap64 {x:Int} (h1: -9223372036854775808≤x) (U:x<9223372036854775808):IntKind.wrap .i64 x=x:=by
 rw[IntKind.wrap_i64];omega
theorem yl {x:Int} (h1:0≤x) (U:x<256):IntKind.wrap .u8 x=x:=by
 rw[IntKind.wrap_u8];omega
theorem adp {es:List V} {i:Int} {n:Nat} (h:i=n):idx es i=es[n]? :=by
 subst h;simp[idx]
@[simp] theorem n0 (es:List V) (n:Nat):idx es (n:Int)=es[n]? :=by simp[idx]
section
variable {X R:Type} {step:X→Option (X ⊕ R)}
theorem adq (s:Nat→X) (n:Nat) {r:R} (h: ∀i,i<n→step (s i)=some (.inl (s (i+1)))) (he:step (s n)=some (.inr r)):Loop step (s 0)=some r:=by
 induction n generalizing s with
 | zero=>exact bj he
 | succ n ih=>
  rw[bW (h 0 (by omega))]
  exact ih (fun i=>s (i+1)) (fun i hi=>h (i+1) (by omega)) he
end
@[simp] theorem az {α:Type} (p:Prop) [Decidable p] (a b:α):(bif decide p then a else b)=if p then a else b:=by by_cases h:p<;>simp[h]
@[simp] theorem dD {α:Type} (m n:Int) (a b:α):(bif m==n then a else b)=if m=n then a else b:=by
 by_cases h:m=n
 ·simp[h]
 ·have:(m==n)=false:=by simp[h]
  rw[this,ah h];rfl
@[simp] theorem jo {α:Type} (m n:Int) (a b:α):(bif m != n then a else b)=if m=n then b else a:=by
 by_cases h:m=n
 ·simp[h]
 ·have:(m != n)=true:=by simp[h]
  rw[this,ah h];rfl
@[simp] theorem gd {α:Type} (c:Bool) (a b:α):(bif !c then a else b)=bif c then b else a:=by cases c<;>rfl
@[simp] theorem ym {α:Type} (m n:Nat) (a b:α):(bif Nat.ble m n then a else b)=if m≤n then a else b:=by
 cases hb:Nat.ble m n with
 | true=>rw[ag (Nat.le_of_ble_eq_true hb)];rfl
 | false=>
  rw[ah fun h=> ?_]
  ·rfl
  ·rw[Nat.ble_eq_true_of_le h] at hb;cases hb
@[simp] theorem ct {α:Type} (c d:Bool) (a b:α):(bif c&&d then a else b)=bif c then (bif d then a else b) else b:=by cases c<;>rfl
section
variable {P:Program}
def Tf (P : Program) : Bool := P.funcs.all fun fn => !(fn.name == "runtime.NumGoroutine")
theorem adr (h:Tf P=true):Bx P:=by
 intro f fn hf
 unfold Tf at h
 have:=(Array.all_eq_true_iff_forall_mem.1 h) fn (Array.mem_of_getElem? hf)
 simpa using this
theorem JB {t:TypeId} {ts:List TypeId} {xs:List V} (h:qS P (t::ts) xs): ∃x ys,xs=x::ys∧jO P t x∧qS P ts ys:=by
 cases xs with
 | nil=>exact h.elim
 | cons x ys=>exact ⟨x,ys,rfl,h.1,h.2⟩
theorem aar {xs:List V} (h:qS P [] xs):xs=[]:=by
 cases xs with
 | nil=>rfl
 | cons x ys=>exact h.elim
theorem jO.one {t:TypeId} {x:V} (ha:bO P t=false) (h:jO P t x):WT P t x:=by
 have he:bc P t=[t]:=by simp[bc,ha]
 have:=h.2 0 t (by rw[he];rfl)
 simpa[bQ,ha] using this
theorem WT.dY {t:TypeId} {k:IntKind} {x:V} (hu:P.underlying t=some (.int k)) (h:WT P t x): ∃n,x= .int k n∧k.min≤n∧n≤k.max:=by
 cases h with
 | int h1 U=>
  rw[hu] at h1
  cases h1
  simp only[Lit.wf,aO,dX] at U
  exact ⟨_,rfl,U⟩
 | bool h1=>rw[hu] at h1;cases h1
 | str h1=>rw[hu] at h1;cases h1
 | list h1=>rw[hu] at h1;cases h1
theorem WT.kH {t:TypeId} {x:V} (hu:P.underlying t=some .bool) (h:WT P t x): ∃b,x= .bool b:=by
 cases h with
 | int h1=>rw[hu] at h1;cases h1
 | bool h1=>exact ⟨_,rfl⟩
 | str h1=>rw[hu] at h1;cases h1
 | list h1=>rw[hu] at h1;cases h1
theorem WT.mL {t:TypeId} {x:V} (hu:P.underlying t=some .string) (h:WT P t x): ∃s,x= .str s∧s.length≤maxLen:=by
 cases h with
 | int h1=>rw[hu] at h1;cases h1
 | bool h1=>rw[hu] at h1;cases h1
 | str h1 U=>exact ⟨_,rfl,U⟩
 | list h1=>rw[hu] at h1;cases h1
theorem WT.ads {t e:TypeId} {x:V} (hu:P.underlying t=some (.slice e)) (h:WT P t x): ∃es,x= .list e es∧es.length≤maxLen∧∀y∈es,jO P e y:=by
 cases h with
 | int h1=>rw[hu] at h1;cases h1
 | bool h1=>rw[hu] at h1;cases h1
 | str h1=>rw[hu] at h1;cases h1
 | list h1 U h3 h4=>
  rw[hu] at h1
  cases h1
  refine ⟨_,rfl,U,fun y hy=> ?_⟩
  obtain ⟨i,hi⟩:=sL hy
  exact ⟨h3 i y hi,fun j t' hj=>h4 i j y t' hi hj⟩
theorem jO.ly {t:TypeId} {x:V} (ha:bO P t=true) (h:jO P t x): ∃xs,x= .agg xs∧xs.length=(bc P t).length∧∀(j:Nat) t' y,(bc P t)[j]? =some t'→xs[j]? =some y→WT P t' y:=by
 obtain ⟨xs,rfl,hl⟩:=h.1 ha
 refine ⟨xs,rfl,hl,fun j t' y hj hy=> ?_⟩
 have:=h.2 j t' hj
 simp only[bQ,ha,cond_true,V.ado] at this
 rw[uU _ _ _ hy] at this
 exact this
theorem Tg {α:Type} {f:α→V} {p:α→Prop}: ∀{es:List V},(∀y∈es,∃a,y=f a∧p a)→∃l:List α,es=l.map f∧∀a∈l,p a
 | [],_=>⟨[],rfl,by simp⟩
 | y::es,h=>by
  obtain ⟨a,rfl,ha⟩:=h y (by simp)
  obtain ⟨l,rfl,hl⟩:=Tg (f:=f) (p:=p) (es:=es) fun z hz=>h z (by simp[hz])
  exact ⟨a::l,rfl,by
   intro b hb
   rcases dx.1 hb with rfl|hb
   ·exact ha
   ·exact hl b hb⟩
theorem jO.int {t:TypeId} {x:V} (hu:P.underlying t=some (.int .i64)) (h:jO P t x): ∃n,x= .int .i64 n∧IntKind.min .i64≤n∧n≤IntKind.max .i64:=
 (h.one (by simp[bO,hu])).dY hu
theorem jO.str {t:TypeId} {x:V} (hu:P.underlying t=some .string) (h:jO P t x): ∃s,x= .str s∧s.length≤maxLen:=
 (h.one (by simp[bO,hu])).mL hu
end
def un.{u} {A B:Type} {γ:Sort u} (f:A→B→γ) (p:A × B):γ:=f p.1 p.2
def cu {A B γ:Type} (f:A→γ) (g:B→γ):A ⊕ B→γ
 | .inl a=>f a
 | .inr b=>g b
def aw:List Nat→Code→Code
 | [],c=>c
 | 0::p,.seq a _=>aw p a
 | _::p,.seq _ b=>aw p b
 | 0::p,.cond _ a _=>aw p a
 | _::p,.cond _ _ b=>aw p b
 | _::p,.block _ c=>aw p c
 | _::p,.loop c=>aw p c
 | _,c=>c
inductive bX where
 | loop (c:Code)
 | cond (t:Nat) (x y:Code)
section
variable (P:Program) (A:cK) (C:ae) (L:bZ) (f n m:Nat)
def qd:Code→List bX
 | .seq a b=>qd a++qd b
 | .cond (.tmp t) x y=>
  match A.iA f (t*16+15) with
  | none=>qd x++qd y
  | some _=>[.cond t x y]
 | .cond (.const _) x y=>qd x++qd y
 | .block _ c=>qd c
 | .loop c=>[.loop c]
 | _=>[]
def bY:bX→Prop
 | .loop c=>
  match A.iA f (keyOf c+1) with
  | none=>True
  | some S=> ∀(β:Type) ds (k:Nat→List V→Option β),L β (keyOf c+1) ds k=(Loop (stepG P A C f n m S c) ds).bind fun r=>k r.1 r.2
 | .cond t x y=>
  match A.iA f (t*16+15) with
  | none=>True
  | some S=> ∀(β:Type) ds (k:Nat→List V→Option β),L β (t*16+15) ds k=(AT P A C f n m t S x y ds).bind fun r=>k r.1 r.2
def oa:List bX→Prop
 | []=>True
 | b::l=>bY P A C L f n m b∧oa l
variable {P A C L f n m}
theorem oa.left {a b:List bX}:oa P A C L f n m (a++b)→oa P A C L f n m a:=by
 induction a with
 | nil=>exact fun _=>trivial
 | cons x a ih=>exact fun h=>⟨h.1,ih h.2⟩
theorem oa.right {a b:List bX}:oa P A C L f n m (a++b)→oa P A C L f n m b:=by
 induction a with
 | nil=>exact fun h=>h
 | cons x a ih=>exact fun h=>ih h.2
theorem a8: ∀{c:Code} {bs:List bX},qd A f c=bs→oa P A C L f n m bs→iG P A C L f n m c:=by
 intro c
 induction c with
 | seq a b JX JY=>
  intro bs h hb
  subst h
  exact ⟨JX rfl hb.left,JY rfl hb.right⟩
 | cond c x y iY iZ=>
  intro bs h hb
  subst h
  cases c with
  | tmp t=>
   simp only[qd] at hb
   simp only[iG]
   cases hs:A.iA f (t*16+15) with
   | none=>
    rw[hs] at hb
    exact ⟨iY rfl hb.left,iZ rfl hb.right⟩
   | some S=>
    rw[hs] at hb
    have:=hb.1
    simp only[bY,hs] at this
    exact this
  | const v=>exact ⟨iY rfl hb.left,iZ rfl hb.right⟩
  | _=>trivial
 | block id c ih=>
  intro bs h hb
  subst h
  exact ih rfl hb
 | loop c ih=>
  intro bs h hb
  subst h
  exact hb.1
 | _=>intro bs h hb;trivial
variable (P A C L f n m) in
noncomputable def LR {β:Type} (t:Nat) (S:Shape × List (Out × Shape)) (x y:Code) (ds:List V) (k:Nat→List V→Option β):Option β:=
 let kc:Out→St→Option β:=fun o st=>
  match o with
  | .norm=>(ways m 0 S.2 (.norm,canon m (A.join f t) st)).bind fun e=>k e.1 e.2
  | o=>(ways m 0 S.2 (o,st)).bind fun e=>k e.1 e.2
 match (bu S.1 ds).sl t with
 | .bool b=>bif b then iF P A C L f n m x (bu S.1 ds) kc else iF P A C L f n m y (bu S.1 ds) kc
 | _=>none
theorem adt {t:Nat} {x y:Code} {S:Shape × List (Out × Shape)} (hS:A.iA f (t*16+15)=some S) (hx:iG P A C L f n m x) (hy:iG P A C L f n m y) {I R:Type} (enc:I→List V) (mX:I→R→Nat × List V)
  (de:List V→I) (body:I→(β:Type)→(R→Option β)→Option β) (vq: ∀ds,bu S.1 (enc (de ds))=bu S.1 ds)
  (e1: ∀i (β:Type) (k:Nat→List V→Option β),LR P A C L f n m t S x y (enc i) k=body i β (fun r=>k (mX i r).1 (mX i r).2))
  (hl: ∀(β:Type) ds (k:Nat→List V→Option β),L β (t*16+15) ds k=body (de ds) β (fun r=>k (mX (de ds) r).1 (mX (de ds) r).2)):
  bY P A C L f n m (.cond t x y):=by
 simp only[bY,hS]
 intro β ds k
 rw[hl,←e1]
 unfold LR AT
 rw[vq]
 simp only
 have hk: ∀(z:Option (Out × St)),(z.bind fun r=>(match r.1 with
   | .norm=>(ways m 0 S.2 (.norm,canon m (A.join f t) r.2)).bind fun e=>k e.1 e.2
   | o=>(ways m 0 S.2 (o,r.2)).bind fun e=>k e.1 e.2))=((z.bind fun r=>
   match r.1 with
   | .norm=>some (Out.norm,canon m (A.join f t) r.2)
   | _=>some r).bind fun r=>ways m 0 S.2 r).bind fun r=>k r.1 r.2:=by
  intro z
  cases z with
  | none=>rfl
  | some r=>obtain ⟨o,st⟩:=r;cases o<;>rfl
 cases (bu S.1 ds).sl t with
 | bool b=>
  cases b with
  | true=>simp only[cond_true,Fk P A C f n m x hx];exact hk _
  | false=>simp only[cond_false,Fk P A C f n m y hy];exact hk _
 | _=>rfl
theorem bq {b:bX} {l:List bX} (h:bY P A C L f n m b) (U:oa P A C L f n m l):oa P A C L f n m (b::l):=⟨h,U⟩
theorem ax:oa P A C L f n m []:=trivial
theorem aY {key:Nat} {bs:List bX} (hb:qd A key (cg P (A.aP key))=bs) (ht:oa P A (Call P A) L key (cj P (A.aP key)) (A.sin key).ba.length bs) {ds:List V} {r:Option (List V)}
  (h:JZ P A (Call P A) L key ds=r):Call P A key ds=r:=by
 rw[adj,aaE P A (Call P A) key (a8 hb ht),h]
end
inductive LK where
 | int (k:IntKind)
 | bool
 | str
 | list (e:TypeId)
 | nat
def LK.Ty:LK→Type
 | .int _=>Int
 | .bool=>Bool
 | .str=>List UInt8
 | .list _=>List V
 | .nat=>Nat
def LK.enc:(k:LK)→k.Ty→V
 | .int k,n=> .int k n
 | .bool,b=> .bool b
 | .str,s=> .str s
 | .list e,l=> .list e l
 | .nat,n=>dF n
def LK.dec:(k:LK)→V→k.Ty
 | .int _,v=>v.toInt
 | .bool,v=>v.toBool
 | .str,v=>v.toStr
 | .list _,v=>v.toList
 | .nat,v=>ll v
theorem LK.Th: ∀(k:LK) (x:k.Ty),k.dec (k.enc x)=x
 | .int _,_=>rfl
 | .bool,_=>rfl
 | .str,_=>rfl
 | .list _,_=>rfl
 | .nat,_=>rfl
def LU:List Nat→List LK
 | []=>[]
 | _::l=> .nat::LU l
def LS.ks:LS→List LK
 | .int k=>[.int k]
 | .bool=>[.bool]
 | .str=>[.str]
 | .list e=>[.list e]
 | .sub .. =>[.nat,.nat]
 | .ptr _=>[.nat,.nat]
 | .row _ _ cs=>LU cs
 | .cJ _ cs _=> .nat::LU cs
 | _=>[]
def yn:List LS→List LK
 | []=>[]
 | l::ls=>l.ks++yn ls
def VS.ks:VS→List LK
 | .one l=>l.ks
 | .agg ls=>yn ls
 | .bn ls=>yn ls
 | .fn _ a b=>yn a++yn b
 | .pref _ ls=>yn ls
def Ti:List VS→List LK
 | []=>[]
 | l::ls=>l.ks++Ti ls
def BS.ks:BS→List LK
 | .var _ cs=>Ti cs
 | .arr e _=>[.list e]
 | .nest e=>[.list e]
 | .dead=>[]
 | .map t=>[.list t]
def Tj:List (Nat × VS)→List LK
 | []=>[]
 | p::l=>p.2.ks++Tj l
def Tk:List BS→List LK
 | []=>[]
 | b::l=>b.ks++Tk l
def Shape.ks (S:Shape):List LK:=Tj S.bR++Tk S.ba
def LV:List Nat→List V→List V
 | [],_=>[]
 | _::cs,ds=>dF (ll (V.nth ds 0))::LV cs (ds.drop 1)
def LS.norm:LS→List V→List V
 | .int k,ds=>[.int k (V.nth ds 0).toInt]
 | .bool,ds=>[.bool (V.nth ds 0).toBool]
 | .str,ds=>[.str (V.nth ds 0).toStr]
 | .list e,ds=>[.list e (V.nth ds 0).toList]
 | .sub ..,ds=>[dF (ll (V.nth ds 0)),dF (ll (V.nth ds 1))]
 | .ptr _,ds=>[dF (ll (V.nth ds 0)),dF (ll (V.nth ds 1))]
 | .row _ _ cs,ds=>LV cs ds
 | .cJ _ cs _,ds=>dF (ll (V.nth ds 0))::LV cs (ds.drop 1)
 | _,_=>[]
def yo:List LS→List V→List V
 | [],_=>[]
 | l::ls,ds=>l.norm ds++yo ls (ds.drop l.size)
def VS.norm:VS→List V→List V
 | .one l,ds=>l.norm ds
 | .agg ls,ds=>yo ls ds
 | .bn ls,ds=>yo ls ds
 | .fn _ a b,ds=>yo a ds++yo b (ds.drop (kB a))
 | .pref _ ls,ds=>yo ls ds
def Tl:List VS→List V→List V
 | [],_=>[]
 | l::ls,ds=>l.norm ds++Tl ls (ds.drop l.size)
def BS.norm:BS→List V→List V
 | .var _ cs,ds=>Tl cs ds
 | .arr e _,ds=>[.list e (V.nth ds 0).toList]
 | .nest e,ds=>[.list e (V.nth ds 0).toList]
 | .dead,_=>[]
 | .map t,ds=>[.list t (V.nth ds 0).toList]
def Tm:List (Nat × VS)→List V→List V
 | [],_=>[]
 | p::l,ds=>p.2.norm ds++Tm l (ds.drop p.2.size)
def Tn:List BS→List V→List V
 | [],_=>[]
 | b::l,ds=>b.norm ds++Tn l (ds.drop b.size)
def Shape.norm (S:Shape) (ds:List V):List V:=Tm S.bR ds++Tn S.ba (ds.drop (oS S.bR))
def vr:LK→List LK→Type
 | k,[]=>k.Ty
 | k,k'::ks=>k.Ty × vr k' ks
def kO:List LK→Type
 | []=>Unit
 | k::ks=>vr k ks
def vu:(k:LK)→(ks:List LK)→vr k ks→List V
 | k,[],x=>[k.enc x]
 | k,k'::ks,x=>k.enc x.1::vu k' ks x.2
def lF:(ks:List LK)→kO ks→List V
 | [],_=>[]
 | k::ks,x=>vu k ks x
def BL:(k:LK)→(ks:List LK)→List V→vr k ks
 | k,[],l=>k.dec (V.nth l 0)
 | k,k'::ks,l=>(k.dec (V.nth l 0),BL k' ks l.tail)
def pe:(ks:List LK)→List V→kO ks
 | [],_=>()
 | k::ks,l=>BL k ks l
theorem To: ∀(k:LK) (ks:List LK) (x:vr k ks) (r:List V),BL k ks (vu k ks x++r)=x
 | k,[],x,r=>LK.Th k x
 | k,k'::ks,x,r=>by
  show (k.dec (k.enc x.1),BL k' ks (vu k' ks x.2++r))=x
  rw[LK.Th,To k' ks]
  rfl
def yp:List LK→Type 1→Type 1
 | [],R=>R
 | k::ks,R=>k.Ty→yp ks R
def Tp:(k:LK)→(ks:List LK)→{R:Type 1}→yp (k::ks) R→vr k ks→R
 | _,[],_,f,x=>f x
 | _,k'::ks,_,f,x=>Tp k' ks (f x.1) x.2
def vw:(ks:List LK)→{R:Type 1}→yp ks R→kO ks→R
 | [],_,f,_=>f
 | k::ks,_,f,x=>Tp k ks f x
def yq {α:Type} (b:Bool):List Bool→List α→List α
 | [],_=>[]
 | _,[]=>[]
 | c::m,x::l=>bif c==b then x::yq b m l else yq b m l
def merge:List Bool→List V→List V→List V
 | [],_,_=>[]
 | true::m,i,x=>V.nth x 0::merge m i x.tail
 | false::m,i,x=>V.nth i 0::merge m i.tail x
def yr:List Nat→List LK→List LK
 | [],_=>[]
 | _,[]=>[]
 | 0::t,k::ks=>k::yr t ks
 | (_+1)::t,_::ks=>yr t ks
abbrev fN:=List Nat × List LK
def fN.fresh (w:fN):List LK:=yr w.1 w.2
def put:List Nat→List V→List V→List V
 | [],_,_=>[]
 | 0::t,ds,x=>V.nth x 0::put t ds x.tail
 | (j+1)::t,ds,x=>V.nth ds j::put t ds x
def vy:List Nat→List V→List V
 | [],_=>[]
 | 0::t,l=>V.nth l 0::vy t l.tail
 | (_+1)::t,l=>vy t l.tail
def tq:fN→List fN→Type
 | w,[]=>kO w.fresh
 | w,w'::ws=>kO w.fresh ⊕ tq w' ws
def r0:List fN→Type
 | []=>Empty
 | w::ws=>tq w ws
def wN (ds:List V) {β:Type} (k:Nat→List V→Option β):Nat→(w:fN)→(ws:List fN)→tq w ws→Option β
 | j,w,[],r=>k j (put w.1 ds (lF w.fresh r))
 | j,w,w'::ws,r=>cu (fun x=>k j (put w.1 ds (lF w.fresh x))) (fun y=>wN ds k (j+1) w' ws y) r
def wT (ds:List V) {β:Type} (k:Nat→List V→Option β):(ws:List fN)→r0 ws→Option β
 | [],r=>Empty.elim r
 | w::ws,r=>wN ds k 0 w ws r
def pf (ds:List V):Nat→(w:fN)→(ws:List fN)→tq w ws→Nat × List V
 | j,w,[],r=>(j,put w.1 ds (lF w.fresh r))
 | j,w,_::_,.inl x=>(j,put w.1 ds (lF w.fresh x))
 | j,_,w'::ws,.inr y=>pf ds (j+1) w' ws y
def yu (ds:List V):(ws:List fN)→r0 ws→Nat × List V
 | [],r=>Empty.elim r
 | w::ws,r=>pf ds 0 w ws r
theorem Tq (ds:List V) {β:Type} (k:Nat→List V→Option β): ∀(j:Nat) (w:fN) (ws:List fN) (r:tq w ws),wN ds k j w ws r=k (pf ds j w ws r).1 (pf ds j w ws r).2
 | _,_,[],_=>rfl
 | _,_,_::_,.inl _=>rfl
 | j,_,w'::ws,.inr y=>Tq ds k (j+1) w' ws y
theorem GO (ds:List V) {β:Type} (k:Nat→List V→Option β): ∀(ws:List fN) (r:r0 ws),wT ds k ws r=k (yu ds ws r).1 (yu ds ws r).2
 | [],r=>Empty.elim r
 | w::ws,r=>Tq ds k 0 w ws r
def yv:Nat→(w:fN)→(ws:List fN)→List V→tq w ws
 | _,w,[],l=>pe w.fresh (vy w.1 l)
 | 0,w,_::_,l=> .inl (pe w.fresh (vy w.1 l))
 | j+1,_,w'::ws,l=> .inr (yv j w' ws l)
def Tr (j:Nat):(ws:List fN)→List V→Option (r0 ws)
 | [],_=>none
 | w::ws,l=>some (yv j w ws l)
def yw:List Nat→List V→List V
 | [],_=>[]
 | 0::t,x=>V.nth x 0::yw t x.tail
 | (_+1)::t,x=>yw t x
theorem LW: ∀(t:List Nat) (ds x:List V),vy t (put t ds x)=yw t x
 | [],_,_=>rfl
 | 0::t,ds,x=>congrArg (V.nth x 0:: ·) (LW t ds x.tail)
 | (_+1)::t,ds,x=>LW t ds x
theorem LX: ∀(t:List Nat) (ks:List LK) (k:LK) (cy:List LK),yr t ks=k::cy→∀x:vr k cy,∃r,yw t (vu k cy x)=vu k cy x++r
 | [],_,_,_,h,_=>by cases h
 | _::_,[],_,_,h,_=>by simp[yr] at h
 | 0::t,a::ks,k,cy,h,x=>by
  simp only[yr,List.cons.injEq] at h
  obtain ⟨rfl,U⟩:=h
  cases cy with
  | nil=>exact ⟨yw t [],rfl⟩
  | cons k' cy=>
   obtain ⟨r,hr⟩:=LX t ks k' cy U x.2
   exact ⟨r,congrArg (a.enc x.1:: ·) hr⟩
 | (_+1)::t,a::ks,k,cy,h,x=>LX t ks k cy h x
theorem Ts (w:fN) (ds:List V) (x:kO w.fresh):pe w.fresh (vy w.1 (put w.1 ds (lF w.fresh x)))=x:=by
 rw[LW]
 revert x
 generalize hf:w.fresh=f
 cases f with
 | nil=>intro x;rfl
 | cons k ks=>
  intro x
  obtain ⟨r,hr⟩:=LX w.1 w.2 k ks hf x
  show BL k ks (yw w.1 (vu k ks x))=x
  rw[hr]
  exact To k ks x r
theorem Tt (ds:List V): ∀(j:Nat) (w:fN) (ws:List fN) (r:tq w ws),j≤(pf ds j w ws r).1
 | _,_,[],_=>bV _
 | _,_,_::_,.inl _=>bV _
 | j,_,w'::ws,.inr y=>lg (Nat.le_succ j) (Tt ds (j+1) w' ws y)
theorem adu (w:fN) (l:List V): ∀j,yv j w [] l=pe w.fresh (vy w.1 l)
 | 0=>rfl
 | _+1=>rfl
theorem Tu (ds:List V): ∀(j:Nat) (w:fN) (ws:List fN) (r:tq w ws),yv ((pf ds j w ws r).1-j) w ws (pf ds j w ws r).2=r
 | j,w,[],r=>(adu w _ _).trans (Ts w ds r)
 | j,w,w'::ws,.inl x=>by
  show yv (j-j) w (w'::ws) (put w.1 ds (lF w.fresh x))= .inl x
  rw[Nat.sub_self]
  exact congrArg Sum.inl (Ts w ds x)
 | j,w,w'::ws,.inr y=>by
  have h1:=Tt ds (j+1) w' ws y
  have U:=Tu ds (j+1) w' ws y
  show yv ((pf ds (j+1) w' ws y).1-j) w (w'::ws) (pf ds (j+1) w' ws y).2= .inr y
  obtain ⟨d,hd⟩: ∃d,(pf ds (j+1) w' ws y).1=j+1+d:=⟨(pf ds (j+1) w' ws y).1-(j+1),by omega⟩
  rw[hd] at U⊢
  rw[show j+1+d-(j+1)=d by omega] at U
  rw[show j+1+d-j=d+1 by omega]
  exact congrArg Sum.inr U
theorem adv (ds:List V): ∀(ws:List fN) (r:r0 ws),Tr (yu ds ws r).1 ws (yu ds ws r).2=some r
 | [],r=>Empty.elim r
 | w::ws,r=>congrArg some (Tu ds 0 w ws r)
section
variable {P:Program} {A:cK} {C:ae} {L:bZ} {f n m:Nat}
theorem adw {c:Code} {S:Shape × List (Out × Shape)} (hS:A.iA f (keyOf c+1)=some S) (hL:iG P A C L f n m c) {I X R:Type} (enc:I→X→List V) (mX:I→R→Nat × List V)
  (qe:List V→I) (sa:List V→X) (GP:Nat × List V→Option R) (body:I→X→(β:Type)→(X→Option β)→(R→Option β)→Option β)
  (vq: ∀ds,bu S.1 (enc (qe ds) (sa ds))=bu S.1 ds) (LY: ∀i x,sa (enc i x)=x) (hdr: ∀i r,GP (mX i r)=some r)
  (e1: ∀i x (β:Type) (k:(List V ⊕ (Nat × List V))→Option β),iF P A C L f n m c (bu S.1 (enc i x)) (fun o st=>(nH m S.1 S.2 (some (o,st))).bind k)=
   body i x β (fun y=>k (.inl (enc i y))) (fun r=>k (.inr (mX i r))))
  (hl: ∀(β:Type) ds (k:Nat→List V→Option β),L β (keyOf c+1) ds k=(Loop (fun x=>body (qe ds) x (X ⊕ R) (fun y=>some (.inl y)) (fun r=>some (.inr r))) (sa ds)).bind fun r=>k (mX (qe ds) r).1 (mX (qe ds) r).2):
  bY P A C L f n m (.loop c):=by
 simp only[bY,hS]
 intro β ds k
 rw[hl]
 have hex: ∀(z:Option (Out × St)),nH m S.1 S.2 z=z.bind fun r=>nH m S.1 S.2 (some (r.1,r.2)):=by
  intro z;cases z<;>rfl
 have hs: ∀i x,stepG P A C f n m S c (enc i x)=(body i x (X ⊕ R) (fun y=>some (.inl y)) (fun r=>some (.inr r))).map fun| .inl y=> .inl (enc i y)| .inr r=> .inr (mX i r):=by
  intro i x
  have k1:=e1 i x _ (fun z=>some z)
  have k2:=e1 i x (X ⊕ R) (fun| .inl ds=>some (.inl (sa ds))| .inr e=>(GP e).map .inr)
  have k3:=e1 i x (List V ⊕ (Nat × List V)) (fun| .inl ds=>some (.inl (enc i (sa ds)))| .inr e=>(GP e).map fun r=> .inr (mX i r))
  simp only[LY,hdr,Option.map_some] at k2 k3
  unfold stepG
  rw[hex]
  rw[Fk P A C f n m c hL] at k1 k2 k3
  rw[←k2]
  refine aX ?_ (k1.trans (k3.symm.trans ?_))
  ·congr 1
   funext r
   cases nH m S.1 S.2 (some (r.1,r.2))<;>rfl
  ·cases exec P A C f n m c (bu S.1 (enc i x)) with
   | none=>rfl
   | some r=>
    simp only[Option.bind_some]
    cases nH m S.1 S.2 (some (r.1,r.2)) with
    | none=>rfl
    | some z=>
     cases z with
     | inl _=>rfl
     | inr e=>simp only[Option.bind_some];cases GP e<;>rfl
 have h0:stepG P A C f n m S c ds=stepG P A C f n m S c (enc (qe ds) (sa ds)):=by
  unfold stepG
  rw[vq]
 have:Loop (stepG P A C f n m S c) ds=(Loop (fun x=>body (qe ds) x (X ⊕ R) (fun y=>some (.inl y)) (fun r=>some (.inr r))) (sa ds)).map (mX (qe ds)):=by
  rw[EU,h0,←EU]
  exact aaC (enc (qe ds)) (mX (qe ds)) (fun x=>hs _ _) (sa ds)
 rw[this]
 cases Loop (fun x=>body (qe ds) x (X ⊕ R) (fun y=>some (.inl y)) (fun r=>some (.inr r))) (sa ds)<;>rfl
abbrev BM (S:Shape) (mk:List Bool):List LK:=yq false mk S.ks
abbrev vz (S:Shape) (mk:List Bool):List LK:=yq true mk S.ks
def sb (ts:List (List Nat)) (W:List (Out × Shape)):List fN:=
 match ts,W with
 | t::ts,w::W=>(t,w.2.ks)::sb ts W
 | _,_=>[]
abbrev BN (S:Shape) (mk:List Bool) (i:kO (BM S mk)) (x:kO (vz S mk)):List V:=merge mk (lF _ i) (lF _ x)
abbrev LZ (S:Shape) (mk:List Bool) (i:kO (BM S mk)):List V:=merge mk (lF _ i) []
abbrev GQ (S:Shape) (mk:List Bool) (ds:List V):kO (BM S mk):=pe _ (yq false mk (S.norm ds))
abbrev GR (S:Shape) (mk:List Bool) (ds:List V):kO (vz S mk):=pe _ (yq true mk (S.norm ds))
abbrev Tv (X R:Type):Type 1:=(β:Type)→(X→Option β)→(R→Option β)→Option β
abbrev L0 (S:Shape × List (Out × Shape)) (mk:List Bool) (ts:List (List Nat)):Type 1:=yp (BM S.1 mk) (yp (vz S.1 mk) (Tv (kO (vz S.1 mk)) (r0 (sb ts S.2))))
abbrev L1 (S:Shape × List (Out × Shape)) (mk:List Bool) (ts:List (List Nat)) (b:L0 S mk ts) (i:kO (BM S.1 mk)) (x:kO (vz S.1 mk)):Tv (kO (vz S.1 mk)) (r0 (sb ts S.2)):=vw _ (vw _ b i) x
noncomputable def bK (S:Shape × List (Out × Shape)) (mk:List Bool) (ts:List (List Nat)) (b:L0 S mk ts) {β:Type} (ds:List V) (k:Nat→List V→Option β):Option β:=
 (Loop (fun x=>L1 S mk ts b (GQ S.1 mk ds) x (kO (vz S.1 mk) ⊕ r0 (sb ts S.2)) (fun y=>some (.inl y)) (fun r=>some (.inr r))) (GR S.1 mk ds)).bind (wT (LZ S.1 mk (GQ S.1 mk ds)) k (sb ts S.2))
theorem bN {c:Code} (S:Shape × List (Out × Shape)) (mk:List Bool) (ts:List (List Nat)) (b:L0 S mk ts) (hS:A.iA f (keyOf c+1)=some S) (hL:iG P A C L f n m c)
  (vq: ∀ds,bu S.1 (BN S.1 mk (GQ S.1 mk ds) (GR S.1 mk ds))=bu S.1 ds) (LY: ∀i x,GR S.1 mk (BN S.1 mk i x)=x)
  (e1: ∀i x (β:Type) (k:(List V ⊕ (Nat × List V))→Option β),iF P A C L f n m c (bu S.1 (BN S.1 mk i x)) (fun o st=>(nH m S.1 S.2 (some (o,st))).bind k)=
   L1 S mk ts b i x β (fun y=>k (.inl (BN S.1 mk i y))) (wT (LZ S.1 mk i) (fun j l=>k (.inr (j,l))) (sb ts S.2)))
  (hl: ∀(β:Type) ds (k:Nat→List V→Option β),L β (keyOf c+1) ds k=bK S mk ts b ds k):
  bY P A C L f n m (.loop c):=
 adw hS hL (BN S.1 mk) (fun i r=>yu (LZ S.1 mk i) _ r) (GQ S.1 mk) (GR S.1 mk) (fun e=>Tr e.1 _ e.2) (L1 S mk ts b) vq LY (fun i r=>adv _ _ r)
  (fun i x β k=>by
   rw[e1]
   congr 1
   funext r
   exact GO _ _ _ r)
  (fun β ds k=>by
   rw[hl]
   unfold bK
   congr 1
   funext r
   exact GO _ _ _ r)
abbrev Tw (S:Shape × List (Out × Shape)) (ts:List (List Nat)):Type 1:=yp S.1.ks ((β:Type)→(r0 (sb ts S.2)→Option β)→Option β)
noncomputable def iM (S:Shape × List (Out × Shape)) (ts:List (List Nat)) (b:Tw S ts) {β:Type} (ds:List V) (k:Nat→List V→Option β):Option β:=
 vw S.1.ks b (pe _ (S.1.norm ds)) β (wT (lF S.1.ks (pe _ (S.1.norm ds))) k (sb ts S.2))
theorem jq {t:Nat} {x y:Code} (S:Shape × List (Out × Shape)) (ts:List (List Nat)) (b:Tw S ts) (hS:A.iA f (t*16+15)=some S) (hx:iG P A C L f n m x) (hy:iG P A C L f n m y)
  (vq: ∀ds,bu S.1 (lF S.1.ks (pe _ (S.1.norm ds)))=bu S.1 ds)
  (e1: ∀i (β:Type) (k:Nat→List V→Option β),LR P A C L f n m t S x y (lF S.1.ks i) k=vw S.1.ks b i β (wT (lF S.1.ks i) k (sb ts S.2)))
  (hl: ∀(β:Type) ds (k:Nat→List V→Option β),L β (t*16+15) ds k=iM S ts b ds k):
  bY P A C L f n m (.cond t x y):=
 adt hS hx hy (lF S.1.ks) (fun i r=>yu (lF S.1.ks i) _ r) (fun ds=>pe _ (S.1.norm ds)) (vw S.1.ks b) vq
  (fun i β k=>by
   rw[e1]
   exact congrArg (vw S.1.ks b i β) (funext fun r=>GO _ _ _ r))
  (fun β ds k=>by
   rw[hl]
   exact congrArg (vw S.1.ks b (pe _ (S.1.norm ds)) β) (funext fun r=>GO _ _ _ r))
end
def b6:bZ:=fun _ _ _ _=>none
end Go.AM
