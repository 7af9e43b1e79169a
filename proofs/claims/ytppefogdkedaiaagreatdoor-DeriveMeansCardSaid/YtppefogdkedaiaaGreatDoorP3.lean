/-
  Functions of the program, lifted to plain data.
-/
import Derived.Conc.MuLone
import Derived.Defers
import Derived.Carry
import Derived.OpenShut
import Derived.Deep.Slices
import Derived.Test.YtppefogdkedaiaaGreatDoorP2
set_option linter.unusedVariables false
set_option linter.unusedSimpArgs false
namespace Go.AM
section
variable {P:Program} {A:cP} {w w':World} {I I' I2:Nat→Prop} {μ β β' cd:Nat→Option Nat} {hp hp' hp0 bx:Nat→Option an} {C:ae} {B:Nat} {M:Nat→Prop} {w0:Start}
structure lq (w:World) (I:Nat→Prop) (β:Nat→Option Nat) (hp:Nat→Option an) (w':World) (I':Nat→Prop) (β':Nat→Option Nat) (hp':Nat→Option an):Prop where
 dq: ∀b,I b→I' b
 cm: ∀b,I b→w'.heap[b]? =w.heap[b]?
 blk: ∀id blk,hp id=some blk→∃blk',hp' id=some blk'∧blk.le blk'∧(blk'≠ .dead→β' id=β id)
 size: ∀id blk blk' b,hp id=some blk→hp' id=some blk'→blk'≠ .dead→β id=some b→bsize w' b=bsize w b
theorem Le.Gf (h:Le P w I β hp w' I' β' hp'):lq w I β hp w' I' β' hp':=⟨h.dq,h.cm,h.blk,h.size⟩
theorem lq.trans {AK:World} {AL:Nat→Prop} {AN:Nat→Option Nat} {AO:Nat→Option an} (h1:lq w I β hp w' I' β' hp') (U:lq w' I' β' hp' AK AL AN AO):lq w I β hp AK AL AN AO:=by
 refine ⟨fun b h=>U.dq b (h1.dq b h),fun b h=>(U.cm b (h1.dq b h)).trans (h1.cm b h),fun id blk h=> ?_,fun id blk uI b h sU hd hb=> ?_⟩
 ·obtain ⟨blk',e',l',b'⟩:=h1.blk id blk h
  obtain ⟨uI,dN,rj,JR⟩:=U.blk id blk' e'
  refine ⟨uI,dN,an.le_trans l' rj,fun hd=> ?_⟩
  have eP:blk'≠ .dead:=fun e=>hd (an.pQ (e▸rj))
  exact (JR hd).trans (b' eP)
 ·obtain ⟨blk',e',l',b'⟩:=h1.blk id blk h
  obtain ⟨gU,e3,l3,b3⟩:=U.blk id blk' e'
  obtain rfl:gU=uI:=by rw[e3] at sU;exact cT sU
  have eP:blk'≠ .dead:=fun e=>hd (an.pQ (e▸l3))
  rw[U.size id blk' gU b e' e3 hd ((b' eP).trans hb),h1.size id blk blk' b h e' eP hb]
def o0 (P:Program) (w:World) (μ:Nat→Option Nat) (hp0:Nat→Option an) (b:Nat):Prop:= ∃j blk,hp0 j=some blk∧bC P w (μ j) blk b
structure ab9 (P:Program) (A:cP) (key:Nat) (w:World) (I:Nat→Prop) (μ:Nat→Option Nat) (ds es:List V) (w':World) (v:Value) (I2:Nat→Prop) (cd:Nat→Option Nat):Prop where
 xW:aI P w' I2 cd (bt (A.so key es) (A.lv key es)).hp w.heap.size (o0 P w μ (bt (A.sin key) ds).hp) ⟨w,I⟩
 le:lq w I μ (bt (A.sin key) ds).hp w' I2 cd (bt (A.so key es) (A.lv key es)).hp
 res:ao P w' I2 cd (bt (A.so key es) (A.lv key es)).hp v (pO (fm (A.so key es).bV (A.lv key es)))
def lr (P:Program) (A:cP) (C:ae):Prop:=
 ∀key ds es,C key ds=some es→∃fn c,P.funcs[A.aQ key]? =some fn∧fn.body=some c∧
  ∀(w:World) (I:Nat→Prop) (μ:Nat→Option Nat) (vals:List Value),
   uH P w I μ (bt (A.sin key) ds).hp w.heap.size (o0 P w μ (bt (A.sin key) ds).hp)→gV P A.aF w I→
   vals.length=(A.sin key).bV.length→(∀(j:Nat) v x,vals[j]? =some v→(fG ((A.sin key).bV.map (·.2)) ds)[j]? =some x→ao P w I μ (bt (A.sin key) ds).hp v x)→
   Calls P (A.aQ key) vals.toArray w fun e w'=> ∃v I2 cd,e= .returned v∧ab9 P A key w I μ ds es w' v I2 cd
theorem ef.vc {p:Place} {o:Option Nat} {blk:an} {b:Nat} (h:ef P w β hp p o blk) (ho:bC P w o blk b):
  ∃rK,hp p.id=some rK∧bC P w (β p.id) rK b∧∀e es,rK≠ .arr e es true:=by
 cases h with
 | var h=>exact ⟨_,h,.root (by simp) (ho.flat (by simp)),by simp⟩
 | arr h=>exact ⟨_,h,.root (by simp) (ho.flat (by simp)),by simp⟩
 | map h=>exact ⟨_,h,.root (by simp) (ho.flat (by simp)),by simp⟩
 | nest h=>
  refine ⟨_,h,?_,by simp⟩
  cases ho with
  | root _ hb=>exact .root (by simp) hb
  | row hb ha=>exact .row hb ha
 | row h hb ha _ _ _ _ _=>
  have:=ho.flat (by simp)
  cases this
  exact ⟨_,h,.row hb ha,by simp⟩
theorem aI.aca (S:aI P w I β hp B M w0) {id b:Nat} {blk:an} (ab:hp id=some blk) (ho:bC P w (β id) blk b) (hf: ∀e es,blk≠ .arr e es true): ¬I b:=by
 have hr:=S.h.rel id blk ab
 generalize β id=o at hr ho
 cases hr with
 | var hb _ _ hI _ _=>have:=ho.flat (by simp);rw[hb] at this;cases this;exact hI
 | dQ hb=>have:=ho.flat (by simp);rw[hb] at this;cases this
 | @arr e es fz _ _ _ hb _ _ _ ep _=>
  have:=ho.flat (by simp)
  rw[hb] at this;cases this
  cases fz with
  | true=>exact absurd rfl (hf e es)
  | false=>exact ep rfl
 | dead=>exact absurd rfl ho.alive
 | map _ hb _ _ hI _ _=>have:=ho.flat (by simp);rw[hb] at this;cases this;exact hI
 | nest hb hr _=>
  cases ho with
  | root _ aB=>rw[hb] at aB;cases aB;exact (hr _ _ _ _ .here).nI
  | row aB ha=>rw[hb] at aB;cases aB;exact (hr _ _ _ _ ha).nI
theorem Gg {a b:List Nat} (h:xh a b=false) {x:Nat} (ha:x∈a):x∉b:=by
 intro hb
 unfold xh at h
 rw[List.any_eq_false] at h
 exact h x ha (xH hb)
theorem acb (S:aI P w I β hp B M w0) {pl:List Place} {upd:List (Nat × an)} {o:Nat→Option Nat} (kF:(pl.map Place.id).Nodup) (Gh:xh (upd.map (·.1)) (pl.map Place.id)=false)
  (hl: ∀j blk,hp0 j=some blk→∃p,en pl j=some p∧ef P w β hp p (o j) blk)
  (cL:(∀j blk,hp0 j=some blk→∀b,bC P w (o j) blk b→¬ja P w I β hp upd b)→∀j blk,hp0 j=some blk→ed P w (ja P w I β hp upd) o hp0 (o j) blk) (aT: ∀b,ja P w I β hp upd b→b<w.heap.size):
  uH P w (ja P w I β hp upd) o hp0 w.heap.size (o0 P w o hp0):=by
 have cV: ∀j blk,hp0 j=some blk→∀b,bC P w (o j) blk b→¬ja P w I β hp upd b:=by
  intro j blk hj b ho hI
  obtain ⟨p,bx,gW⟩:=hl j blk hj
  obtain ⟨rK,k1,k2,k3⟩:=gW.vc ho
  rcases hI with hI|⟨q,hq,ca,q1,q2⟩
  ·exact S.aca k1 k2 k3 hI
  ·have:=S.h.inj _ _ _ _ b q1 k1 q2 k2
   refine Gg Gh (eB.2 ⟨q,hq,rfl⟩) ?_
   rw[this]
   rw[l9] at bx
   exact eB.2 ⟨p,jJ bx,rfl⟩
 refine ⟨cL cV,fun j1 j2 b1 b2 b h1 U o1 o2=> ?_,fun j blk b h1 o1=> .inl ⟨j,blk,h1,o1⟩,aT⟩
 obtain ⟨p1,q1,q2⟩:=hl j1 b1 h1
 obtain ⟨p2,r1,r2⟩:=hl j2 b2 U
 obtain ⟨c1,x1,x2,_⟩:=q2.vc o1
 obtain ⟨c2,y1,y2,_⟩:=r2.vc o2
 have ab:=S.h.inj _ _ _ _ b x1 y1 x2 y2
 rw[l9] at q1 r1
 have m1:(pl.map Place.id)[j1]? =some p1.id:=by rw[gC,q1];rfl
 have m2:(pl.map Place.id)[j2]? =some p2.id:=by rw[gC,r1];rfl
 rw[←ab] at m2
 obtain ⟨z1,z2⟩:=bu.1 m1
 obtain ⟨z3,z4⟩:=bu.1 m2
 exact (List.getElem_inj kF).1 (z2.trans z4.symm)
def Rl:V→Prop
 | .list .. =>False
 | .pref .. =>False
 | .agg _=>False
 | .bm _=>False
 | .fn .. =>False
 | _=>True
theorem ao.free {v:Value} {x:V} (h:ao P w I β hp v x) (hx:Rl x):ao P w I' β hp v x:=by
 cases h with
 | undef=>exact .undef
 | int=>exact .int
 | bool=>exact .bool
 | str h=>exact .str h
 | list h=>exact hx.elim
 | nilS=>exact .nilS
 | agg=>exact hx.elim
 | bm=>exact hx.elim
 | dA=>exact .dA
 | fn=>exact hx.elim
 | pref=>exact hx.elim
 | eo h=>exact .eo h
 | gp h=>exact .gp h
 | ku h=>exact .ku h
 | dP h hb=>exact .dP h hb
 | whole h hb a b c=>exact .whole h hb a b c
 | eF h hb a b c=>exact .eF h hb a b c
 | fY h hb=>exact .fY h hb
 | sub h hb a b c=>exact .sub h hb a b c
 | ptr h hd hb=>exact .ptr h hd hb
 | jN h rF=>exact .jN h rF
 | jO h rF=>exact .jO h rF
 | row h hb a b c d=>exact .row h hb a b c d
 | cK h hb a b c d e=>exact .cK h hb a b c d e
 | dE=>exact .dE
 | iD h=>exact .iD h
 | cD h hb=>exact .cD h hb
theorem Bk {l:LS} {ds:List V} (hs:l.safe=true):Rl (iT l ds):=by
 cases l<;>simp only[LS.safe] at hs<;>first|(cases hs;done)|trivial
theorem Bl: ∀{ls:List LS} {ds:List V} {j:Nat} {y:V},(iw ls ds)[j]? =some y→∃l fv,l∈ls∧y=iT l fv
 | [],ds,j,y,h=>by simp[iw] at h
 | l::ls,ds,j,y,h=>by
  simp only[iw] at h
  cases j with
  | zero=>simp at h;exact ⟨l,ds,sH ..,h.symm⟩
  | succ j=>
   obtain ⟨l',fv,h1,U⟩:=Bl (j:=j) (by simpa using h)
   exact ⟨l',fv,lL _ h1,U⟩
theorem Rm: ∀{ls:List VS} {ds:List V} {j:Nat} {y:V},(fG ls ds)[j]? =some y→∃l fv,l∈ls∧y=lb l fv
 | [],ds,j,y,h=>by simp[fG] at h
 | l::ls,ds,j,y,h=>by
  simp only[fG] at h
  cases j with
  | zero=>simp at h;exact ⟨l,ds,sH ..,h.symm⟩
  | succ j=>
   obtain ⟨l',fv,h1,U⟩:=Rm (j:=j) (by simpa using h)
   exact ⟨l',fv,lL _ h1,U⟩
theorem Rn {s:VS} {ds:List V} {v:Value} (h:ao P w I β hp v (lb s ds)) (hs:s.safe=true):ao P w I' β hp v (lb s ds):=by
 cases s with
 | one l=>exact h.free (Bk hs)
 | agg ls=>
  simp only[lb] at h⊢
  obtain ⟨cs,rfl,e1,e2⟩:=h.lh
  refine .agg e1 fun j v x hj hx=> ?_
  obtain ⟨l,fv,k1,rfl⟩:=Bl hx
  exact (e2 j v _ hj hx).free (Bk (fc.1 hs l k1))
 | bm ls=>
  simp only[lb] at h⊢
  obtain ⟨cs,rfl,e1,e2⟩:=h.uO
  refine .bm e1 fun j v x hj hx=> ?_
  obtain ⟨l,fv,k1,rfl⟩:=Bl hx
  exact (e2 j v _ hj hx).free (Bk (fc.1 hs l k1))
 | fn f a b=>
  simp only[VS.safe,aN] at hs
  simp only[lb] at h⊢
  cases h with
  | fn a1 a2 b1 b2=>
   refine .fn a1 (fun j v x hj hx=> ?_) b1 (fun j v x hj hx=> ?_)
   ·obtain ⟨l,fv,k1,rfl⟩:=Bl hx
    exact (a2 j v _ hj hx).free (Bk (fc.1 hs.1 l k1))
   ·obtain ⟨l,fv,k1,rfl⟩:=Bl hx
    exact (b2 j v _ hj hx).free (Bk (fc.1 hs.2 l k1))
 | pref ts ls=>cases hs
theorem Pure.scalar {t:TypeId} {v:Value} {x:V} (h:Pure P w I t v x) (hn: ∀e,P.underlying t≠some (.slice e)):Pure P w I' t v x:=by
 cases h with
 | int h=>exact .int h
 | bool h=>exact .bool h
 | str h hl=>exact .str h hl
 | nil h=>exact absurd h (hn _)
 | emp h=>exact absurd h (hn _)
 | list g h=>exact absurd h (hn _)
theorem acd {e t:TypeId} {j:Nat} (h:Au P e=true) (ht:(ba P e)[j]? =some t) (e':TypeId):P.underlying t≠some (.slice e'):=by
 intro hu
 have U:=fc.1 h t (jJ ht)
 rw[hu] at U
 cases U
theorem ace {o:Option Nat} {b:BS} {ds:List V} (h:ed P w I2 β hp o (fV b ds)) (hs:b.safe P=true) (hi: ∀b,I b→I2 b):ed P w I β hp o (fV b ds):=by
 cases b with
 | dead=>exact .dead
 | var T0 ls=>
  simp only[fV] at h⊢
  cases h with
  | var hb hh bd hI hx gr=>
   refine .var hb hh bd (fun h=>hI (hi _ h)) (fun j v x hj cE=> ?_) gr
   obtain ⟨l,fv,k1,rfl⟩:=Rm cE
   exact Rn (hx j v _ hj cE) (fc.1 hs l k1)
 | arr e fz=>
  simp only[BS.safe,aN,lM] at hs
  obtain ⟨rfl,Bj⟩:=hs
  simp only[fV] at h⊢
  generalize (V.nth ds 0).toList=es at h⊢
  cases h with
  | dQ hb=>exact .dQ hb
  | arr a1 a2 a3 a4 a5 a6 a7=>
   refine .arr a1 a2 a3 a4 (fun h=>by cases h) (fun _ h=>a6 rfl (hi _ h)) fun i j x t' y1 y2 y3=> ?_
   obtain ⟨v,z1,z2⟩:=a7 i j x t' y1 y2 y3
   exact ⟨v,z1,z2.scalar (acd Bj y2)⟩
 | nest e=>
  simp only[fV] at h⊢
  generalize (V.nth ds 0).toList=es at h⊢
  cases h with
  | nest hb cM oT=>
   refine .nest hb (fun q b' e1 m1 hq=> ?_) oT
   obtain ⟨ok,⟨Ca,c1,c2,c3⟩,nI⟩:=cM q b' e1 m1 hq
   refine ⟨ok,⟨Ca,c1,c2,fun i j x t' y1 y2 y3=> ?_⟩,fun h=>nI (hi _ h)⟩
   obtain ⟨v,z1,z2⟩:=c3 i j x t' y1 y2 y3
   refine ⟨v,z1,?_⟩
   generalize bQ P e1 x j=y at z2⊢
   cases z2 with
   | fX a p=>
    refine .fX a (p.scalar fun e hu=> ?_)
    unfold fU at a
    rw[hu] at a
    cases a
   | emp a b=>exact .emp a b
   | row a b c d e=>exact .row a b c d e
 | map t=>
  simp only[fV] at h⊢
  cases h with
  | map a1 a2 a3 a4 a5 a6 a7=>exact .map a1 a2 a3 a4 (fun h=>a5 (hi _ h)) a6 a7
theorem K0: ∀{l:List BS} {ds:List V} {j:Nat} {y:an},(eO l ds)[j]? =some y→∃b fv,l[j]? =some b∧y=fV b fv
 | [],ds,j,y,h=>by simp[eO] at h
 | b::l,ds,j,y,h=>by
  simp only[eO] at h
  cases j with
  | zero=>simp at h;exact ⟨b,ds,rfl,h.symm⟩
  | succ j=>
   obtain ⟨b',fv,h1,U⟩:=K0 (j:=j) (by simpa using h)
   exact ⟨b',fv,by simpa using h1,U⟩
theorem Ro: ∀{l:List (Nat × VS)} {ds:List V} {q:Nat × V},q∈fm l ds→∃s fv,(q.1,s)∈l∧q.2=lb s fv
 | [],ds,q,h=>by simp[fm] at h
 | (k,s)::l,ds,q,h=>by
  simp only[fm,dp] at h
  rcases h with h|h
  ·subst h;exact ⟨s,ds,sH ..,rfl⟩
  ·obtain ⟨s',fv,h1,U⟩:=Ro h
   exact ⟨s',fv,lL _ h1,U⟩
theorem acf {S:Shape} {es:List V} (hs:S.safe P=true) (hi: ∀b,I b→I2 b) {N:Nat→Prop} {st:Start} (h:aI P w' I2 cd (bt S es).hp B N st) (h0: ∀b,I b→st.I b):
  aI P w' I cd (bt S es).hp B N st∧∀v,ao P w' I2 cd (bt S es).hp v (pO (fm S.bV es))→ao P w' I cd (bt S es).hp v (pO (fm S.bV es)):=by
 unfold Shape.safe at hs
 simp only[aN] at hs
 obtain ⟨iZ,l8⟩:=hs
 have one: ∀q∈fm S.bV es,∀v,ao P w' I2 cd (bt S es).hp v q.2→ao P w' I cd (bt S es).hp v q.2:=by
  intro q hq v hv
  obtain ⟨s,fv,k1,k2⟩:=Ro hq
  rw[k2] at hv⊢
  exact Rn hv (fc.1 iZ _ k1)
 refine ⟨⟨⟨fun j blk hj=> ?_,h.h.inj,h.h.own,fun b hb=>h.h.jP b (hi b hb)⟩,h.cm,h.size,fun b hb=> .inl (h0 b hb),h.io⟩,fun v hv=> ?_⟩
 ·have hr:=h.h.rel j blk hj
  have fZ:=hj
  simp only[bt,mk,hY] at fZ
  obtain ⟨b,fv,k1,rfl⟩:=K0 fZ
  exact ace hr (fc.1 l8 _ (jJ k1)) hi
 ·generalize fm S.bV es=l at one hv⊢
  match l,one,hv with
  | [],_,hv=>
   simp only[pO,fl] at hv⊢
   obtain ⟨cs,rfl,e1,e2⟩:=hv.uO
   exact .bm e1 fun j v x _ hx=>by simp at hx
  | [q],one,hv=>exact one q (ez.2 rfl) v hv
  | q::q2::l,one,hv=>
   simp only[pO] at hv⊢
   obtain ⟨cs,rfl,e1,e2⟩:=hv.uO
   refine .bm e1 fun j v x hj hx=> ?_
   obtain ⟨y,hy,rfl⟩:=eB.1 (jJ hx)
   exact one y hy v (e2 j v _ hj hx)
end
section
variable {P:Program} {A:cP} {w w':World} {I I' I2:Nat→Prop} {μ β β' cd:Nat→Option Nat} {hp hp' hp0 bx:Nat→Option an} {C:ae} {B:Nat} {M:Nat→Prop} {w0:Start}
inductive gy (σ:List Place):an→an→Prop
 | dead:gy σ .dead .dead
 | var {T:TypeId} {cs:List V}:gy σ (.var T cs) (.var T (cs.map (Fe σ)))
 | arr {e:TypeId} {es:List V} {fz:Bool}:gy σ (.arr e es fz) (.arr e es fz)
 | nest {e:TypeId} {es:List V} {v1 v2:List Nat}:gy σ (.nest e es v1) (.nest e es v2)
 | map {t:TypeId} {es:List V}:gy σ (.map t es) (.map t es)
theorem gy.of (σ:List Place) (b:an):gy σ b (uA σ b):=by
 cases b with
 | dead=>exact .dead
 | var T cs=>exact .var
 | arr e es fz=>exact .arr
 | nest e es v=>exact .nest
 | map t es=>exact .map
theorem Rp {σ:List Place}: ∀{pl:List Place} {bs:List an} {acc:List (Nat × an)} {k:List (Nat × an)→Rd R} {r:R} {rd:List Nat},(qY σ pl bs acc k).run C hp=some (r,rd)→
  pl.length≤bs.length∧∃bk e8,(k bk).run C hp=some (r,e8)∧(∀q∈bk,q∈acc∨∃(j:Nat) (b:an),pl[j]? =some (.blk q.1)∧bs[j]? =some b∧gy σ b q.2∧((∃e es v2,q.2= .nest e es v2)→∃e es aq e' aP,hp q.1=some (.nest e es aq)∧q.2= .nest e' aP (aq.map (· +1))))∧
   (∀q∈acc,q∈bk)∧∀(j:Nat) p,pl[j]? =some p→∃id b,p= .blk id∧(id,b)∈bk
 | [],bs,acc,k,r,rd,h=>⟨kV _,acc,rd,by simpa only[qY] using h,fun q hq=> .inl hq,fun q hq=>hq,fun j p hp=>by simp at hp⟩
 | .row _ _ _::pl,bs,acc,k,r,rd,h=>by
  cases bs<;>(simp only[qY] at h;cases h)
 | .blk id::pl,[],acc,k,r,rd,h=>by simp only[qY] at h;cases h
 | .blk id::pl,b::bs,acc,k,r,rd,h=>by
  have fin: ∀{b2:an} {jB:List Nat},(qY σ pl bs ((id,b2)::acc) k).run C hp=some (r,jB)→gy σ b b2→((∃e es v2,b2= .nest e es v2)→∃e es aq e' aP,hp id=some (.nest e es aq)∧b2= .nest e' aP (aq.map (· +1)))→
    (Place.blk id::pl).length≤(b::bs).length∧∃bk e8,(k bk).run C hp=some (r,e8)∧(∀q∈bk,q∈acc∨∃(j:Nat) (b':an),(Place.blk id::pl)[j]? =some (.blk q.1)∧(b::bs)[j]? =some b'∧gy σ b' q.2∧((∃e es v2,q.2= .nest e es v2)→∃e es aq e' aP,hp q.1=some (.nest e es aq)∧q.2= .nest e' aP (aq.map (· +1))))∧
     (∀q∈acc,q∈bk)∧∀(j:Nat) p,(Place.blk id::pl)[j]? =some p→∃id b,p= .blk id∧(id,b)∈bk:=by
   intro b2 jB h1 hb hn
   obtain ⟨a0,bk,e8,a1,a2,a3,a4⟩:=Rp h1
   refine ⟨by simp only[List.length_cons];omega,bk,e8,a1,fun q hq=> ?_,fun q hq=>a3 q (lL _ hq),fun j p hj=> ?_⟩
   ·rcases a2 q hq with h|⟨j,b',k1,k2,k3,k4⟩
    ·rcases dp.1 h with e|h
     ·subst e;exact .inr ⟨0,b,rfl,rfl,hb,hn⟩
     ·exact .inl h
    ·exact .inr ⟨j+1,b',by simpa using k1,by simpa using k2,k3,k4⟩
   ·cases j with
    | zero=>simp at hj;subst hj;exact ⟨id,b2,rfl,a3 _ (sH ..)⟩
    | succ j=>exact a4 j p (by simpa using hj)
  cases b with
  | nest e es v=>
   simp only[qY] at h
   obtain ⟨l,h⟩:=run_get h
   cases ab:hp id with
   | none=>rw[ab] at h;cases h
   | some blk=>
    rw[ab] at h
    cases blk with
    | nest e0 JS aq=>exact fin h .nest fun _=>⟨e0,JS,aq,e,es,ab,rfl⟩
    | _=>cases h
  | dead=>exact fin h (.of σ _) fun ⟨_,_,_,h⟩=>by cases h
  | var T cs=>exact fin h (.of σ _) fun ⟨_,_,_,h⟩=>by cases h
  | arr e es fz=>exact fin h (.of σ _) fun ⟨_,_,_,h⟩=>by cases h
  | map t es=>exact fin h (.of σ _) fun ⟨_,_,_,h⟩=>by cases h
theorem Rq {σ:List Place}: ∀{bs:List an} {n:Nat} {q:Nat × an},q∈qZ σ n bs→∃i b,bs[i]? =some b∧q=(n+i,uA σ b)
 | [],n,q,h=>by simp[qZ] at h
 | b::bs,n,q,h=>by
  simp only[qZ,dp] at h
  rcases h with h|h
  ·exact ⟨0,b,rfl,h⟩
  ·obtain ⟨i,b',h1,U⟩:=Rq h
   exact ⟨i+1,b',by simpa using h1,by rw[U];congr 1;omega⟩
theorem Rr {σ:List Place}: ∀{bs:List an} {n i:Nat} {b:an},bs[i]? =some b→(n+i,uA σ b)∈qZ σ n bs
 | [],n,i,b,h=>by simp at h
 | b0::bs,n,i,b,h=>by
  simp only[qZ,dp]
  cases i with
  | zero=>simp at h;subst h;exact .inl rfl
  | succ i=>exact .inr (by rw[show n+(i+1)=n+1+i by omega];exact Rr (by simpa using h))
theorem Gi: ∀{k n i:Nat},i<k→(sR n k)[i]? =some (.blk (n+i))
 | 0,n,i,h=>by omega
 | k+1,n,0,h=>rfl
 | k+1,n,i+1,h=>by
  simp only[sR,List.getElem?_cons_succ]
  rw[Gi (by omega)]
  congr 2
  omega
theorem K1: ∀{k n:Nat},(sR n k).length=k
 | 0,_=>rfl
 | k+1,n=>by simp[sR,K1]
theorem Rs: ∀{bs:List (Nat × an)} {k:Rd R} {r:R} {rd:List Nat},(Ff bs k).run C hp=some (r,rd)→(∀q∈bs,hp q.1=none)∧∃e8,k.run C hp=some (r,e8)
 | [],k,r,rd,h=>⟨by simp,rd,h⟩
 | (id,b)::l,k,r,rd,h=>by
  simp only[Ff] at h
  obtain ⟨l1,h⟩:=run_get h
  cases ab:hp id with
  | some blk=>rw[ab] at h;cases h
  | none=>
   rw[ab] at h
   obtain ⟨h1,U⟩:=Rs h
   refine ⟨fun q hq=> ?_,U⟩
   rcases dp.1 hq with e|hq
   ·subst e;exact ab
   ·exact h1 q hq
structure p6 (σ:List Place) (cd:Nat→Option Nat) (bx:Nat→Option an) (β':Nat→Option Nat) (hp':Nat→Option an):Prop where
 blk: ∀j b,bx j=some b→∃id b',en σ j=some (.blk id)∧hp' id=some b'∧gy σ b b'∧(b≠ .dead→β' id=cd j)
 none: ∀j,bx j=none→en σ j=none
 anR: ∀j id ver path,en σ j≠some (.row id ver path)
theorem p6.leaf {σ:List Place} (T:p6 σ cd bx β' hp') {v:Value} {x:V} (h:ao P w I cd bx v x):ao P w I β' hp' v (kp σ x):=by
 have look: ∀{j b},bx j=some b→∃id b',en σ j=some (.blk id)∧hp' id=some b'∧gy σ b b'∧(b≠ .dead→β' id=cd j):=fun h=>T.blk _ _ h
 cases h with
 | undef=>exact .undef
 | int=>exact .int
 | bool=>exact .bool
 | str h=>exact .str h
 | list h=>exact .list h
 | nilS=>exact .nilS
 | agg=>exact .undef
 | bm=>exact .undef
 | dA=>exact .dA
 | fn=>exact .undef
 | pref a b c=>exact .pref a b c
 | @eo _ e j h=>
  obtain ⟨id,b',k1,k2,k3,k4⟩:=look h
  simp only[kp,k1]
  cases k3
  exact .eo k2
 | @gp _ e j _ _ h=>
  obtain ⟨id,b',k1,k2,k3,k4⟩:=look h
  simp only[kp,k1]
  cases k3
  exact .gp k2
 | @ku _ j _ _ h=>
  obtain ⟨id,b',k1,k2,k3,k4⟩:=look h
  simp only[kp,k1]
  cases k3
  exact .ku k2
 | @dP e j fz _ h hb=>
  obtain ⟨id,b',k1,k2,k3,k4⟩:=look h
  simp only[kp,k1]
  cases k3
  exact .dP k2 ((k4 (by simp)).trans hb)
 | @whole e j es fz b cap h hb a1 a2 a3=>
  obtain ⟨id,b',k1,k2,k3,k4⟩:=look h
  simp only[kp,k1]
  cases k3
  exact .whole k2 ((k4 (by simp)).trans hb) a1 a2 a3
 | @eF e j es aq b cap h hb a1 a2 a3=>
  obtain ⟨id,b',k1,k2,k3,k4⟩:=look h
  simp only[kp,k1]
  cases k3
  exact .eF k2 ((k4 (by simp)).trans hb) a1 a2 a3
 | @fY e j fz _ h hb=>
  obtain ⟨id,b',k1,k2,k3,k4⟩:=look h
  simp only[kp,k1]
  cases k3
  exact .fY k2 ((k4 (by simp)).trans hb)
 | @sub e j off len es fz b o cap h hb a1 a2 a3=>
  obtain ⟨id,b',k1,k2,k3,k4⟩:=look h
  simp only[kp,k1]
  cases k3
  exact .sub k2 ((k4 (by simp)).trans hb) a1 a2 a3
 | @ptr j i c b blk h hd hb=>
  obtain ⟨id,b',k1,k2,k3,k4⟩:=look h
  simp only[kp,k1]
  have hs:blk.sz P=b'.sz P:=by cases k3<;>rfl
  rw[hs]
  exact .ptr k2 (by intro e;subst e;cases k3;exact hd rfl) ((k4 hd).trans hb)
 | jN=>exact .undef
 | jO=>exact .undef
 | row=>exact .undef
 | cK=>exact .undef
 | dE=>exact .dE
 | @iD _ t j h=>
  obtain ⟨id,b',k1,k2,k3,k4⟩:=look h
  simp only[kp,k1]
  cases k3
  exact .iD k2
 | @cD t j b es h hb=>
  obtain ⟨id,b',k1,k2,k3,k4⟩:=look h
  simp only[kp,k1]
  cases k3
  exact .cD k2 ((k4 (by simp)).trans hb)
theorem p6.one {σ:List Place} (T:p6 σ cd bx β' hp') {v:Value} {x:V} (h:ao P w I cd bx v x):ao P w I β' hp' v (JH σ x):=by
 cases x with
 | agg xs=>
  obtain ⟨cs,rfl,e1,e2⟩:=h.lh
  exact .agg (by simpa using e1) fun j v y hj hy=>by
   rw[gC] at hy
   cases hx:xs[j]? with
   | none=>rw[hx] at hy;cases hy
   | some x=>rw[hx] at hy;cases hy;exact T.leaf (e2 j v x hj hx)
 | fn f a b=>
  cases h with
  | fn a1 a2 b1 b2=>
   refine .fn (by simpa using a1) (fun j v y hj hy=> ?_) (by simpa using b1) (fun j v y hj hy=> ?_)
   ·rw[gC] at hy
    cases hx:a[j]? with
    | none=>rw[hx] at hy;cases hy
    | some x=>rw[hx] at hy;cases hy;exact T.leaf (a2 j v x hj hx)
   ·rw[gC] at hy
    cases hx:b[j]? with
    | none=>rw[hx] at hy;cases hy
    | some x=>rw[hx] at hy;cases hy;exact T.leaf (b2 j v x hj hx)
 | _=>exact T.leaf h
theorem p6.val {σ:List Place} (T:p6 σ cd bx β' hp') {v:Value} {x:V} (h:ao P w I cd bx v x):ao P w I β' hp' v (Fe σ x):=by
 cases x with
 | bm xs=>
  obtain ⟨cs,rfl,e1,e2⟩:=h.uO
  exact .bm (by simpa using e1) fun j v y hj hy=>by
   rw[gC] at hy
   cases hx:xs[j]? with
   | none=>rw[hx] at hy;cases hy
   | some x=>rw[hx] at hy;cases hy;exact T.one (e2 j v x hj hx)
 | _=>exact T.one h
theorem p6.Ru {σ:List Place} (T:p6 σ cd bx β' hp') {o:Option Nat} {b b':an} (h:ed P w I cd bx o b) (hb:gy σ b b'):ed P w I β' hp' o b':=by
 cases hb with
 | dead=>exact .dead
 | var=>
  cases h with
  | var a1 a2 a3 a4 a5 a6=>
   refine .var a1 a2 (by simpa using a3) a4 (fun j v y hj hy=> ?_) a6
   rw[gC] at hy
   cases hx:(_:List V)[j]? with
   | none=>rw[hx] at hy;cases hy
   | some x=>rw[hx] at hy;cases hy;exact T.val (a5 j v x hj hx)
 | arr=>
  cases h with
  | dQ hb=>exact .dQ hb
  | arr a1 a2 a3 a4 a5 a6 a7=>exact .arr a1 a2 a3 a4 a5 a6 a7
 | nest=>
  cases h with
  | nest a1 a2 a3=>exact .nest a1 a2 a3
 | map=>
  cases h with
  | map a1 a2 a3 a4 a5 a6 a7=>exact .map a1 a2 a3 a4 a5 a6 a7
theorem gy.vc {σ:List Place} {o:Option Nat} {b b':an} (h:gy σ b b') {m:Nat} (ho:bC P w o b' m):bC P w o b m:=by
 cases h with
 | dead=>exact absurd rfl ho.alive
 | var=>exact .root (by simp) (ho.flat (by simp))
 | arr=>exact .root (by simp) (ho.flat (by simp))
 | map=>exact .root (by simp) (ho.flat (by simp))
 | nest=>
  cases ho with
  | root _ hb=>exact .root (by simp) hb
  | row hb ha=>exact .row hb ha
theorem gy.Rv {σ:List Place} {b b':an} (h:gy σ b b'):b'≠ .dead→b≠ .dead:=by
 intro h1 U;subst U;cases h;exact h1 rfl
end
section
variable {P:Program} {A:cP} {w w':World} {I I' I2:Nat→Prop} {μ β β' cd:Nat→Option Nat} {hp hp' hp0 bx:Nat→Option an} {C:ae} {B:Nat} {M:Nat→Prop} {w0:Start}
theorem Rw: ∀{vs:List Nat} {k:Nat},k<vs.length→bI (vs.map (· +1)) k=bI vs k+1
 | [],k,h=>by simp at h
 | v::vs,0,h=>rfl
 | v::vs,k+1,h=>by simp only[cr,bI];exact Rw (by simpa using h)
theorem Rx: ∀{vs:List Nat} {k:Nat},bI vs k≤bI (vs.map (· +1)) k
 | [],k=>by simp[bI]
 | v::vs,0=>by simp[bI]
 | v::vs,k+1=>by simp only[cr,bI];exact Rx
def Bm (hp:Nat→Option an) (q:Nat × an):Prop:=(∃e es v2,q.2= .nest e es v2)→∃e es aq e' aP,hp q.1=some (.nest e es aq)∧q.2= .nest e' aP (aq.map (· +1))
theorem ef.K2 {id:Nat} {o:Option Nat} {blk:an} (h:ef P w β hp (.blk id) o blk):o=β id∧∃b0,hp id=some b0∧b0≠ .dead:=by
 cases h with
 | var h=>exact ⟨rfl,_,h,by simp⟩
 | arr h=>exact ⟨rfl,_,h,by simp⟩
 | nest h=>exact ⟨rfl,_,h,by simp⟩
 | map h=>exact ⟨rfl,_,h,by simp⟩
theorem ef.acg {id:Nat} {o:Option Nat} {c b b' b0:an} {σ:List Place} (h:ef P w β hp (.blk id) o c) (h0:hp id=some b0) (hle:c.le b) (hb:gy σ b b') (hn:Bm hp (id,b')):b0.le b':=by
 cases h with
 | var h=>
  rw[h] at h0;cases h0
  cases hb with
  | dead=>trivial
  | var=>trivial
  | arr=>exact hle.elim
  | nest=>exact hle.elim
  | map=>exact hle.elim
 | arr h=>
  rw[h] at h0;cases h0
  cases hb with
  | dead=>trivial
  | var=>exact hle.elim
  | arr=>exact hle
  | nest=>exact hle.elim
  | map=>exact hle.elim
 | map h=>
  rw[h] at h0;cases h0
  cases hb with
  | dead=>trivial
  | map=>exact hle
  | _=>exact hle.elim
 | nest h=>
  rw[h] at h0;cases h0
  cases hb with
  | dead=>trivial
  | var=>exact hle.elim
  | arr=>exact hle
  | map=>exact hle.elim
  | @nest e es v1 v2=>
   obtain ⟨e1,cw,vd,e2,cf,k1,k2⟩:=hn ⟨_,_,_,rfl⟩
   cases k2
   change hp id=_ at k1
   rw[h] at k1;cases k1
   exact ⟨hle.1,hle.2.1,by simp,fun k=>Rx⟩
theorem ef.other {p:Place} {o:Option Nat} {blk:an} (h:ef P w β hp p o blk) (he:hp' p.id=hp p.id):ef P w β hp' p o blk:=by
 cases h with
 | var h=>exact .var (he.trans h)
 | arr h=>exact .arr (he.trans h)
 | nest h=>exact .nest (he.trans h)
 | map h=>exact .map (he.trans h)
 | row h a b c d e f g=>exact .row (he.trans h) a b c d e f g
open Classical in
theorem Ry (S:aI P w I β hp B M w0) {pl:List Place} {o:Nat→Option Nat} {bs:List an} {nb:Nat} {bk fr:List (Nat × an)} {σ:List Place} (rL:σ=pl++sR nb (bs.length-pl.length)) (Bn:fr=qZ σ nb (bs.drop pl.length))
  (kF:(pl.map Place.id).Nodup) (rr:pl.length≤bs.length)
  (jh: ∀(j:Nat) p,pl[j]? =some p→∃id b,p= .blk id∧(id,b)∈bk) (Gj: ∀q∈bk,∃(j:Nat) (b:an),pl[j]? =some (.blk q.1)∧bs[j]? =some b∧gy σ b q.2∧Bm hp q)
  (hl: ∀j blk,hp0 j=some blk→∃p,en pl j=some p∧ef P w β hp p (o j) blk) (hd: ∀j,j<pl.length→∃blk,hp0 j=some blk)
  (Sc:aI P w' I2 cd (jL bs) w.heap.size (o0 P w o hp0) ⟨w,I⟩) (xX:lq w I o hp0 w' I2 cd (jL bs)) (te: ∀q∈fr,hp q.1=none):
  ∃β',Le P w I β hp w' I2 β' (bO hp (fr++bk))∧aI P w' I2 β' (bO hp (fr++bk)) B M w0∧p6 σ cd (jL bs) β' (bO hp (fr++bk)):=by
 generalize K3:bO hp (fr++bk)=gW
 let β':Nat→Option Nat:=fun n=>if∃q∈fr,q.1=n then cd (pl.length+(n-nb)) else β n
 have Rz: ∀(j:Nat) id,pl[j]? =some (.blk id)→∃c,hp0 j=some c∧ef P w β hp (.blk id) (o j) c:=by
  intro j id hj
  obtain ⟨c,hc⟩:=hd j (bu.1 hj).1
  obtain ⟨p,h1,U⟩:=hl j c hc
  rw[l9,hj] at h1
  cases h1
  exact ⟨c,hc,U⟩
 have uniq: ∀(j1 j2:Nat) id,pl[j1]? =some (.blk id)→pl[j2]? =some (.blk id)→j1=j2:=by
  intro j1 j2 id h1 U
  have m1:(pl.map Place.id)[j1]? =some id:=by rw[gC,h1];rfl
  have m2:(pl.map Place.id)[j2]? =some id:=by rw[gC,U];rfl
  obtain ⟨z1,z2⟩:=bu.1 m1
  obtain ⟨z3,z4⟩:=bu.1 m2
  exact (List.getElem_inj kF).1 (z2.trans z4.symm)
 have cls: ∀id,(∃i b,id=nb+i∧bs[pl.length+i]? =some b∧gW id=some (uA σ b)∧hp id=none∧β' id=cd (pl.length+i))∨
   (∃(j:Nat) (b b' c b0:an),pl[j]? =some (.blk id)∧bs[j]? =some b∧hp0 j=some c∧ef P w β hp (.blk id) (o j) c∧hp id=some b0∧b0.le b'∧gW id=some b'∧gy σ b b'∧Bm hp (id,b')∧β' id=β id∧c.le b∧(b≠ .dead→cd j=β id))∨
   (gW id=hp id∧(∀j:Nat,pl[j]? ≠some (.blk id))∧β' id=β id):=by
  intro id
  by_cases hm: ∃b,(id,b)∈fr++bk
  ·obtain ⟨b,hm⟩:=hm
   obtain ⟨b',Ft,he⟩:=Fp (hp:=hp) hm
   rw[K3] at he
   rcases eM.1 Ft with h|h
   ·have h0:=te _ h
    have o4:β' id=cd (pl.length+(id-nb)):=ah ⟨_,h,rfl⟩
    rw[Bn] at h
    obtain ⟨i,b1,k1,k2⟩:=Rq h
    rw[il] at k1
    cases k2
    exact .inl ⟨i,b1,rfl,k1,he,h0,by rw[o4];congr 2;omega⟩
   ·obtain ⟨j,b1,q1,q2,q3,q4⟩:=Gj _ h
    obtain ⟨c,c1,c2⟩:=Rz j id q1
    obtain ⟨c3,b0,c4,c5⟩:=c2.K2
    obtain ⟨b2,d1,d2,d3⟩:=xX.blk j c c1
    rw[hY,q2] at d1
    cases d1
    refine .inr (.inl ⟨j,b1,b',c,b0,q1,q2,c1,c2,c4,c2.acg c4 d2 q3 q4,he,q3,q4,ai ?_,d2,fun h=>(d3 h).trans c3⟩)
    rintro ⟨q,hq,hqe⟩
    rw[←hqe,te q hq] at c4
    cases c4
  ·refine .inr (.inr ⟨?_,fun j hj=> ?_,ai ?_⟩)
   ·rcases uL (hp:=hp) (l:=fr++bk) (id:=id) with h|⟨b,hb,_⟩
    ·rw[K3] at h;exact h
    ·exact absurd ⟨b,hb⟩ hm
   ·obtain ⟨aG,b,e,hb⟩:=jh j _ hj
    cases e
    exact hm ⟨b,eM.2 (.inr hb)⟩
   ·rintro ⟨q,hq,rfl⟩
    exact hm ⟨q.2,eM.2 (.inl hq)⟩
 have RA: ∀b,o0 P w o hp0 b→∃(j id:Nat) (b1:an),pl[j]? =some (.blk id)∧hp id=some b1∧bC P w (β id) b1 b∧∀e es,b1≠ .arr e es true:=by
  rintro b ⟨j,c,hc,ho⟩
  obtain ⟨p,h1,U⟩:=hl j c hc
  rw[l9] at h1
  obtain ⟨id,b2,rfl,_⟩:=jh j p h1
  obtain ⟨b1,k1,k2,k3⟩:=U.vc ho
  exact ⟨j,id,b1,h1,k1,k2,k3⟩
 have other: ∀id blk b,hp id=some blk→bC P w (β id) blk b→(∀j:Nat,pl[j]? ≠some (.blk id))→¬o0 P w o hp0 b∧w'.heap[b]? =w.heap[b]? ∧(I2 b→I b):=by
  intro id blk b e1 e3 e4
  have o5: ¬o0 P w o hp0 b:=by
   intro hx
   obtain ⟨j,aG,b1,i1,i2,i3,_⟩:=RA b hx
   have:=S.h.inj id aG _ _ b e1 i2 e3 i3
   subst this
   exact e4 j i1
  have aT:=S.h.lt e1 e3
  refine ⟨o5,Sc.cm b aT o5,fun h=> ?_⟩
  rcases Sc.new b h with h|h|h
  ·exact h
  ·exact absurd h o5
  ·omega
 have s8:p6 σ cd (jL bs) β' gW:=by
  refine ⟨fun j b hj=> ?_,fun j hj=> ?_,fun j id ver path hj=> ?_⟩
  ·rw[hY] at hj
   by_cases cp:j<pl.length
   ·obtain ⟨id,b1,e,lZ⟩:=jh j _ (bN cp)
    have Gk:pl[j]? =some (.blk id):=by rw[bN cp,e]
    have K4:en σ j=some (.blk id):=by rw[rL];exact oZ (by rw[l9];exact Gk)
    rcases cls id with ⟨i,b2,c1,c2,c3,c4,c5⟩|⟨j',b2,b',c,b0,q1,q2,q3,q4,q5,q6,q7,q8,q9,p7,xY,rM⟩|⟨c1,c2,c3⟩
    ·obtain ⟨c,d1,d2⟩:=Rz j id Gk
     obtain ⟨_,b0,d3,_⟩:=d2.K2
     rw[d3] at c4;cases c4
    ·obtain rfl:=uniq _ _ _ q1 Gk
     rw[hj] at q2;cases q2
     exact ⟨id,b',K4,q7,q8,fun h=>p7.trans (rM h).symm⟩
    ·exact absurd Gk (c2 j)
   ·have RB:=(bu.1 hj).1
    have K4:en σ j=some (.blk (nb+(j-pl.length))):=by
     rw[rL,l9,iq (by omega)]
     exact Gi (by omega)
    have hm:(nb+(j-pl.length),uA σ b)∈fr:=by
     rw[Bn]
     refine Rr ?_
     rw[il,show pl.length+(j-pl.length)=j by omega]
     exact hj
    rcases cls (nb+(j-pl.length)) with ⟨i,b2,c1,c2,c3,c4,c5⟩|⟨j',b2,b',c,b0,q1,q2,q3,q4,q5,q6,q7,q8,q9,p7,xY,rM⟩|⟨c1,c2,c3⟩
    ·have hi:i=j-pl.length:=by omega
     subst hi
     rw[show pl.length+(j-pl.length)=j by omega] at c2 c5
     rw[hj] at c2;cases c2
     exact ⟨_,_,K4,c3,.of σ _,fun _=>c5⟩
    ·rw[te _ hm] at q5;cases q5
    ·obtain ⟨b',Ft,he⟩:=Fp (hp:=hp) (l:=fr++bk) (eM.2 (.inl hm))
     rw[K3,c1,te _ hm] at he
     cases he
  ·rw[hY] at hj
   have:=List.getElem?_eq_none_iff.1 hj
   rw[rL,l9,List.getElem?_eq_none_iff,cz,K1]
   omega
  ·rw[rL,l9] at hj
   by_cases cp:j<pl.length
   ·rw[iR cp] at hj
    obtain ⟨aG,b1,e,_⟩:=jh j _ hj
    cases e
   ·have RB:j-pl.length<bs.length-pl.length:=by
     have:=(bu.1 hj).1
     rw[cz,K1] at this
     omega
    rw[iq (by omega),Gi RB] at hj
    cases hj
 have hle:Le P w I β hp w' I2 β' gW:=by
  refine ⟨xX.dq,xX.cm,fun id blk ab=> ?_,fun id blk blk' b ab bJ rN hb=> ?_,fun id e es aq e' aP vers' b q i c t v e1 l ab bJ hb aT hv ht hc=> ?_⟩
  ·rcases cls id with ⟨i,b2,c1,c2,c3,c4,c5⟩|⟨j',b2,b',c,b0,q1,q2,q3,q4,q5,q6,q7,q8,q9,p7,xY,rM⟩|⟨c1,c2,c3⟩
   ·rw[ab] at c4;cases c4
   ·rw[ab] at q5;cases q5
    exact ⟨b',q7,q6,fun _=>p7⟩
   ·exact ⟨blk,c1.trans ab,an.le_refl _,fun _=>c3⟩
  ·rcases cls id with ⟨i,b2,c1,c2,c3,c4,c5⟩|⟨j',b2,b',c,b0,q1,q2,q3,q4,q5,q6,q7,q8,q9,p7,xY,rM⟩|⟨c1,c2,c3⟩
   ·rw[ab] at c4;cases c4
   ·rw[q7] at bJ;cases bJ
    exact xX.size j' c b2 b q3 (by rw[hY];exact q2) (q8.Rv rN) (q4.K2.1.trans hb)
   ·rw[c1,ab] at bJ
    cases bJ
    simp only[bsize,(other id blk b ab (.root rN hb) c2).2.1]
  ·rcases cls id with ⟨i2,b2,c1,c2,c3,c4,c5⟩|⟨j',b2,b',c',b0,q1,q2,q3,q4,q5,q6,q7,q8,q9,p7,xY,rM⟩|⟨c1,c2,c3⟩
   ·rw[ab] at c4;cases c4
   ·rw[q7] at bJ;cases bJ
    obtain ⟨_,_,vd,_,_,k1,k2⟩:=q9 ⟨_,_,_,rfl⟩
    change hp id=_ at k1
    rw[ab] at k1;cases k1
    cases k2
    rw[Rw aT] at hv
    omega
   ·rw[c1,ab] at bJ
    cases bJ
    exact ⟨l,rfl,hc.mono fun _ _ _ _ h=>(other id _ _ ab (.row hb h) c2).2.1⟩
 have place: ∀id blk b,gW id=some blk→bC P w' (β' id) blk b→(∃j c,jL bs j=some c∧bC P w' (cd j) c b∧en σ j=some (.blk id))∨(b<w.heap.size∧¬o0 P w o hp0 b∧hp id=some blk∧bC P w (β id) blk b):=by
  intro id blk b e1 e3
  rcases cls id with ⟨i,b2,c1,c2,c3,c4,c5⟩|⟨j',b2,b',c,b0,q1,q2,q3,q4,q5,q6,q7,q8,q9,p7,xY,rM⟩|⟨c1,c2,c3⟩
  ·rw[c3] at e1;cases e1
   rw[c5] at e3
   refine .inl ⟨pl.length+i,b2,by rw[hY];exact c2,(gy.of σ b2).vc e3,?_⟩
   have:=(bu.1 c2).1
   rw[rL,l9,iq (by omega),Gi (by omega),c1]
   congr 3
   omega
  ·rw[q7] at e1;cases e1
   have rN:b2≠ .dead:=q8.Rv e3.alive
   rw[p7,←rM rN] at e3
   exact .inl ⟨j',b2,by rw[hY];exact q2,q8.vc e3,by rw[rL];exact oZ (by rw[l9];exact q1)⟩
  ·rw[c1] at e1
   rw[c3] at e3
   have:=e3.mono (w:=w) fun b hb=>(other id blk b e1 hb c2).2.1
   exact .inr ⟨S.h.lt e1 this,(other id blk b e1 this c2).1,e1,this⟩
 have sX: ∀b,o0 P w o hp0 b∨w.heap.size≤b→M b∨B≤b:=by
  rintro b (h|h)
  ·obtain ⟨j,id,b1,i1,i2,i3,_⟩:=RA b h
   exact S.h.own id b1 b i2 i3
  ·exact .inr (kW S.size h)
 have K5: ∀j c b,jL bs j=some c→bC P w' (cd j) c b→o0 P w o hp0 b∨w.heap.size≤b:=fun j c b h1 U=>Sc.h.own j c b h1 U
 refine ⟨β',hle,⟨⟨fun id blk ab=> ?_,fun i1 i2 b1 b2 b e1 e2 f1 f2=> ?_,fun id blk b ab hb=> ?_,Sc.h.jP⟩,fun b hb hM=> ?_,kW S.size Sc.size,fun b hb=> ?_,⟨Sc.io.1.trans S.io.1,Sc.io.2.trans S.io.2⟩⟩,s8⟩
 ·rcases cls id with ⟨i,b2,c1,c2,c3,c4,c5⟩|⟨j',b2,b',c,b0,q1,q2,q3,q4,q5,q6,q7,q8,q9,p7,xY,rM⟩|⟨c1,c2,c3⟩
  ·rw[c3] at ab;cases ab
   rw[c5]
   exact s8.Ru (Sc.h.rel _ b2 (by rw[hY];exact c2)) (.of σ b2)
  ·rw[q7] at ab;cases ab
   have:=s8.Ru (Sc.h.rel j' b2 (by rw[hY];exact q2)) q8
   by_cases rN:b2= .dead
   ·subst rN
    cases q8
    exact .dead
   ·rw[p7,←rM rN]
    exact this
  ·rw[c1] at ab
   rw[c3]
   exact (S.h.rel id blk ab).mono hle fun b hb=>(other id blk b ab hb c2).2
 ·rcases place i1 b1 b e1 f1 with ⟨j1,c1,g1,g2,g3⟩|⟨g1,g2,g3,g4⟩<;>rcases place i2 b2 b e2 f2 with ⟨j2,c2,k1,k2,k3⟩|⟨k1,k2,k3,k4⟩
  ·have:=Sc.h.inj j1 j2 c1 c2 b g1 k1 g2 k2
   subst this
   rw[g3] at k3
   cases k3
   rfl
  ·rcases K5 j1 c1 b g1 g2 with h|h
   ·exact absurd h k2
   ·omega
  ·rcases K5 j2 c2 b k1 k2 with h|h
   ·exact absurd h g2
   ·omega
  ·exact S.h.inj i1 i2 _ _ b g3 k3 g4 k4
 ·rcases place id blk b ab hb with ⟨j1,c1,g1,g2,g3⟩|⟨g1,g2,g3,g4⟩
  ·exact sX b (K5 j1 c1 b g1 g2)
  ·exact S.h.own id blk b g3 g4
 ·refine (Sc.cm b (oE hb S.size) fun hx=> ?_).trans (S.cm b hb hM)
  rcases sX b (.inl hx) with h|h
  ·exact hM h
  ·omega
 ·rcases Sc.new b hb with h|h|h
  ·exact S.new b h
  ·exact .inr (sX b (.inl h))
  ·exact .inr (sX b (.inr h))
end
section
variable {P:Program} {A:cP} {w w':World} {I I' I2:Nat→Prop} {μ β β' cd:Nat→Option Nat} {hp hp' hp0 bx:Nat→Option an} {C:ae} {B:Nat} {M:Nat→Prop} {w0:Start}
theorem RC (hp:Nat→Option an): ∀(a b:List (Nat × an)),bO hp (a++b)=bO (bO hp b) a
 | [],b=>rfl
 | (i,x)::a,b=>by simp only[List.cons_append,bO,RC hp a b]
theorem xZ {hp:Nat→Option an} {l:List (Nat × an)} {id:Nat} (h: ∀q∈l,q.1≠id):bO hp l id=hp id:=by
 rcases uL (hp:=hp) (l:=l) (id:=id) with h1|⟨b,hb,_⟩
 ·exact h1
 ·exact absurd rfl (h _ hb)
def Bo (P : Program) : Prop := ∀ (f : Nat) fn, P.funcs[f]? = some fn → (fn.name == "runtime.NumGoroutine") = false
def RD (P:Program) (f:FuncId) (e:TypeId):Prop:=
 (∀args w,(callFunc f args).run P w= .ok (.enter f args) w)∧∃t,P.underlying t=some (.slice e)∧
  ∀(s:Value) (w:World) (Q:Ending→World→Prop),(s= .slice none 0 0→Q (.returned (.slice none 0 0)) w)→
   (∀a n c,s= .slice (some a) n c→∃v w',(Builtin.append_ #[t,t] t #[.slice (some ⟨w.heap.size,0,none⟩) 0 0,s]).run P (w.alloc (.cells #[] e))= .ok v w'∧Q (.returned v) w')→
   (s= .slice none 0 0∨∃a n c,s= .slice (some a) n c)→Calls P f #[s] w Q
structure ji (P:Program) (A:cP):Prop where
 count:Bo P
 ext: ∀f T,A.ext f=some T→∀(b:Nat) (C:Array Value) (w:World),w.heap[b]? =some (.cells C T (0,0))→C.size=P.cellsOf T→(C[0]? =some (.pointer none)∨C[0]? =some (.pointer (some ⟨b,0,none⟩)))→
  (callFunc f #[.pointer (some ⟨b,0,none⟩)]).run P w= .ok (.enter f #[.pointer (some ⟨b,0,none⟩)]) w∧
  Calls P f #[.pointer (some ⟨b,0,none⟩)] w fun e w'=>e= .returned (.tuple #[])∧(w'=w∨w'=w.setCell ⟨b,0,none⟩ (.pointer (some ⟨b,0,none⟩)))
 idle: ∀f,A.idle f=true→(∀args w,(callFunc f args).run P w= .ok (.enter f args) w)∧
  ∀args w,CallsD P f args .returning w fun e u' w'=>(∃v,e= .returned v)∧u'= .returning∧w'=w
 oK: ∀f e,A.oK f=some e→RD P f e
theorem ji.here {P:Program} {A:cP} (h:ji P A) (f id:Nat):ji P (A.here f id):=⟨h.count,h.ext,h.idle,h.oK⟩
def Bp (E:FuncId→Bool) (d:Deferred):Prop:= ∃f cap,d.target= .fn (.func f) cap∧E f=true
theorem K6 {P:Program} {A:cP} (hP:ji P A) {fn:Func} {tmps:Array Value} {R:Ending→World→Prop} {w:World} {v:Value} (hv:(results fn tmps).run P w= .ok v w) (hR:R (.returned v) w):
  ∀ds:List Deferred,(∀d∈ds,Bp A.idle d)→Leaves P fn tmps R ds .returning w
 | [],_=>⟨v,hv,hR⟩
 | d::ds,h=>by
  obtain ⟨f,cap,ht,hf⟩:=h d (by simp)
  obtain ⟨k1,k2⟩:=hP.idle f hf
  obtain ⟨t,RE⟩:=d
  simp only at ht
  subst ht
  refine leaves_cons (f:=f) (args:=RE++cap) (by simp) ?_ ?_
  ·simp only[invoke];exact k1 _ w
  ·refine (k2 (RE++cap) w).mono fun e u' w' hr=> ?_
   obtain ⟨⟨v',rfl⟩,rfl,rfl⟩:=hr
   exact K6 hP hv hR ds fun d hd=>h d (lL _ hd)
def Bq (P:Program) (A:cP) (o:Oper) (a:Act) (w:World) (I:Nat→Prop) (β:Nat→Option Nat) (hp:Nat→Option an) (B:Nat) (M:Nat→Prop) (w0:Start) (r:R):Prop:=
 ∀(next:Act→World→Prop) (Q:Exit→Act→World→Prop),
  (∀v w' I' β' ds,Le P w I β hp w' I' β' (bO hp r.upd)→aI P w' I' β' (bO hp r.upd) B M w0→ao P w' I' β' (bO hp r.upd) v r.v→(∀d∈ds,d∈a.defers∨Bp A.idle d)→next ({a with defers:=ds}.put o.dst v) w')→o.wp P a w next Q
theorem pR.step {o:Oper} {a:Act} {r:R} (h:pR P ((execOp a.eval o).run P w) w I β hp B M w0 r):Bq P A o a w I β hp B M w0 r:=by
 obtain ⟨v,w',I',β',h1,U,h3,h4⟩:=h
 intro next Q hn
 unfold Oper.wp
 rcases h1 with h1|⟨h1,rfl⟩
 ·rw[h1];exact hn v w' I' β' a.defers U h3 h4 fun d hd=> .inl hd
 ·rw[h1];exact hn _ w' I' β' a.defers U h3 h4 fun d hd=> .inl hd
theorem RF: ∀(l:List (Nat × VS)),oM l=sQ (l.map (·.2))
 | []=>rfl
 | (_,s)::l=>by simp only[oM,cr,sQ,RF l]
theorem ach (hC:lr P A C) (S:aI P w I β hp B M w0) (hg:gV P A.aF w I) {vals:List Value} {args:List V} {nb key:Nat} {f:FuncId} {r:R} {rd:List Nat} (hlen:vals.length=args.length)
  (cL: ∀(j:Nat) v x,vals[j]? =some v→args[j]? =some x→ao P w I β hp v x) (h:(AB P A nb key f args).run C hp=some (r,rd)):
  ∃fn c,P.funcs[f]? =some fn∧fn.body=some c∧Calls P f vals.toArray w fun e w'=> ∃v I' β',e= .returned v∧Le P w I β hp w' I' β' (bO hp r.upd)∧aI P w' I' β' (bO hp r.upd) B M w0∧ao P w' I' β' (bO hp r.upd) v r.v:=by
 unfold AB at h
 obtain ⟨RG,h0⟩:=aK h
 clear h
 rw[a8] at RG
 subst RG
 obtain ⟨h1,jB,d1,u1,a1,a2,a3,a5,a4⟩:=KY S h0 hlen cL
 obtain ⟨U,td,d2,u2,b1,b2,b3,b4⟩:=Ri S a1
 clear h0 a1
 obtain ⟨hc,h3⟩:=aK b1
 clear b1
 simp only[aN,a8,lM] at hc
 obtain ⟨cb,Gh⟩:=hc
 have tf:=a2.trans b2
 have lJ:U.ds=d1++d2:=by have:=tf.ds;simpa using this
 have Gl:U.upd=u1++u2:=by have:=tf.upd;simpa using this
 have kF:(U.pl.map Place.id).Nodup:=tf.nodup (by simp)
 obtain ⟨c1,o,c2,c3⟩:=b4 []
 simp only[dz] at c1 c2 c3
 cases Br:C key U.ds with
 | none=>
  simp only[Rd.run,Br] at h3
  cases h3
 | some es=>
  have rn: ∃e8,(AA P (A.so key es) nb U (A.lv key es)).run C hp=some (r,e8):=by
   obtain ⟨x,hx,e⟩:=bind_some h3
   rw[Br] at hx
   cases hx
   unfold cP.so cP.lv
   cases cq:A.alt key with
   | none=>rw[cq] at e;exact ⟨_,e⟩
   | some S2=>
    rw[cq] at e
    simp only[Rd.run] at e
    cases hb:(V.nth es 0).toBool<;>(rw[hb] at e;exact ⟨_,e⟩)
  clear h3
  obtain ⟨e8,h3⟩:=rn
  unfold AA at h3
  simp only at h3
  generalize gX:eO (A.so key es).bc ((A.lv key es).drop (oM (A.so key es).bV))=bs at h3
  generalize rL:U.pl++sR nb (bs.length-U.pl.length)=σ at h3
  generalize Bn:qZ σ nb (bs.drop U.pl.length)=fr at h3
  obtain ⟨p0,bk,rd4,p1,p2,_,p3⟩:=Rp h3
  obtain ⟨te,rd5,p4⟩:=Rs p1
  obtain rfl:=aU p4
  have rr:U.pl.length≤bs.length:=by rw[fS] at p0;omega
  have Gj: ∀q∈bk,∃(j:Nat) (b:an),U.pl[j]? =some (.blk q.1)∧bs[j]? =some b∧gy σ b q.2∧Bm hp q:=by
   intro q hq
   rcases p2 q hq with hx|⟨j,b,k1,k2,k3,k4⟩
   ·simp at hx
   ·have hj:=(bu.1 k1).1
    rw[fe hj] at k2
    exact ⟨j,b,k1,k2,k3,k4⟩
  obtain ⟨fn,c,hf,hb,K7⟩:=hC key U.ds es Br
  refine ⟨fn,c,hf,hb,?_⟩
  have hmb:eO (A.sin key).bc (U.ds.drop (oM (A.sin key).bV))=eO (A.sin key).bc d2:=by
   rw[lJ,RF,nS a3]
  have K8:(bt (A.sin key) U.ds).hp=jL (eO (A.sin key).bc d2):=by
   simp only[bt,mk,hmb]
  have hl: ∀j blk,(bt (A.sin key) U.ds).hp j=some blk→∃p,en U.pl j=some p∧ef P w β hp p (o j) blk:=by
   intro j blk hj
   rw[K8,hY] at hj
   obtain ⟨p,k1,k2⟩:=c2 j blk hj
   rw[gQ] at k1
   exact ⟨p,k1,k2⟩
  have hd: ∀j,j<U.pl.length→∃blk,(bt (A.sin key) U.ds).hp j=some blk:=by
   intro j hj
   rw[K8,hY]
   exact ⟨_,bN (by rw[c1,←cb];exact hj)⟩
  have RH:Bi P w β hp U.pl o (bt (A.sin key) U.ds).hp:=by
   intro j p hj
   obtain ⟨blk,k1⟩:=hd j (by rw[l9] at hj;exact (bu.1 hj).1)
   obtain ⟨p',k2,k3⟩:=hl j blk k1
   rw[hj] at k2
   cases k2
   exact ⟨blk,k1,k3⟩
  obtain ⟨rC,S1⟩:=AT S tf.Ga
  rw[←Gl] at rC S1
  have i1: ∀b,I b→ja P w I β hp U.upd b:=fun b h=> .inl h
  have entry:=acb (hp0:=(bt (A.sin key) U.ds).hp) S kF Gh hl (fun cV j blk hj=>by
   have fZ:=hj
   rw[K8,hY] at fZ
   exact c3 (ja P w I β hp U.upd) o _ i1 (fun q hq b hb=> .inr ⟨q,by rw[Gl];exact eM.2 (.inr hq),hb⟩) U.pl [] (by simp) RH j blk fZ (cV j blk hj)) S1.h.jP
  have aci:vals.length=(A.sin key).bV.length:=by rw[hlen,←a5];simp
  have ha:=K7 w (ja P w I β hp U.upd) o vals entry (hg.mono i1 fun _ _=>rfl) aci fun j v x hj hx=>by
   rw[lJ] at hx
   exact (((a4.later b2) (ja P w I β hp U.upd) o _ i1 (fun q hq b hb=> .inr ⟨q,by rw[Gl];exact hq,hb⟩) U.pl [] (by simp) RH) d2).2 j v x hj hx
  refine ha.mono fun e w' Bs=> ?_
  obtain ⟨v,I2,cd,rfl,ha⟩:=Bs
  have ya:(bt (A.so key es) (A.lv key es)).hp=jL bs:=by simp only[bt,mk,gX]
  cases acj:(A.so key es).safe P with
  | true=>
   simp only[cond_true,dz]
   have g9: ∀b,I b→I2 b:=fun b h=>ha.le.dq b (i1 b h)
   obtain ⟨s1,s2⟩:=acf acj g9 ha.xW i1
   have xX:lq w I o (bt (A.sin key) U.ds).hp w' I cd (jL bs):=by
    rw[←ya]
    exact ⟨fun _ h=>h,fun b h=>ha.le.cm b (i1 b h),ha.le.blk,ha.le.size⟩
   obtain ⟨β',k1,k2,k3⟩:=Ry S rL.symm Bn.symm kF rr p3 Gj hl hd (by rw[←ya];exact ⟨s1.h,s1.cm,s1.size,fun b h=> .inl h,s1.io⟩) xX te
   exact ⟨v,I,β',rfl,k1,k2,k3.val (by have:=s2 v ha.res;rw[ya] at this;exact this)⟩
  | false=>
   simp only[cond_false]
   rw[←cv,RC]
   have o5: ∀p∈U.pl,bO hp U.upd p.id=hp p.id:=fun p hp=>xZ fun q hq e=>
    Gg Gh (eB.2 ⟨q,hq,rfl⟩) (e▸eB.2 ⟨p,hp,rfl⟩)
   have ack: ∀q∈bk,∃(j:Nat) (b:an),U.pl[j]? =some (.blk q.1)∧bs[j]? =some b∧gy σ b q.2∧Bm (bO hp U.upd) q:=by
    intro q hq
    obtain ⟨j,b,k1,k2,k3,k4⟩:=Gj q hq
    refine ⟨j,b,k1,k2,k3,fun hn=> ?_⟩
    have:=o5 _ (jJ k1)
    simp only[Place.id] at this
    rw[this]
    exact k4 hn
   have xw: ∀j blk,(bt (A.sin key) U.ds).hp j=some blk→∃p,en U.pl j=some p∧ef P w β (bO hp U.upd) p (o j) blk:=by
    intro j blk hj
    obtain ⟨p,k1,k2⟩:=hl j blk hj
    exact ⟨p,k1,k2.other (o5 p (by rw[l9] at k1;exact jJ k1))⟩
   have acm: ∀q∈fr,bO hp U.upd q.1=none:=by
    intro q hq
    rw[xZ fun q' Bt e=> ?_]
    ·exact te q hq
    ·obtain ⟨e1,cw,_,h5⟩:=tf.Ga q' (Gl▸Bt)
     rw[e,te q hq] at h5
     rcases h5 with ⟨_,h5⟩|⟨_,h5⟩<;>cases h5
   obtain ⟨β',k1,k2,k3⟩:=Ry S1 rL.symm Bn.symm kF rr p3 ack xw hd (by rw[←ya];exact ha.xW) (by rw[←ya];exact ha.le) acm
   exact ⟨v,I2,β',rfl,rC.trans k1,k2,k3.val (by have:=ha.res;rw[ya] at this;exact this)⟩
theorem RI (hC:lr P A C) (hP:ji P A) (S:aI P w I β hp B M w0) (hg:gV P A.aF w I) {a:Act} {nb key:Nat} {o:Oper} {f:FuncId} {vals:List Value} {args:List V} (hlen:vals.length=args.length)
  (cL: ∀(j:Nat) v x,vals[j]? =some v→args[j]? =some x→ao P w I β hp v x) {r:R} {rd:List Nat} (h:(AB P A nb key f args).run C hp=some (r,rd))
  (hex:(execOp a.eval o).run P w=(callFunc f vals.toArray).run P w):Bq P A o a w I β hp B M w0 r:=by
 intro next Q hn
 obtain ⟨fn,c,hf,hb,K7⟩:=ach hC S hg hlen cL h
 unfold Oper.wp
 rw[hex,MuLone.run_callFunc_enter hf (hP.count f _ hf) hb,Oper.upon_enter]
 refine K7.mono fun e w' Bs=> ?_
 obtain ⟨v,I2,cd,rfl,k1,k2,k3⟩:=Bs
 exact hn v w' I2 cd a.defers k1 k2 k3 fun d hd=> .inl hd
theorem lf.args {a:Act} {sl:Nat→V} (hs:lf P w I β hp a sl) (hg:gV P A.aF w I) {args:Array Operand} {ts:Array TypeId} (bd:args.size=ts.size):
  (args.map a.eval).toList.length=((args.toList.zip ts.toList).map fun p=>aW P A.aF p.2 sl p.1).length∧
  ∀(j:Nat) v x,(args.map a.eval).toList[j]? =some v→((args.toList.zip ts.toList).map fun p=>aW P A.aF p.2 sl p.1)[j]? =some x→ao P w I β hp v x:=by
 refine ⟨by simp;omega,fun j v x hv hx=> ?_⟩
 simp only[Array.toList_map,gC,List.getElem?_zip_eq_some,Af] at hv hx
 obtain ⟨x1,Bu,rfl⟩:=hv
 obtain ⟨⟨y1,t1⟩,⟨RJ,_⟩,rfl⟩:=hx
 rw[Bu] at RJ
 cases RJ
 exact hs.ev hg t1 _
theorem RK {vs us:List Value} {xs ys:List V} (h1:vs.length=xs.length) (U: ∀(j:Nat) v x,vs[j]? =some v→xs[j]? =some x→ao P w I β hp v x)
  (h3: ∀(j:Nat) v x,us[j]? =some v→ys[j]? =some x→ao P w I β hp v x) (j:Nat) (v:Value) (x:V) (hv:(vs++us)[j]? =some v) (hx:(xs++ys)[j]? =some x):ao P w I β hp v x:=by
 by_cases hj:j<vs.length
 ·rw[iR hj] at hv
  rw[iR (by omega)] at hx
  exact U j v x hv hx
 ·rw[iq (by omega)] at hv
  rw[iq (by omega)] at hx
  rw[h1] at hv
  exact h3 _ v x hv hx
theorem acn (hP:ji P A) (S:aI P w I β hp B M w0) (hg:gV P A.aF w I) {a:Act} {sl:Nat→V} (hs:lf P w I β hp a sl) {dst:Option Tmp} {ty e:TypeId} {pos:String} {after:Array Edge} {guard:Option (Nat × Bool)} {f:FuncId}
  {args:Array Operand} {argTypes:Array TypeId} {nb:Nat} {r:R} {rd:List Nat} (ln:A.oK f=some e)
  (h:((match args.toList with
    | [x]=> .aE (cW P e) (sO e (aW P A.aF ty sl x) fun xs=> .aE (Nat.ble (xs.length*P.bytesOf e) cJ) (jv nb (.arr e xs false) (.whole e nb) []))
    | _=> .fail):Rd R).run C hp=some (r,rd)):Bq P A (Oper.mk dst (.call (Go.Call.mk (.value (.func f)) args argTypes)) ty pos after guard) a w I β hp B M w0 r:=by
 cases ha:args.toList with
 | nil=>rw[ha] at h;cases h
 | cons x l=>
  rw[ha] at h
  cases l with
  | cons _ _=>cases h
  | nil=>
   simp only at h
   have e1:args= #[x]:=by rw[←Array.toArray_toList (xs:=args),ha]
   subst e1
   have hx:=hs.ev hg ty x
   obtain ⟨ay,h⟩:=aK h
   have fin: ∀{w1:World} {Gm:Nat→Option Nat},(∀id blk,hp id=some blk→ed P w1 I Gm hp (Gm id) blk)→ao P w1 I Gm hp (a.eval x) (aW P A.aF ty sl x)→∃xs,(((∃a',a.eval x= .slice a' 0 0)∧xs=[])∨∃a' c news,Row P w1 I e (a.eval x) xs a' c news)∧
     xs.length*P.bytesOf e≤cJ∧hp nb=none∧r=⟨.whole e nb,[(nb,.arr e xs false)]⟩:=by
    intro w1 Gm h1 U
    obtain ⟨xs,l7,l,h⟩:=FR h1 ay U h
    obtain ⟨dX,h⟩:=aK h
    rw[eb] at dX
    obtain ⟨hn,rfl⟩:=nO h
    exact ⟨xs,l7,dX,hn,rfl⟩
   obtain ⟨c1,t,hu,c2⟩:=hP.oK f e ln
   intro next Q yb
   unfold Oper.wp
   have e2:(execOp a.eval ⟨dst,.call ⟨.value (.func f),#[x],argTypes⟩,ty,pos,after,guard⟩).run P w= .ok (.enter f #[a.eval x]) w:=by
    have fa:a.eval (.func f)= .func (.func f) #[] #[]:=rfl
    simpa[execOp,resolve,fa,Deferred.ofValue,invoke] using c1 #[a.eval x] w
   rw[e2,Oper.upon_enter]
   refine c2 _ w _ (fun Bv=> ?_) (fun b n c rA=> ?_) ?_
   ·obtain ⟨xs,l7,dX,hn,rfl⟩:=fin S.h.rel hx
    have gG:xs=[]:=by
     rcases l7 with ⟨_,h⟩|⟨a,c,news,hr⟩
     ·exact h
     ·have:=hr.val.symm.trans Bv
      cases this
    subst gG
    obtain ⟨a1,a2⟩:=Fu S e hn
    exact yb _ w I _ a.defers a1 a2 (.dP (c7 _ _ _) (c7 _ _ _)) fun d hd=> .inl hd
   ·obtain ⟨m1,m2⟩:=aas (w':=w.alloc (.cells #[] e)) S (fun b hb=>heap_alloc_old w _ b hb) (by simp) ⟨rfl,rfl⟩
    obtain ⟨xs,l7,dX,hn,rfl⟩:=fin m2.h.rel (hx.mono m1)
    obtain ⟨v,w',β',a1,a2,a3,a4⟩:=Kq (ty:=t) (a0:=some ⟨w.heap.size,0,none⟩) m2 hu ay hn dX l7
    exact ⟨v,w',a1,yb v w' I β' a.defers (m1.trans a2) a3 a4 fun d hd=> .inl hd⟩
   ·obtain ⟨xs,l7,dX,hn,rfl⟩:=fin S.h.rel hx
    rcases l7 with ⟨⟨b,h⟩,_⟩|⟨b,c,news,hr⟩
    ·rw[h]
     cases b with
     | none=>exact .inl rfl
     | some b=>exact .inr ⟨_,_,_,rfl⟩
    ·exact .inr ⟨_,_,_,hr.val⟩
theorem aco (hP:ji P A) (S:aI P w I β hp B M w0) (hg:gV P A.aF w I) {a:Act} {sl:Nat→V} (hs:lf P w I β hp a sl) {dst:Option Tmp} {ty T0:TypeId} {pos:String} {after:Array Edge} {guard:Option (Nat × Bool)} {f:FuncId}
  {args:Array Operand} {argTypes:Array TypeId} {r:R} {rd:List Nat} (Bw:A.ext f=some T0)
  (h:((match args.toList with
   | [x]=>
    match aW P A.aF ty sl x with
    | .ptr id i c=>Rd.get id fun
     | some (.var T cs)=> .aE (Nat.beq T T0&&(pK P T&&(Nat.beq cs.length (P.cellsOf T)&&(Nat.beq i 0&&Nat.beq c 0)))) (.ret ⟨.bm [],[(id,.var T (.undef::cs.tail))]⟩)
     | _=> .fail
    | _=> .fail
   | _=> .fail):Rd R).run C hp=some (r,rd)):Bq P A (Oper.mk dst (.call (Go.Call.mk (.value (.func f)) args argTypes)) ty pos after guard) a w I β hp B M w0 r:=by
 cases ha:args.toList with
 | nil=>rw[ha] at h;cases h
 | cons x l=>
  rw[ha] at h
  cases l with
  | cons _ _=>cases h
  | nil=>
   simp only at h
   have e1:args= #[x]:=by rw[←Array.toArray_toList (xs:=args),ha]
   subst e1
   have hx:=hs.ev hg ty x
   cases fu:aW P A.aF ty sl x<;>rw[fu] at h hx<;>simp only at h<;>first|(cases h;done)|skip
   rename_i id i c
   obtain ⟨l,h1⟩:=run_get h
   cases ab:hp id with
   | none=>rw[ab] at h1;cases h1
   | some blk=>
    rw[ab] at h1
    cases blk<;>simp only at h1<;>first|(cases h1;done)|skip
    rename_i T cs
    obtain ⟨U,h3⟩:=aK h1
    simp only[aN,a8] at U
    obtain ⟨rfl,bG,yc,rfl,rfl⟩:=U
    obtain rfl:=aU h3
    obtain ⟨b,hb,he⟩:=hx.gY ab (by simp)
    have hr:=S.h.rel id _ ab
    rw[hb] at hr
    cases hr with
    | @var _ b' Ca _ aB hh bd hI gG gr=>
     cases aB
     have gZ:a.eval x= .pointer (some ⟨b,0,none⟩):=by rw[he];simp[an.sz]
     obtain ⟨q1,q2⟩:=hP.ext f T Bw b Ca w hh (bd.trans yc) (gr bG)
     have h0:0<Ca.size:=by
      rcases gr bG with k|k<;>exact (im.1 k).1
     have oS:(V.undef::cs.tail).length=cs.length:=by
      cases cs with
      | nil=>rw[bd] at h0;simp at h0
      | cons _ _=>rfl
     have rel: ∀(C':Array Value),(∀j,0<j→C'[j]? =Ca[j]?)→∀(j:Nat) v y,C'[j]? =some v→(V.undef::cs.tail)[j]? =some y→ao P w I β hp v y:=by
      intro C' xM j v y hj hy
      cases j with
      | zero=>simp at hy;subst hy;exact .undef
      | succ j=>
       rw[xM _ (by omega)] at hj
       refine gG (j+1) v y hj ?_
       cases cs with
       | nil=>rw[bd] at h0;simp at h0
       | cons _ _=>simpa using hy
     have fin: ∀w' C',(∀b',b'≠b→w'.heap[b']? =w.heap[b']?)→w'.heap[b]? =some (.cells C' T (0,0))→C'.size=Ca.size→w.heap.size≤w'.heap.size→w'.os=w.os∧w'.output=w.output→
       (∀j,0<j→C'[j]? =Ca[j]?)→(C'[0]? =some (.pointer none)∨C'[0]? =some (.pointer (some ⟨b,0,none⟩)))→
       Le P w I β hp w' I β (aM hp id (some (.var T (V.undef::cs.tail))))∧aI P w' I β (aM hp id (some (.var T (V.undef::cs.tail)))) B M w0:=by
      intro w' C' k1 k2 k3 k4 k5 k6 k7
      exact Fw (w':=w') (blk':= .var T (V.undef::cs.tail)) S ab (by simp) rfl hb hI (by simp) k1 (by rw[nF k2,nF hh,k3]) k4 k5 fun hle=>
       .var rfl k2 (by rw[k3,bd,oS]) hI (fun j v y hj hy=>(rel C' k6 j v y hj hy).mono hle) fun _=>k7
     intro next Q hn
     unfold Oper.wp
     have e2:(execOp a.eval ⟨dst,.call ⟨.value (.func f),#[x],argTypes⟩,ty,pos,after,guard⟩).run P w= .ok (.enter f #[.pointer (some ⟨b,0,none⟩)]) w:=by
      have fa:a.eval (.func f)= .func (.func f) #[] #[]:=rfl
      simpa[execOp,resolve,fa,Deferred.ofValue,invoke,gZ] using q1
     rw[e2,Oper.upon_enter]
     refine q2.mono fun e w' Bs=> ?_
     obtain ⟨rfl,hw⟩:=Bs
     have RL:Le P w I β hp w' I β (aM hp id (some (.var T (V.undef::cs.tail))))∧aI P w' I β (aM hp id (some (.var T (V.undef::cs.tail)))) B M w0:=by
      rcases hw with rfl|rfl
      ·exact fin w' Ca (fun _ _=>rfl) hh rfl (bU _) ⟨rfl,rfl⟩ (fun _ _=>rfl) (gr bG)
      ·refine fin (w.setCell ⟨b,0,none⟩ (.pointer (some ⟨b,0,none⟩))) (Ca.setIfInBounds 0 (.pointer (some ⟨b,0,none⟩))) (fun b' bD=> ?_) ?_ (by simp) (by simp[World.setCell]) ⟨rfl,rfl⟩ (fun j hj=> ?_) (.inr ?_)
       ·simp only[World.setCell,Ae]
        rw[ai (fun e=>bD e.symm)]
       ·simp[World.setCell,Ae,hh]
       ·rw[EG (by omega)]
       ·rw[Js h0]
     exact hn (.tuple #[]) w' I β a.defers RL.1 RL.2 (.bm rfl fun j v y hj _=>by simp at hj) fun d hd=> .inl hd
theorem acp (hC:lr P A C) (hP:ji P A) (S:aI P w I β hp B M w0) (hg:gV P A.aF w I) {a:Act} {sl:Nat→V} (hs:lf P w I β hp a sl) {ix nb:Nat} {o:Oper} {r:R} {rd:List Nat}
  (h:(fH P A sl ix nb o).run C hp=some (r,rd)):Bq P A o a w I β hp B M w0 r:=by
 cases hc:KP o.op with
 | false=>exact (abT S hg hs hc h).step
 | true=>
  obtain ⟨dst,op,ty,pos,after,guard⟩:=o
  cases op<;>simp only[KP] at hc<;>first|(cases hc;done)|skip
  case defer c=>
   obtain ⟨callee,args,argTypes⟩:=c
   cases callee with
   | invoke r m=>simp only[fH] at h;cases h
   | builtin b=>simp only[fH] at h;cases h
   | value f=>
   cases f with
   | tmp t=>
    simp only[fH] at h
    cases bG:sl t<;>rw[bG] at h<;>simp only at h<;>first|(cases h;done)|skip
    rename_i f xs ys
    obtain ⟨h1,U⟩:=aK h
    obtain rfl:=aU U
    have hv:=hs t
    rw[bG] at hv
    generalize u4:a.tmps.getD t undef=vt at hv
    cases hv with
    | @fn _ fs cs _ _ q1 q2 q3 q4=>
     intro next Q hn
     unfold Oper.wp
     have fa:a.eval (.tmp t)= .func (.func f) fs cs:=u4
     have e1:(execOp a.eval ⟨dst,.defer ⟨.value (.tmp t),args,argTypes⟩,ty,pos,after,guard⟩).run P w= .ok (.defer {target:= .fn (.func f) cs,args:=fs++args.map a.eval}) w:=by
      simp[execOp,resolve,fa,Deferred.ofValue]
     rw[e1,Oper.upon_defer]
     exact hn undef w I β _ (Le.refl w I β hp) S .undef fun d hd=>by
      rcases dp.1 hd with rfl|hd
      ·exact .inr ⟨f,cs,rfl,h1⟩
      ·exact .inl hd
   | func f=>simp only[fH] at h;cases h
   | const _=>simp only[fH] at h;cases h
   | global _=>simp only[fH] at h;cases h
  rename_i c
  obtain ⟨callee,args,argTypes⟩:=c
  cases callee with
  | invoke r m=>cases hc
  | builtin b=>cases hc
  | value f=>
   cases f with
   | func f=>
    simp only[fH] at h
    cases Bw:A.ext f with
    | some T0=>
     rw[Bw] at h
     simp only at h
     exact aco hP S hg hs Bw h
    | none=>
    rw[Bw] at h
    simp only at h
    cases ln:A.oK f with
    | some e0=>
     rw[ln] at h
     simp only at h
     exact acn hP S hg hs ln h
    | none=>
    rw[ln] at h
    simp only at h
    obtain ⟨h1,U⟩:=aK h
    rw[a8] at h1
    obtain ⟨k1,k2⟩:=hs.args hg h1
    refine RI hC hP S hg k1 k2 U ?_
    have e1:(args.map a.eval).toList.toArray=args.map a.eval:=Array.toArray_toList
    rw[e1]
    simp[execOp,resolve,Act.eval,Deferred.ofValue,invoke]
   | tmp t=>
    simp only[fH] at h
    cases bG:sl t<;>rw[bG] at h<;>simp only at h<;>first|(cases h;done)|skip
    rename_i f xs ys
    obtain ⟨h1,U⟩:=aK h
    rw[a8] at h1
    obtain ⟨k1,k2⟩:=hs.args hg h1
    have hv:=hs t
    rw[bG] at hv
    generalize u4:a.tmps.getD t undef=vt at hv
    cases hv with
    | @fn _ fs cs _ _ q1 q2 q3 q4=>
     have l1:fs.toList.length=xs.length:=by simpa using q1
     have l3:cs.toList.length=ys.length:=by simpa using q3
     have r1: ∀(j:Nat) v x,fs.toList[j]? =some v→xs[j]? =some x→ao P w I β hp v x:=fun j v x hj hx=>q2 j v x (by simpa using hj) hx
     have r3: ∀(j:Nat) v x,cs.toList[j]? =some v→ys[j]? =some x→ao P w I β hp v x:=fun j v x hj hx=>q4 j v x (by simpa using hj) hx
     refine RI hC hP S hg (vals:=fs.toList++(args.map a.eval).toList++cs.toList) (args:=xs++((args.toList.zip argTypes.toList).map fun p=>aW P A.aF p.2 sl p.1)++ys) (by simp only[cz];omega) ?_ U ?_
     ·exact RK (by simp only[cz];omega) (RK l1 r1 k2) r3
     ·have e1:(fs.toList++(args.map a.eval).toList++cs.toList).toArray=fs++args.map a.eval++cs:=by
       apply Array.toList_inj.1;simp
      rw[e1]
      have fa:a.eval (.tmp t)= .func (.func f) fs cs:=u4
      simp[execOp,resolve,fa,Deferred.ofValue,invoke]
   | _=>cases hc
end
section
variable {P:Program} {A:cP} {w w':World} {I I' I2:Nat→Prop} {μ β β':Nat→Option Nat} {hp hp':Nat→Option an} {C:ae} {B:Nat} {M:Nat→Prop} {w0:Start}
structure jk (P:Program) (E:FuncId→Bool) (G:Nat→V) (w:World) (I:Nat→Prop) (β:Nat→Option Nat) (n:Nat) (a:Act) (st:St):Prop where
 sl:lf P w I β st.hp a st.sl
 size:a.tmps.size=n
 defers: ∀d∈a.defers,Bp E d
 aF:gV P G w I
theorem K9 {E:FuncId→Bool} {G:Nat→V} {n:Nat} {a:Act} {st:St} {o:Oper} {v:Value} {x:V} {hp':Nat→Option an} {ds:List Deferred} (h:jk P E G w I β n a st) (hle:Le P w I β st.hp w' I' β' hp') (hd:sS o n=true)
  (hv:ao P w' I' β' hp' v x) (lJ: ∀d∈ds,d∈a.defers∨Bp E d):jk P E G w' I' β' n ({a with defers:=ds}.put o.dst v) ⟨iy st.sl o.dst x,hp',st.nb⟩:=by
 have RM: ∀d∈ds,Bp E d:=fun d hd=>(lJ d hd).elim (h.defers d) id
 cases acq:o.dst with
 | none=>exact ⟨fun k=>(h.sl k).mono hle,h.size,RM,h.aF.mono hle.dq hle.cm⟩
 | some d=>
  have aT:d<a.tmps.size:=by
   unfold sS at hd
   rw[acq] at hd
   rw[h.size]
   simpa using hd
  refine ⟨fun k=> ?_,by simp[Act.put,h.size],RM,h.aF.mono hle.dq hle.cm⟩
  simp only[Act.put,iy,aM]
  cases hb:Nat.beq k d with
  | true=>
   rw[a8] at hb
   subst hb
   simpa[aT] using hv
  | false=>
   have bD:d≠k:=fun e=>by rw[e,jI] at hb;cases hb
   have:=(h.sl k).mono hle
   simpa[EG bD] using this
theorem RN {E:FuncId→Bool} {G:Nat→V} {n:Nat} {a:Act} {st:St} {d:Nat} {b:Bool} (h:jk P E G w I β n a st) (hd:st.sl d= .bool b):a.tmps[d]? =some (.bool b):=by
 have:=h.sl d
 rw[hd] at this
 have:=this.kA
 cases ht:a.tmps[d]? with
 | none=>simp[ht] at this;cases this
 | some v=>simp[ht] at this;rw[this]
theorem acr {x:V} {b:Bool} (h:lN x=some (some b)):x= .bool b:=by
 cases x with
 | bool c=>simp only[lN] at h;injection h with h;injection h with h;rw[h]
 | bm vs=>cases vs<;>simp[lN] at h
 | _=>simp[lN] at h
theorem acs {x:V} (h:lN x=some none):x= .bm []:=by
 cases x with
 | bm vs=>cases vs with
  | nil=>rfl
  | cons _ _=>simp[lN] at h
 | bool c=>simp[lN] at h
 | _=>simp[lN] at h
theorem ao.acu {v:Value} (h:ao P w I β hp v (.bm [])):v= .tuple #[]:=by
 cases h with
 | @bm cs _ hs _=>
  have:cs= #[]:=by
   apply Array.eq_empty_of_size_eq_zero
   simpa using hs
  rw[this]
theorem ao.RO:ao P w I β hp Go.undef (.bm []):= .bm (by rfl) (fun j v x _ hx=>by simp at hx)
theorem RP (hC:lr P A C) (hP:ji P A) {ops:Array Oper} {n i nb:Nat} {o:Oper} (ho:ops[i]? =some o) {a:Act} {st st':St} {R W:List Nat} (S:aI P w I β st.hp B M w0) (hA:jk P A.idle A.aF w I β n a st)
  (h:gT P A C n ops i o nb st=some (st',R,W)) {K:Act→World→Prop} {Q:Exit→Act→World→Prop}
  (hK: ∀a' w' I' β',Le P w I β st.hp w' I' β' st'.hp→aI P w' I' β' st'.hp B M w0→jk P A.idle A.aF w' I' β' n a' st'→K a' w'):wpOp P ops Q i K a w:=by
 unfold gT at h
 cases hd:sS o n with
 | false=>rw[hd] at h;cases h
 | true=>
  rw[hd] at h
  simp only[cond_true] at h
  have go: ∀{La:St} {R W:List Nat},(((fH P A st.sl i (nb+64*i) o).run C st.hp).bind fun r=>some ((⟨iy st.sl o.dst r.1.v,bO st.hp r.1.upd,st.nb⟩:St),rb r.2 r.1.upd,fW st.hp r.1.upd))=some (La,R,W)→La=st'→
    o.wp P a w K Q:=by
   intro La R W h e
   obtain ⟨⟨r,rd⟩,h1,U⟩:=bind_some h
   cases U
   subst e
   exact acp hC hP S hA.aF hA.sl h1 K Q fun v w' I' β' ds k1 k2 k3 k4=>hK _ w' I' β' k1 k2 (K9 hA k1 hd k3 k4)
  unfold wpOp
  rw[ho]
  simp only
  cases hg:o.guard with
  | none=>
   rw[hg] at h
   simp only[Region.wanted,hg,cU]
   exact .inl (go h rfl)
  | some gw=>
   obtain ⟨g,want⟩:=gw
   rw[hg] at h
   simp only at h
   cases ma:(ops[g]?).bind (·.dst) with
   | none=>rw[ma] at h;cases h
   | some d=>
    rw[ma] at h
    simp only at h
    cases mO:lN (st.sl d) with
    | none=>rw[mO] at h;cases h
    | some ob=>
    rw[mO] at h
    cases ob with
    | none=>
     have rA:=acs mO
     have hy:yielded ops a.tmps g=none:=by
      unfold yielded
      rw[ma]
      have:=hA.sl d
      rw[rA] at this
      have hu:=ao.acu this
      simp only[Option.bind_some]
      cases ht:a.tmps[d]? with
      | none=>rfl
      | some v=>simp[ht] at hu;subst hu;rfl
     simp only[Region.wanted,hg,hy]
     injection h with h
     injection h with h3 h4
     subst h3
     have U:((none:Option Bool)==some want)=false:=rfl
     simp only[U,Bool.false_eq_true,fR]
     exact hK _ w I β (Le.refl w I β st.hp) S (K9 (ds:=a.defers) hA (Le.refl w I β st.hp) hd ao.RO fun d h=> .inl h)
    | some b=>
    simp only at h
    have rA:=acr mO
    have hy:yielded ops a.tmps g=some b:=by
     unfold yielded
     rw[ma]
     simp only[Option.bind_some,RN hA rA]
    simp only[Region.wanted,hg,hy]
    by_cases hb:b=want
    ·subst hb
     simp only[beq_self_eq_true,cond_true] at h
     simp only[beq_self_eq_true,cU]
     exact .inl (go h rfl)
    ·have h1:(b==want)=false:=by simp[hb]
     have U:(some b==some want)=false:=by simp[hb]
     rw[h1] at h
     simp only[cond_false] at h
     injection h with h
     injection h with h3 h4
     subst h3
     simp only[U,Bool.false_eq_true,fR]
     exact hK _ w I β (Le.refl w I β st.hp) S (K9 (ds:=a.defers) hA (Le.refl w I β st.hp) hd ao.RO fun d h=> .inl h)
def ve (hp hp':Nat→Option an) (c:Nat):Prop:=hp' c=hp c∧(KB≤c→gn (hp' (c-KB))=gn (hp (c-KB)))
theorem ve.symm {c:Nat} (h:ve hp hp' c):ve hp' hp c:=⟨h.1.symm,fun hc=>(h.2 hc).symm⟩
theorem th {α:Type}: ∀{p:Rd α} {r:α} {rd:List Nat},p.run C hp=some (r,rd)→(∀id∈rd,ve hp hp' id)→p.run C hp'=some (r,rd)
 | .ret a,r,rd,h,_=>h
 | .fail,r,rd,h,_=>by cases h
 | .get id k,r,rd,h,he=>by
  obtain ⟨x,h1,U⟩:=bind_some h
  cases U
  have e1:hp' id=hp id:=(he id (by simp)).1
  have:=th (p:=k (hp id)) (r:=x.1) (rd:=x.2) h1 (fun i hi=>he i (by simp[hi]))
  simp only[Rd.run,e1,this,Option.bind_some]
 | .live id ok k,r,rd,h,he=>by
  simp only[Rd.run] at h⊢
  cases hk:ok (gn (hp id)) with
  | false=>rw[hk] at h;cases h
  | true=>
   rw[hk] at h
   obtain ⟨x,h1,U⟩:=bind_some h
   cases U
   have e1:gn (hp' id)=gn (hp id):=by
    have:=(he (id+KB) (by simp)).2 (Nat.le_add_left _ _)
    rwa [w8] at this
   have:=th (p:=k) (r:=x.1) (rd:=x.2) h1 (fun i hi=>he i (by simp[hi]))
   rw[e1,hk,this]
   rfl
 | .opt o k,r,rd,h,he=>by
  obtain ⟨x,h1,U⟩:=bind_some h
  simp only[Rd.run,h1,Option.bind_some]
  exact th U he
 | .aE b k,r,rd,h,he=>by
  obtain ⟨h1,U⟩:=aK h
  simp only[Rd.run,h1,cond_true]
  exact th U he
 | .call key ds k,r,rd,h,he=>by
  obtain ⟨x,h1,U⟩:=bind_some h
  simp only[Rd.run,h1,Option.bind_some]
  exact th U he
 | .alt true x y,r,rd,h,he=>th (p:=x) h he
 | .alt false x y,r,rd,h,he=>th (p:=y) h he
theorem acv {G:Nat→V} {sl sl':Nat→V} {t:TypeId} {x:Operand} (h: ∀k,x= .tmp k→sl k=sl' k):aW P G t sl x=aW P G t sl' x:=by
 cases x with
 | tmp k=>exact h k rfl
 | _=>rfl
theorem acw {sl sl':Nat→V} {ix nb:Nat} {o:Oper} (h: ∀x∈o.op.operands,∀k,x= .tmp k→sl k=sl' k):fH P A sl ix nb o=fH P A sl' ix nb o:=by
 have fa: ∀t x,x∈o.op.operands→aW P A.aF t sl x=aW P A.aF t sl' x:=fun t x hx=>acv (h x hx)
 obtain ⟨dst,op,ty,pos,after,guard⟩:=o
 have RQ: ∀(t:TypeId) (ps:Array (Nat × Operand)),(∀x∈ps.map (·.2),aW P A.aF t sl x=aW P A.aF t sl' x)→
   (ps.toList.map fun p=>(p.1,aW P A.aF t sl p.2))=ps.toList.map fun p=>(p.1,aW P A.aF t sl' p.2):=fun t ps hp=>
  nt fun p hm=>by rw[hp p.2 (Array.mem_map.2 ⟨p,pG.1 hm,rfl⟩)]
 have acx: ∀(t:TypeId) (ps:Array (Nat × Operand)),(∀x∈ps.map (·.2),aW P A.aF t sl x=aW P A.aF t sl' x)→
   (ps.toList.map fun p=>(aW P A.aF t sl p.2).cells)=ps.toList.map fun p=>(aW P A.aF t sl' p.2).cells:=fun t ps hp=>
  nt fun p hm=>by rw[hp p.2 (Array.mem_map.2 ⟨p,pG.1 hm,rfl⟩)]
 cases op<;>simp only[Op.operands] at fa<;>simp only[fH]
 case pick c x y=>rw[fa ty c (by simp),fa ty x (by simp),fa ty y (by simp)]
 case build t ps=>rw[RQ ty ps fun x hx=>fa ty x (by simpa using hx),acx ty ps fun x hx=>fa ty x (by simpa using hx)]
 case buildSlice t len ps=>
  split
  ·rename_i e _
   rw[RQ e ps fun x hx=>fa e x (by simpa using hx)]
  ·rfl
 case slice t x lo hi mx=>
  cases mx with
  | some m=>
   have e1:lo.map (aW P A.aF 0 sl)=lo.map (aW P A.aF 0 sl'):=by
    cases lo with
    | none=>rfl
    | some l=>simp only[Option.map_some,fa 0 l (by simp)]
   have e2:hi.map (aW P A.aF 0 sl)=hi.map (aW P A.aF 0 sl'):=by
    cases hi with
    | none=>rfl
    | some l=>simp only[Option.map_some,fa 0 l (by simp)]
   have e3:=fa 0 m (by simp)
   simp only[fa ty x (by simp),e1,e2,e3]
  | none=>
   have e1:lo.map (aW P A.aF 0 sl)=lo.map (aW P A.aF 0 sl'):=by
    cases lo with
    | none=>rfl
    | some l=>simp only[Option.map_some,fa 0 l (by simp)]
   have e2:hi.map (aW P A.aF 0 sl)=hi.map (aW P A.aF 0 sl'):=by
    cases hi with
    | none=>rfl
    | some l=>simp only[Option.map_some,fa 0 l (by simp)]
   simp only[fa ty x (by simp),e1,e2]
 case call c=>
  obtain ⟨callee,args,argTypes⟩:=c
  have vf: ∀t x,x∈args→aW P A.aF t sl x=aW P A.aF t sl' x:=fun t x hx=>fa t x (by simp[Call.operands,hx])
  have hl: ∀t (l:List Operand),(∀x∈l,x∈args)→l.map (aW P A.aF t sl)=l.map (aW P A.aF t sl'):=fun t l hl=>nt fun x hx=>vf t x (hl x hx)
  have hz:((args.toList.zip argTypes.toList).map fun p=>aW P A.aF p.2 sl p.1)=(args.toList.zip argTypes.toList).map fun p=>aW P A.aF p.2 sl' p.1:=
   nt fun p hp=>vf p.2 p.1 (pG.1 (List.of_mem_zip hp).1)
  cases callee with
  | invoke r m=>rfl
  | builtin b=>
   have cq: ∀x∈args.toList,∀t,aW P A.aF t sl x=aW P A.aF t sl' x:=fun x hx t=>vf t x (pG.1 hx)
   have Lb: ∀t (l:List Operand),(∀x∈l,∀t,aW P A.aF t sl x=aW P A.aF t sl' x)→l.map (aW P A.aF t sl)=l.map (aW P A.aF t sl'):=fun t l h=>nt fun x hx=>h x hx t
   cases b<;>first|rfl|skip
   case append=>
    dsimp only
    generalize args.toList=al at cq
    match al,cq,argTypes.toList with
    | [s,x],cq,[t,u]=>simp only[cq s (by simp),cq x (by simp)]
    | [],_,_=>rfl
    | [_],_,_=>rfl
    | _::_::_::_,_,_=>rfl
    | [_,_],_,[]=>rfl
    | [_,_],_,[_]=>rfl
    | [_,_],_,_::_::_::_=>rfl
   case copy=>
    dsimp only
    generalize args.toList=al at cq
    match al,cq,argTypes.toList with
    | [s,x],cq,[t,u]=>simp only[cq s (by simp),cq x (by simp)]
    | [],_,_=>rfl
    | [_],_,_=>rfl
    | _::_::_::_,_,_=>rfl
    | [_,_],_,[]=>rfl
    | [_,_],_,[_]=>rfl
    | [_,_],_,_::_::_::_=>rfl
   case len=>
    dsimp only
    generalize args.toList=al at cq
    match al,cq,argTypes.toList with
    | [x],cq,[t]=>simp only[cq x (by simp)]
    | [],_,_=>rfl
    | _::_::_,_,_=>rfl
    | [_],_,[]=>rfl
    | [_],_,_::_::_=>rfl
   case clear=>
    dsimp only
    generalize args.toList=al at cq
    match al,cq,argTypes.toList with
    | [x],cq,[t]=>simp only[cq x (by simp)]
    | [],_,_=>rfl
    | _::_::_,_,_=>rfl
    | [_],_,[]=>rfl
    | [_],_,_::_::_=>rfl
   case unsafeSliceData=>
    dsimp only
    generalize args.toList=al at cq
    match al,cq with
    | [],_=>rfl
    | [x],cq=>simp only[cq x (by simp)]
    | _::_::_,_=>rfl
   case unsafeString=>
    dsimp only
    generalize args.toList=al at cq
    match al,cq,argTypes.toList with
    | [s,x],cq,[t,u]=>simp only[cq s (by simp),cq x (by simp)]
    | [],_,_=>rfl
    | [_],_,_=>rfl
    | _::_::_::_,_,_=>rfl
    | [_,_],_,[]=>rfl
    | [_,_],_,[_]=>rfl
    | [_,_],_,_::_::_::_=>rfl
   case max=>
    dsimp only
    generalize args.toList=al at cq
    match al,cq with
    | [],_=>rfl
    | x::l,cq=>simp only[cq x (by simp),Lb ty l (fun y hy=>cq y (by simp[hy]))]
   case min=>
    dsimp only
    generalize args.toList=al at cq
    match al,cq with
    | [],_=>rfl
    | x::l,cq=>simp only[cq x (by simp),Lb ty l (fun y hy=>cq y (by simp[hy]))]
  | value f=>
   cases f<;>first|rfl|skip
   ·rename_i t
    have ht:sl t=sl' t:=h (.tmp t) (by simp[Op.operands,Call.operands]) t rfl
    simp only[hz,ht]
   ·simp only[hz]
    cases hx:args.toList with
    | nil=>rfl
    | cons x l=>
     cases l with
     | cons _ _=>rfl
     | nil=>simp only[vf ty x (pG.1 (by rw[hx];simp))]
 case defer c=>
  obtain ⟨callee,args,argTypes⟩:=c
  cases callee with
  | invoke r m=>rfl
  | builtin b=>rfl
  | value f=>
   cases f<;>first|rfl|skip
   rename_i t
   have ht:sl t=sl' t:=h (.tmp t) (by simp[Op.operands,Call.operands]) t rfl
   simp only[ht]
 case makeFunc fn a b=>
  cases fn<;>first|rfl|skip
  have e1:a.toList.map (aW P A.aF ty sl)=a.toList.map (aW P A.aF ty sl'):=nt fun x hx=>fa ty x (by simp[pG.1 hx])
  have e2:b.toList.map (aW P A.aF ty sl)=b.toList.map (aW P A.aF ty sl'):=nt fun x hx=>fa ty x (by simp[pG.1 hx])
  dsimp only
  rw[e1,e2]
 case makeMap t r=>cases r<;>rfl
 all_goals first
  | rfl
  | (simp[fa];done)
end
section
variable {P:Program} {A:cP} {w w':World} {I I' I2:Nat→Prop} {μ β β':Nat→Option Nat} {hp hp':Nat→Option an} {C:ae} {B:Nat} {M:Nat→Prop} {w0:Start}
theorem Lc {q:Nat × an} {upd:List (Nat × an)} (h:q∈upd):q.1∈fW hp upd:=by
 unfold fW
 rw[List.mem_flatMap]
 refine ⟨q,h,?_⟩
 cases Nat.beq (gn (hp q.1)) (gn (some q.2))<;>simp
theorem acy {upd:List (Nat × an)} (h: ∀q∈upd,gn (hp' q.1)=gn (hp q.1)):fW hp' upd=fW hp upd:=by
 unfold fW
 induction upd with
 | nil=>rfl
 | cons q l ih=>
  rw[mz,mz,ih fun x hx=>h x (lL _ hx),h q (by simp)]
theorem RR {c:Nat}: ∀{upd:List (Nat × an)},c∉fW hp upd→ve hp (bO hp upd) c:=fun {upd} h=>by
 refine ⟨xZ fun q hq e=>h (e▸Lc hq),fun hc=> ?_⟩
 induction upd with
 | nil=>rfl
 | cons q l ih=>
  have hl:c∉fW hp l:=fun hx=>h (by unfold fW at*;rw[mz];exact EO _ hx)
  have hq:gn (hp q.1)=gn (some q.2)∨c≠q.1+KB:=by
   cases hb:Nat.beq (gn (hp q.1)) (gn (some q.2)) with
   | true=>exact .inl (z8 hb)
   | false=>
    refine .inr fun e=>h ?_
    unfold fW
    rw[mz,hb,e]
    simp
  show gn (aM (bO hp l) q.1 (some q.2) (c-KB))=_
  simp only[aM]
  cases hb:Nat.beq (c-KB) q.1 with
  | false=>exact ih hl
  | true=>
   have e:=z8 hb
   rcases hq with hq|hq
   ·rw[cond_true,e];exact hq.symm
   ·exact absurd (by omega) hq
theorem RS {n i nb:Nat} {ops:Array Oper} {o:Oper} {st st':St} {R W:List Nat} (h:gT P A C n ops i o nb st=some (st',R,W)):
  ∃x upd,st'=⟨iy st.sl o.dst x,bO st.hp upd,st.nb⟩∧W=fW st.hp upd∧∀eg:St,(∀d∈o.looksAt ops,eg.sl d=st.sl d)→(∀id∈R,ve st.hp eg.hp id)→
   gT P A C n ops i o nb eg=some (⟨iy eg.sl o.dst x,bO eg.hp upd,eg.nb⟩,R,W)∧W=fW eg.hp upd:=by
 unfold gT at h
 cases hd:sS o n with
 | false=>rw[hd] at h;cases h
 | true=>
  rw[hd] at h
  simp only[cond_true] at h
  have go:(((fH P A st.sl i (nb+64*i) o).run C st.hp).bind fun r=>some ((⟨iy st.sl o.dst r.1.v,bO st.hp r.1.upd,st.nb⟩:St),rb r.2 r.1.upd,fW st.hp r.1.upd))=some (st',R,W)→
    ∃x upd,st'=⟨iy st.sl o.dst x,bO st.hp upd,st.nb⟩∧W=fW st.hp upd∧∀eg:St,(∀d∈o.looksAt ops,eg.sl d=st.sl d)→(∀id∈R,ve st.hp eg.hp id)→
     (((fH P A eg.sl i (nb+64*i) o).run C eg.hp).bind fun r=>some ((⟨iy eg.sl o.dst r.1.v,bO eg.hp r.1.upd,eg.nb⟩:St),rb r.2 r.1.upd,fW eg.hp r.1.upd))=some (⟨iy eg.sl o.dst x,bO eg.hp upd,eg.nb⟩,R,W)∧W=fW eg.hp upd:=by
   intro h
   obtain ⟨⟨r,rd⟩,h1,U⟩:=bind_some h
   cases U
   refine ⟨r.v,r.upd,rfl,rfl,fun eg hs hh=> ?_⟩
   have hw:fW eg.hp r.upd=fW st.hp r.upd:=acy fun q hq=>by
    have:=(hh (q.1+KB) (EO _ (eB.2 ⟨q,hq,rfl⟩))).2 (Nat.le_add_left _ _)
    rwa [w8] at this
   rw[acw (sl':=st.sl) fun x hx k hk=> ?_,th h1 fun c hc=>hh c (List.mem_append_left _ hc)]
   ·refine ⟨?_,hw.symm⟩
    rw[Option.bind_some,hw]
   ·subst hk
    exact hs k (List.mem_append_left _ (List.mem_filterMap.2 ⟨.tmp k,by simpa using hx,rfl⟩))
  cases hg:o.guard with
  | none=>
   rw[hg] at h
   obtain ⟨x,upd,e1,e2,e3⟩:=go h
   refine ⟨x,upd,e1,e2,fun eg hs hh=> ?_⟩
   unfold gT
   simp only[hd,cond_true,hg]
   exact e3 eg hs hh
  | some gw=>
   obtain ⟨g,want⟩:=gw
   rw[hg] at h
   simp only at h
   cases ma:(ops[g]?).bind (·.dst) with
   | none=>rw[ma] at h;cases h
   | some d=>
    rw[ma] at h
    simp only at h
    have Ld:d∈o.looksAt ops:=EO _ (by rw[hg];simp[ma])
    cases mO:lN (st.sl d) with
    | none=>rw[mO] at h;cases h
    | some ob=>
    rw[mO] at h
    cases ob with
    | none=>
     injection h with h
     injection h with h3 h4
     injection h4 with h5 h6
     subst h5;subst h6
     refine ⟨.bm [],[],h3.symm,rfl,fun eg hs hh=> ?_⟩
     unfold gT
     simp only[hd,cond_true,hg,ma,hs d Ld,mO]
     exact ⟨rfl,rfl⟩
    | some b=>
    simp only at h
    cases hb:b==want with
    | true=>
     rw[hb] at h
     obtain ⟨x,upd,e1,e2,e3⟩:=go h
     refine ⟨x,upd,e1,e2,fun eg hs hh=> ?_⟩
     unfold gT
     simp only[hd,cond_true,hg,ma,hs d Ld,mO,hb]
     exact e3 eg hs hh
    | false=>
     rw[hb] at h
     simp only[cond_false] at h
     injection h with h
     injection h with h3 h4
     injection h4 with h5 h6
     subst h5;subst h6
     refine ⟨.bm [],[],h3.symm,rfl,fun eg hs hh=> ?_⟩
     unfold gT
     simp only[hd,cond_true,hg,ma,hs d Ld,mO,hb,cond_false]
     exact ⟨rfl,rfl⟩
theorem RT {sl:Nat→V} {d:Option Nat} {x:V} {k:Nat} (h:d≠some k):iy sl d x k=sl k:=by
 cases d with
 | none=>rfl
 | some d=>exact er _ _ fun e=>h (by rw[e])
theorem acz {hp:Nat→Option an} {a b:List (Nat × an)} (h: ∀q∈a,∀q'∈b,q.1≠q'.1):bO (bO hp a) b=bO (bO hp b) a:=by
 funext id
 by_cases ha: ∃q∈a,q.1=id
 ·have hb: ∀q∈b,q.1≠id:=by
   obtain ⟨q,hq,rfl⟩:=ha
   exact fun q' Bt e=>h q hq q' Bt e.symm
  rw[xZ hb]
  obtain ⟨q,hq,rfl⟩:=ha
  have same: ∀(bx gW:Nat→Option an) (l:List (Nat × an)) (q:Nat × an),q∈l→bO bx l q.1=bO gW l q.1:=by
   intro bx gW l
   induction l with
   | nil=>intro q hq;simp at hq
   | cons p l ih=>
    intro q hq
    simp only[bO,aM]
    cases hb:Nat.beq q.1 p.1 with
    | true=>rfl
    | false=>
     simp only[cond_false]
     refine ih q ((dp.1 hq).resolve_left fun e=> ?_)
     rw[e,jI] at hb;cases hb
  exact same _ _ a q hq
 ·rw[xZ (hp:=bO hp b) (l:=a) fun q hq e=>ha ⟨q,hq,e⟩]
  have same: ∀(bx gW:Nat→Option an) (l:List (Nat × an)),bx id=gW id→bO bx l id=bO gW l id:=by
   intro bx gW l he
   induction l with
   | nil=>exact he
   | cons p l ih=>
    simp only[bO,aM]
    cases hb:Nat.beq id p.1 with
    | true=>rfl
    | false=>exact ih
  exact same _ _ b (xZ fun q hq e=>ha ⟨q,hq,e⟩)
structure RU (ops:Array Oper) (o1 o2:Oper) (R1 W1 R2 W2:List Nat):Prop where
 apart:Oper.apart ops o1 o2=true
 w: ∀id∈W1,id∉R2∧id∉W2
 r: ∀id∈R1,id∉W2
theorem acA {n i j nb:Nat} {ops:Array Oper} {o1 o2:Oper} {st jl eg:St} {R1 W1 R2 W2:List Nat} (h1:gT P A C n ops i o1 nb st=some (jl,R1,W1)) (U:gT P A C n ops j o2 nb jl=some (eg,R2,W2))
  (hi:RU ops o1 o2 R1 W1 R2 W2): ∃Gn,gT P A C n ops j o2 nb st=some (Gn,R2,W2)∧gT P A C n ops i o1 nb Gn=some (eg,R1,W1):=by
 obtain ⟨x1,u1,e1,f1,g1⟩:=RS h1
 obtain ⟨x2,u2,e2,f2,g2⟩:=RS U
 obtain ⟨a1,a2,a3⟩:=Oper.apart_spec hi.apart
 subst e1
 have k2:=g2 st (fun d hd=>by simp only;rw[RT fun e=>a1 d e hd]) fun c hc=>(RR fun hw=>(hi.w c (by rw[f1];exact hw)).1 hc).symm
 refine ⟨_,k2.1,?_⟩
 rw[(g1 _ (fun d hd=> ?_) (fun c hd=> ?_)).1,e2]
 ·congr 3
  ·funext k
   cases Gp:o1.dst with
   | none=>rfl
   | some d1=>
    cases jb:o2.dst with
    | none=>rfl
    | some d2=>
     have bD:d2≠d1:=fun e=>a2 d1 Gp (by rw[jb,e])
     simp only[iy,aM]
     cases yd:Nat.beq k d1<;>cases fw:Nat.beq k d2<;>simp only[cond_true,cond_false]
     rw[a8] at yd fw
     exact absurd (fw.symm.trans yd) bD
  ·exact (acz fun q hq q' Bt e=>(hi.w q.1 (by rw[f1];exact Lc hq)).2 (by rw[f2,e];exact Lc Bt)).symm
 ·simp only
  rw[RT fun e=>a3 d e hd]
 ·exact RR fun hw=>hi.r c hd (by rw[k2.2];exact hw)
def ye (P:Program) (A:cP) (C:ae) (n:Nat) (ops:Array Oper) (nb:Nat):List (Nat × Oper × List Nat × List Nat)→St→St→Prop
 | [],st,st'=>st=st'
 | (i,o,R,W)::l,st,st'=> ∃jl,gT P A C n ops i o nb st=some (jl,R,W)∧ye P A C n ops nb l jl st'
def vg (x:Nat × Oper × List Nat × List Nat):Nat × List Nat × List Nat:=(x.1,x.2.2.1,x.2.2.2)
theorem RV {n nb:Nat} {ops:Array Oper}: ∀{l:List (Nat × Oper)} {st st':St} {log Gq:Log},pP P A C n ops nb l st log=some (st',Gq)→
  ∃g,g.map (fun x=>(x.1,x.2.1))=l∧Gq=log++g.map vg∧ye P A C n ops nb g st st'
 | [],st,st',log,Gq,h=>by
  cases h
  exact ⟨[],rfl,by simp,rfl⟩
 | (i,o)::l,st,st',log,Gq,h=>by
  obtain ⟨⟨jl,R,W⟩,h1,U⟩:=bind_some h
  obtain ⟨g,a,b,c⟩:=RV U
  exact ⟨(i,o,R,W)::g,by simp[a],by simp[b,vg],jl,h1,c⟩
def RW (ops:Array Oper) (x y:Nat × Oper × List Nat × List Nat):Prop:=RU ops x.2.1 y.2.1 x.2.2.1 x.2.2.2 y.2.2.1 y.2.2.2
theorem RX {n nb:Nat} {ops:Array Oper} {y:Nat × Oper × List Nat × List Nat} {g2:List (Nat × Oper × List Nat × List Nat)}: ∀{g1:List (Nat × Oper × List Nat × List Nat)} {st st':St},
  ye P A C n ops nb (g1++y::g2) st st'→(∀x∈g1,RW ops x y)→∃jl,gT P A C n ops y.1 y.2.1 nb st=some (jl,y.2.2.1,y.2.2.2)∧ye P A C n ops nb (g1++g2) jl st'
 | [],st,st',h,_=>h
 | x::g1,st,st',h,hi=>by
  obtain ⟨jl,h1,U⟩:=h
  obtain ⟨eg,h3,h4⟩:=RX U fun z hz=>hi z (lL _ hz)
  obtain ⟨Gn,h5,h6⟩:=acA h1 h3 (hi x (by simp))
  exact ⟨Gn,h5,eg,h6,h4⟩
theorem RY (hC:lr P A C) (hP:ji P A) {n nb:Nat} {ops:Array Oper} {Q:Exit→Act→World→Prop}: ∀{g:List (Nat × Oper × List Nat × List Nat)} {st st':St} {a:Act} {w:World} {I:Nat→Prop} {β:Nat→Option Nat},
  ye P A C n ops nb g st st'→(∀x∈g,ops[x.1]? =some x.2.1)→aI P w I β st.hp B M w0→jk P A.idle A.aF w I β n a st→
  (∀a' w' I' β',Le P w I β st.hp w' I' β' st'.hp→aI P w' I' β' st'.hp B M w0→jk P A.idle A.aF w' I' β' n a' st'→Q .normal a' w')→wpOps P ops Q (g.map (·.1)) a w
 | [],st,st',a,w,I,β,h,_,S,hA,hQ=>by
  cases h
  exact hQ a w I β (Le.refl w I β _) S hA
 | x::g,st,st',a,w,I,β,h,ho,S,hA,hQ=>by
  obtain ⟨jl,h1,U⟩:=h
  rw[cr,wpOps_cons]
  refine RP hC hP (ho x (by simp)) S hA h1 fun a' w' I' β' k1 k2 k3=> ?_
  exact RY hC hP U (fun y hy=>ho y (lL _ hy)) k2 k3 fun a2 w2 I2 cd m1 m2 m3=>hQ a2 w2 I2 cd (k1.trans m1) m2 m3
end
section
variable {P:Program} {A:cP} {w w':World} {I I' I2:Nat→Prop} {μ β β':Nat→Option Nat} {hp hp':Nat→Option an} {C:ae} {B:Nat} {M:Nat→Prop} {w0:Start}
inductive vh (ops:Array Oper):Nat→Nat→Prop
 | RZ {i x:Nat} {o:Oper} {e:Edge}:ops[i]? =some o→e∈o.after→Region.binds .any e=true→e.on=x→vh ops i x
 | trans {i x:Nat} {o:Oper} {e:Edge}:ops[i]? =some o→e∈o.after→Region.binds .any e=true→vh ops e.on x→vh ops i x
theorem R3 {acc:Array Nat} {x:Nat}: ∀{l:List Edge} {s:Nat},(l.foldl (fun s e=>if Region.binds .any e then s|||2^e.on|||acc.getD e.on 0 else s) s).testBit x=true→
  s.testBit x=true∨∃e∈l,Region.binds .any e=true∧(e.on=x∨(acc.getD e.on 0).testBit x=true)
 | [],s,h=> .inl h
 | e::l,s,h=>by
  simp only[List.foldl_cons] at h
  rcases R3 h with h1|⟨e',a,b⟩
  ·by_cases hb:Region.binds .any e=true
   ·rw[ah hb,sI,sI,Ag,Ag] at h1
    rcases h1 with (h1|h1)|h1
    ·exact .inl h1
    ·rw[Ah] at h1
     exact .inr ⟨e,by simp,hb,.inl (by simpa using h1)⟩
    ·exact .inr ⟨e,by simp,hb,.inr h1⟩
   ·rw[ai hb] at h1
    exact .inl h1
  ·exact .inr ⟨e',lL _ a,b⟩
theorem R4 {ops:Array Oper} {x:Nat}: ∀{l:List Oper} {acc:Array Nat},(∀j o,l[j]? =some o→ops[acc.size+j]? =some o)→(∀j,(acc.getD j 0).testBit x=true→vh ops j x)→
  ∀j,((l.foldl (fun acc o=>acc.push (o.after.foldl (fun s e=>if Region.binds .any e then s|||2^e.on|||acc.getD e.on 0 else s) 0)) acc).getD j 0).testBit x=true→vh ops j x
 | [],acc,_,Gr,j,h=>Gr j h
 | o::l,acc,hl,Gr,j,h=>by
  simp only[List.foldl_cons] at h
  refine R4 (l:=l) ?_ ?_ j h
  ·intro j o' hj
   have:=hl (j+1) o' (by simpa using hj)
   rw[Array.size_push]
   rwa [show acc.size+1+j=acc.size+(j+1) by omega]
  ·intro k hk
   simp only[w9,Array.getElem?_push] at hk
   by_cases bq:k=acc.size
   ·rw[ah bq] at hk
    simp only[Option.getD_some] at hk
    rw[←EH] at hk
    have ho:=hl 0 o rfl
    rw[Nat.add_zero] at ho
    rw[bq]
    have fw:(o.after.toList.foldl (fun s e=>if Region.binds .any e then s|||2^e.on|||acc.getD e.on 0 else s) 0).testBit x=true:=by simpa[w9] using hk
    rcases R3 fw with h0|⟨e,he,hb,h1⟩
    ·simp at h0
    ·rcases h1 with h1|h1
     ·exact .RZ ho (pG.1 he) hb h1
     ·exact .trans ho (pG.1 he) hb (Gr _ h1)
   ·rw[ai bq] at hk
    exact Gr k (by simpa[w9] using hk)
theorem acB {ops:Array Oper} {i x:Nat} (h:((Region.before ops).getD i 0).testBit x=true):vh ops i x:=by
 unfold Region.before at h
 rw[←EH] at h
 refine R4 (l:=ops.toList) (acc:= #[]) (fun j o hj=>by simpa using hj) (fun j hj=>by simp at hj) i h
def R5 (ops:Array Oper) (listed:Array Bool):Prop:= ∀i o,ops[i]? =some o→listed.getD i false=true→∀e∈o.after,Region.binds .any e=true→listed.getD e.on false=true
theorem acC {ops:Array Oper} {listed:Array Bool} (hc:R5 ops listed) {i x:Nat} (h:vh ops i x) (hi: ∀o,ops[i]? =some o→∀e∈o.after,Region.binds .any e=true→listed.getD e.on false=true):listed.getD x false=true:=by
 induction h with
 | RZ ho he hb hx=>rw[←hx];exact hi _ ho _ he hb
 | trans ho he hb _ ih=>exact ih fun o' jz e' gZ aB=>hc _ o' jz (hi _ ho _ he hb) e' gZ aB
theorem R6: ∀{l:List Oper} {k j:Nat} {o:Oper},AF k l=true→l[j]? =some o→∀e∈o.after,Region.binds .any e=true→e.on<k+j
 | [],k,j,o,_,h=>by simp at h
 | o'::l,k,j,o,hk,h=>by
  simp only[AF,aN] at hk
  cases j with
  | zero=>
   simp at h
   subst h
   intro e he hb
   have:=fc.1 hk.1 e (pG.2 he)
   simp[hb] at this
   omega
  | succ j=>
   intro e he hb
   have:=R6 hk.2 (j:=j) (by simpa using h) e he hb
   omega
theorem R7 {ops:Array Oper} {uD:Array Nat}: ∀{l:Log},Fh ops uD l=true→l.Pairwise fun x y=>AE ops uD x y=true
 | [],_=> .nil
 | x::l,h=>by
  simp only[Fh,aN] at h
  exact .cons (fun y hy=>fc.1 h.1 y hy) (R7 h.2)
theorem R8 {listed:Array Bool} {i:Nat} (h:listed.getD i true=false):i<listed.size∧listed.getD i false=false:=by
 rcases pF i listed.size with h'|h'
 ·refine ⟨h',?_⟩
  simpa[h'] using h
 ·simp[Array.getElem?_eq_none h'] at h
theorem R9 (hC:lr P A C) (hP:ji P A) {n nb:Nat} {ops:Array Oper} {Q:Exit→Act→World→Prop} (Gt:AF 0 ops.toList=true):
  ∀(fuel:Nat) {g:List (Nat × Oper × List Nat × List Nat)} {listed:Array Bool} {st st':St} {a:Act} {w:World} {I:Nat→Prop} {β:Nat→Option Nat},
  g.length=fuel→ye P A C n ops nb g st st'→(∀x∈g,ops[x.1]? =some x.2.1)→(g.map (·.1)).Pairwise (· < ·)→(g.map vg).Pairwise (fun x y=>AE ops (Region.before ops) x y=true)→
  listed.size=ops.size→(∀i,i<ops.size→(listed.getD i false=false↔i∈g.map (·.1)))→R5 ops listed→
  aI P w I β st.hp B M w0→jk P A.idle A.aF w I β n a st→
  (∀a' w' I' β',Le P w I β st.hp w' I' β' st'.hp→aI P w' I' β' st'.hp B M w0→jk P A.idle A.aF w' I' β' n a' st'→Q .normal a' w')→wpAny P .any ops Q fuel listed a w
 | 0,g,listed,st,st',a,w,I,β,hf,hr,ho,aT,Gu,bd,vi,ln,S,hA,hQ=>by
  obtain rfl:g=[]:=lK hf
  cases hr
  refine ⟨?_,hQ a w I β (Le.refl w I β _) S hA⟩
  rw[List.eq_nil_iff_forall_not_mem]
  intro i hi
  obtain ⟨h0,_⟩:=mem_ready.1 hi
  obtain ⟨h1,U⟩:=R8 h0
  have:=(vi i (by omega)).1 U
  simp at this
 | fuel+1,g,listed,st,st',a,w,I,β,hf,hr,ho,aT,Gu,bd,vi,ln,S,hA,hQ=>by
  refine ⟨fun Bv=> ?_,fun i hi=> ?_⟩
  ·exfalso
   cases g with
   | nil=>simp at hf
   | cons x g=>
    have hx:=ho x (by simp)
    have gG:x.1<ops.size:=(im.1 hx).1
    have kB:x.1∈Region.ready .any ops listed:=by
     rw[mem_ready]
     have h0:=(vi x.1 gG).2 (by simp)
     refine ⟨?_,x.2.1,hx,fun e he hb=> ?_⟩
     ·have hl:x.1<listed.size:=by omega
      simpa[hl] using h0
     ·have Kw:=R6 Gt (j:=x.1) (by simpa using hx) e he hb
      rw[gQ] at Kw
      cases hle:listed.getD e.on false with
      | true=>rfl
      | false=>
       have hm:=(vi e.on (by omega)).1 hle
       simp only[cr,dp] at hm
       rw[cr,uq] at aT
       rcases hm with hm|hm
       ·omega
       ·have:=aT.1 _ hm;omega
    rw[Bv] at kB
    cases kB
  ·obtain ⟨h0,oi,Bx,Sa⟩:=mem_ready.1 hi
   obtain ⟨h1,U⟩:=R8 h0
   have hig:=(vi i (by omega)).1 U
   obtain ⟨y,hy,hyi⟩:=eB.1 hig
   obtain ⟨g1,g2,rfl⟩:=List.append_of_mem hy
   subst hyi
   have Sb:=ho y hy
   rw[Bx] at Sb
   have Sd:oi=y.2.1:=cT Sb
   have kF:((g1++y::g2).map (·.1)).Nodup:=aT.imp fun h=>Nat.ne_of_lt h
   have acD: ∀x∈g1,RW ops x y:=by
    intro x hx
    have hp:AE ops (Region.before ops) (vg x) (vg y)=true:=by
     rw[gm,cr,List.pairwise_append] at Gu
     exact Gu.2.2 _ (eB.2 ⟨x,hx,rfl⟩) _ (by simp)
    have Lf:=ho x (eM.2 (.inl hx))
    unfold AE at hp
    rw[Ag] at hp
    rcases hp with hp|hp
    ·have hl:=acC ln (acB hp) fun o jz e he hb=>by
      have:o=oi:=by
       have h3:ops[y.1]? =some o:=jz
       rw[Bx] at h3
       exact (cT h3).symm
      subst this
      exact Sa e he hb
     have gG:x.1<ops.size:=(im.1 Lf).1
     have:=(vi x.1 gG).2 (eB.2 ⟨x,eM.2 (.inl hx),rfl⟩)
     rw[show (vg x).1=x.1 from rfl,this] at hl
     cases hl
    ·simp only[vg,w9,Lf,Bx,Option.getD_some,aN,lM] at hp
     obtain ⟨q1,q2,q3⟩:=hp
     refine ⟨Sd▸q1,fun id ab=> ?_,fun id ab=>Gg q3 ab⟩
     have:=Gg q2 ab
     rw[eM] at this
     exact ⟨fun h=>this (.inl h),fun h=>this (.inr h)⟩
   obtain ⟨jl,iZ,l8⟩:=RX hr acD
   rw[←Sd] at iZ
   refine RP hC hP Bx S hA iZ fun a' w' I' β' k1 k2 k3=> ?_
   have kC:List.Sublist (g1++g2) (g1++y::g2):=List.Sublist.append_left (List.sublist_cons_self y g2) g1
   have uF: ∀j,j≠y.1→(listed.setIfInBounds y.1 true).getD j false=listed.getD j false:=fun j hj=>getD_set_ne false (Ne.symm hj)
   refine R9 hC hP Gt fuel (g:=g1++g2) (st':=st') ?_ l8 (fun x hx=>ho x (kC.subset hx)) (aT.sublist (kC.map _)) (Gu.sublist (kC.map _)) (by simp[bd]) (fun j hj=> ?_) (fun j o Lh cp e he hb=> ?_) k2 k3 fun a2 w2 I2 cd m1 m2 m3=>hQ a2 w2 I2 cd (k1.trans m1) m2 m3
   ·simp at hf⊢;omega
   ·by_cases pV:j=y.1
    ·subst pV
     have hl:y.1<listed.size:=by omega
     simp only[w9,Js hl,Option.getD_some]
     refine ⟨fun h=>(by cases h),fun h=> ?_⟩
     exfalso
     rw[gm,cr,EN,List.nodup_cons] at kF
     rw[gm,eM] at h
     rcases h with h|h
     ·exact kF.2.2 _ h _ (by simp) rfl
     ·exact kF.2.1.1 h
    ·rw[uF j pV,vi j hj]
     simp only[gm,cr,eM,dp]
     constructor
     ·rintro (h|h|h)
      ·exact .inl h
      ·exact absurd h pV
      ·exact .inr h
     ·rintro (h|h)
      ·exact .inl h
      ·exact .inr (.inr h)
   ·by_cases pV:j=y.1
    ·subst pV
     rw[Bx] at Lh
     cases Lh
     exact getD_set_true (Sa e he hb)
    ·rw[uF j pV] at cp
     exact getD_set_true (ln j o Lh cp e he hb)
end
section
variable {P:Program} {A:cP} {w w':World} {I I' I2:Nat→Prop} {μ β β':Nat→Option Nat} {hp hp':Nat→Option an} {C:ae} {B:Nat} {M:Nat→Prop} {w0:Start}
theorem Se: ∀{l:List Oper} {k j:Nat},(oO k l)[j]? =(l[j]?).map fun o=>(k+j,o)
 | [],k,j=>by simp[oO]
 | o::l,k,0=>by simp[oO]
 | o::l,k,j+1=>by
  simp only[oO,List.getElem?_cons_succ,Se]
  congr 1
  funext o
  rw[show k+1+j=k+(j+1) by omega]
theorem Sf: ∀{l:List Oper} {k:Nat},(oO k l).map (·.1)=List.range' k l.length
 | [],k=>rfl
 | o::l,k=>by simp[oO,Sf,List.range'_succ]
theorem acE (hC:lr P A C) (hP:ji P A) (hm:P.follows .mixedOrders=true) {n id:Nat} {ops:Array Oper} {draw:Bool} {st st':St} {a:Act} {Q:Exit→Act→World→Prop}
  (h:AH P A C n ops draw st=some st') (S:aI P w I β st.hp B M w0) (hA:jk P A.idle A.aF w I β n a st)
  (hQ: ∀a' w' I' β',Le P w I β st.hp w' I' β' st'.hp→aI P w' I' β' st'.hp B M w0→jk P A.idle A.aF w' I' β' n a' st'→Q .normal a' w'):(Code.region id ops draw).wp P Q a w:=by
 obtain ⟨⟨jl,log⟩,h1,U⟩:=bind_some h
 obtain ⟨g,g1,g2,g3⟩:=RV h1
 have Gv:g.map (·.1)=List.range ops.size:=by
  have:g.map (·.1)=(g.map fun x=>(x.1,x.2.1)).map (·.1):=by simp
  rw[this,g1,Sf,List.range_eq_range']
  simp
 have Gw: ∀x∈g,ops[x.1]? =some x.2.1:=by
  intro x hx
  have:(x.1,x.2.1)∈oO 0 ops.toList:=by rw[←g1];exact eB.2 ⟨x,hx,rfl⟩
  obtain ⟨j,hj⟩:=List.mem_iff_getElem?.1 this
  rw[Se] at hj
  cases ho:ops.toList[j]? with
  | none=>rw[ho] at hj;cases hj
  | some o=>
   rw[ho] at hj
   simp only[Option.map_some,gQ,ec,kb] at hj
   rw[←hj.1,←hj.2]
   simpa using ho
 cases draw with
 | false=>
  simp only[ur,Bool.true_or,cond_true] at U
  cases U
  refine wp_region ?_
  rw[←Gv]
  exact RY hC hP g3 Gw S hA hQ
 | true=>
  simp only[qQ,Bool.false_or] at U
  cases hc:(Region.noSelect ops&&AG ops log) with
  | false=>rw[hc] at U;cases U
  | true=>
   rw[hc] at U
   cases U
   simp only[aN,AG] at hc
   obtain ⟨hns,Gt,acF⟩:=hc
   simp only[List.nil_append] at g2
   refine wp_region_any hm ?_
   have hlen:g.length=ops.size:=by
    have:=congrArg List.length Gv
    simpa using this
   refine R9 hC hP Gt ops.size (g:=g) (st':=st') hlen g3 Gw (by rw[Gv];exact List.pairwise_lt_range) (by rw[←g2];exact R7 acF) (by simp) (fun i hi=> ?_) (fun i o ho hl=> ?_)
    (w:=w.drew) S.drew ⟨fun k=>(hA.sl k).mono (Le.drew w I β _),hA.size,hA.defers,hA.aF.mono (Le.drew (P:=P) w I β st.hp).dq (Le.drew (P:=P) w I β st.hp).cm⟩ fun a' w' I' β' k1 k2 k3=>hQ a' w' I' β' ((Le.drew w I β _).trans k1) k2 k3
   ·rw[Gv]
    simp[hi]
   ·have hi:=(im.1 ho).1
    simp[hi] at hl
end
section
variable {P:Program} {A:cP} {E:FuncId→Bool} {G:Nat→V} {w w':World} {I I' I2:Nat→Prop} {μ β β':Nat→Option Nat} {hp hp':Nat→Option an} {C:ae} {B:Nat} {M:Nat→Prop} {w0:Start}
theorem vj: ∀{l:List Nat} {hp:Nat→Option an} {I:Nat→Prop},aI P w I β hp B M w0→∃I',Le P w I β hp w I' β (uC hp l)∧aI P w I' β (uC hp l) B M w0
 | [],hp,I,S=>⟨I,Le.refl w I β hp,S⟩
 | id::l,hp,I,S=>by
  simp only[uC]
  cases ab:hp id with
  | none=>exact vj S
  | some blk=>
   cases blk with
   | dead=>exact vj S
   | var _=>exact vj S
   | map _ _=>exact vj S
   | arr e es fz=>
    obtain ⟨h1,U⟩:=AT S (upd:=[(id,.arr e es true)]) (fun p hp=>by
     simp only[ez] at hp
     subst hp
     exact ⟨e,es,rfl,.inl ⟨fz,ab⟩⟩)
    obtain ⟨I',h3,h4⟩:=vj (l:=l) U
    exact ⟨I',h1.trans h3,h4⟩
   | nest e es aq=>
    obtain ⟨h1,U⟩:=AT S (upd:=[(id,.arr e es true)]) (fun p hp=>by
     simp only[ez] at hp
     subst hp
     exact ⟨e,es,rfl,.inr ⟨aq,ab⟩⟩)
    obtain ⟨I',h3,h4⟩:=vj (l:=l) U
    exact ⟨I',h1.trans h3,h4⟩
theorem Sg {n m:Nat} {pur:List Nat} {a:Act} {st:St} (S:aI P w I β st.hp B M w0) (hA:jk P E G w I β n a st):
  ∃I',Le P w I β st.hp w I' β (freeze m pur st).hp∧aI P w I' β (freeze m pur st).hp B M w0∧jk P E G w I' β n a (freeze m pur st):=by
 obtain ⟨I',h1,U⟩:=vj (l:=(PO st pur).filter fun id=>Nat.ble m id) S
 exact ⟨I',h1,U,fun k=>(hA.sl k).mono h1,hA.size,hA.defers,hA.aF.mono h1.dq h1.cm⟩
structure yf (hp:Nat→Option an) (β:Nat→Option Nat) (ord:List Nat) (hp':Nat→Option an) (β':Nat→Option Nat):Prop where
 arr: ∀(j:Nat) id e es fz,ord[j]? =some id→hp id=some (.arr e es fz)→hp' j=some (.arr e es fz)
 var: ∀(j:Nat) id T cs,ord[j]? =some id→hp id=some (.var T cs)→∃iF,hp' j=some (.var T iF)
 dead: ∀(j:Nat) id,ord[j]? =some id→hp id=some .dead→hp' j=some .dead
 place: ∀(j:Nat) id,ord[j]? =some id→β' j=β id
 nest: ∀(j:Nat) id e es aq,ord[j]? =some id→hp id=some (.nest e es aq)→hp' j=some (.nest e es (aq.map fun _=>0))
 map: ∀(j:Nat) id t es,ord[j]? =some id→hp id=some (.map t es)→hp' j=some (.map t es)
theorem mc: ∀{l:List Nat} {n i j:Nat},iz l n i=some j→∃k,j=i+k∧l[k]? =some n
 | [],n,i,j,h=>by cases h
 | a::l,n,i,j,h=>by
  simp only[iz] at h
  cases hb:Nat.beq n a with
  | true=>
   rw[hb] at h
   cases h
   rw[a8] at hb
   exact ⟨0,rfl,by rw[hb];rfl⟩
  | false=>
   rw[hb] at h
   obtain ⟨k,h1,U⟩:=mc h
   exact ⟨k+1,by omega,by simpa using U⟩
def lu (hp':Nat→Option an) (β':Nat→Option Nat) (n:Nat) (bs:List an):Prop:=
 ∀(k:Nat) b,bs[k]? =some b→hp' (n+k)=some b∧β' (n+k)=none
theorem Li: ∀(aq:List Nat) (k:Nat),bI (aq.map fun _=>0) k=0
 | [],_=>rfl
 | _::_,0=>rfl
 | _::vs,k+1=>Li vs k
theorem Sh {e:TypeId} {es:List V} {aq:List Nat} {path:Path} {ver:Nat} (hc:(Nat.blt 0 path.length&&(Nat.ble path.length aq.length&&Nat.beq (bI aq (path.length-1)) ver))=true)
  (h:(an.nest e es aq).uG path ver):False:=by
 simp only[aN,jH,eb,a8] at hc
 obtain ⟨h1,U,h3⟩:=hc
 rcases h with h|h|h
 ·subst h;simp at h1
 ·omega
 ·omega
theorem Si (S:aI P w I β hp B M w0) {ord:List Nat} (hR:yf hp β ord hp' β') {v:Value} {x:V} (hv:ao P w I β hp v x):ao P w I β' hp' v (iA hp ord x):=by
 cases hv with
 | undef=>exact .undef
 | int=>exact .int
 | bool=>exact .bool
 | str h=>exact .str h
 | list h=>exact .list h
 | nilS=>exact .nilS
 | agg=>exact .undef
 | bm=>exact .undef
 | dA=>exact .dA
 | fn=>exact .undef
 | pref a b c=>exact .pref a b c
 | @eo _ e id ab=>
  simp only[iA]
  cases bx:iz ord id 0 with
  | none=>simp only[ab];exact .undef
  | some j=>
   obtain ⟨k,rfl,hk⟩:=mc bx
   exact .eo (hR.dead _ id (by simpa using hk) ab)
 | @gp _ e id off len ab=>
  simp only[iA]
  cases bx:iz ord id 0 with
  | none=>simp only[ab];exact .undef
  | some j=>
   obtain ⟨k,rfl,hk⟩:=mc bx
   exact .gp (hR.dead _ id (by simpa using hk) ab)
 | @ku _ id i c ab=>
  simp only[iA]
  cases bx:iz ord id 0 with
  | none=>exact .undef
  | some j=>
   obtain ⟨k,rfl,hk⟩:=mc bx
   exact .ku (hR.dead _ id (by simpa using hk) ab)
 | @dP e id fz _ ab hb=>
  simp only[iA]
  cases bx:iz ord id 0 with
  | none=>
   simp only[ab]
   cases fz with
   | false=>exact .undef
   | true=>simp only[jI,cond_true];exact .list (.any fun _=>rfl)
  | some j=>
   obtain ⟨k,rfl,hk⟩:=mc bx
   have dt:ord[0+k]? =some id:=by simpa using hk
   exact .dP (hR.arr _ id _ _ _ dt ab) ((hR.place _ id dt).trans hb)
 | @whole e id es fz b cap ab hb bd cg hm=>
  simp only[iA]
  cases bx:iz ord id 0 with
  | none=>
   simp only[ab]
   cases fz with
   | false=>exact .undef
   | true=>
    simp only[jI,cond_true]
    have hr:=S.h.rel id _ ab
    cases hr with
    | dQ aB=>rw[aB] at hb;cases hb
    | arr ay aB hh hs hf ep hx=>
     rw[hb] at aB;cases aB
     have:=uK (I':=I) (off:=0) (len:=es.length) (o:=0) hh hx (fK ay) (by omega) cg (fun _=>by simp) (fun _ h=>h) (hf rfl)
     exact .list (by simpa using this)
  | some j=>
   obtain ⟨k,rfl,hk⟩:=mc bx
   have dt:ord[0+k]? =some id:=by simpa using hk
   exact .whole (hR.arr _ id _ _ _ dt ab) ((hR.place _ id dt).trans hb) bd cg hm
 | @fY e id fz _ ab hb=>
  simp only[iA]
  cases bx:iz ord id 0 with
  | none=>
   simp only[ab]
   cases fz with
   | false=>exact .undef
   | true=>simp only[jI,cond_true];exact .list (by simpa using (iX.any (P:=P) fun _=>rfl))
  | some j=>
   obtain ⟨k,rfl,hk⟩:=mc bx
   have dt:ord[0+k]? =some id:=by simpa using hk
   exact .fY (hR.arr _ id _ _ _ dt ab) ((hR.place _ id dt).trans hb)
 | @sub e id off len es fz b o cap ab hb ld cg ho=>
  simp only[iA]
  cases bx:iz ord id 0 with
  | none=>
   simp only[ab]
   cases fz with
   | false=>exact .undef
   | true=>
    simp only[jI,cond_true]
    have hr:=S.h.rel id _ ab
    cases hr with
    | dQ aB=>rw[aB] at hb;cases hb
    | arr ay aB hh hs hf ep hx=>
     rw[hb] at aB;cases aB
     exact .list (uK (I':=I) hh hx (fK ay) ld cg ho (fun _ h=>h) (hf rfl))
  | some j=>
   obtain ⟨k,rfl,hk⟩:=mc bx
   have dt:ord[0+k]? =some id:=by simpa using hk
   exact .sub (hR.arr _ id _ _ _ dt ab) ((hR.place _ id dt).trans hb) ld cg ho
 | @ptr id i c b blk ab hd hb=>
  simp only[iA]
  cases bx:iz ord id 0 with
  | none=>exact .undef
  | some j=>
   obtain ⟨k,rfl,hk⟩:=mc bx
   have dt:ord[0+k]? =some id:=by simpa using hk
   cases blk with
   | dead=>exact absurd rfl hd
   | var T0 cs=>
    obtain ⟨iF,h'⟩:=hR.var _ id T0 cs dt ab
    exact .ptr (blk:= .var T0 iF) h' (by simp) ((hR.place _ id dt).trans hb)
   | arr e es fz=>exact .ptr (blk:= .arr e es fz) (hR.arr _ id _ _ _ dt ab) (by simp) ((hR.place _ id dt).trans hb)
   | nest e es aq=>exact .ptr (blk:= .nest e es (aq.map fun _=>0)) (hR.nest _ id _ _ _ dt ab) (by simp) ((hR.place _ id dt).trans hb)
   | map t es=>exact .ptr (blk:= .map t es) (hR.map _ id _ _ dt ab) (by simp) ((hR.place _ id dt).trans hb)
 | dE=>exact .dE
 | @iD _ t id ab=>
  simp only[iA]
  cases bx:iz ord id 0 with
  | none=>exact .undef
  | some j=>
   obtain ⟨k,rfl,hk⟩:=mc bx
   exact .iD (hR.dead _ id (by simpa using hk) ab)
 | @cD t id b es ab hb=>
  simp only[iA]
  cases bx:iz ord id 0 with
  | none=>exact .undef
  | some j=>
   obtain ⟨k,rfl,hk⟩:=mc bx
   have dt:ord[0+k]? =some id:=by simpa using hk
   exact .cD (hR.map _ id _ _ dt ab) ((hR.place _ id dt).trans hb)
 | @eF e id es aq b cap ab hb bd cg hm=>
  simp only[iA]
  cases bx:iz ord id 0 with
  | none=>simp only[ab];exact .undef
  | some j=>
   obtain ⟨k,rfl,hk⟩:=mc bx
   have dt:ord[0+k]? =some id:=by simpa using hk
   exact .eF (hR.nest _ id _ _ _ dt ab) ((hR.place _ id dt).trans hb) bd cg hm
 | @jN v e id ver path blk ab AR=>
  simp only[iA]
  split
  ·rename_i j e1 cw aq h1 U
   rw[ab] at U
   cases U
   cases hc:(Nat.blt 0 path.length&&(Nat.ble path.length aq.length&&Nat.beq (bI aq (path.length-1)) ver)) with
   | false=>exact .undef
   | true=>exact (Sh hc AR).elim
  ·exact .undef
 | @jO v id ver i c path blk ab AR=>
  simp only[iA]
  split
  ·rename_i j e1 cw aq h1 U
   rw[ab] at U
   cases U
   cases hc:(Nat.blt 0 path.length&&(Nat.ble path.length aq.length&&Nat.beq (bI aq (path.length-1)) ver)) with
   | false=>exact .undef
   | true=>exact (Sh hc AR).elim
  ·exact .undef
 | @row v e e0 t id ver b i c q es l aq ab hb hq hv ht hc=>
  simp only[iA]
  split
  ·rename_i j e1 cw vd h1 U
   obtain ⟨k,rfl,hk⟩:=mc h1
   have dt:ord[0+k]? =some id:=by simpa using hk
   cases hx:(Nat.blt 0 (q++[(i,c)]).length&&(Nat.ble (q++[(i,c)]).length vd.length&&Nat.beq (bI vd ((q++[(i,c)]).length-1)) ver)) with
   | false=>exact .undef
   | true=>exact .row (hR.nest _ id _ _ _ dt ab) ((hR.place _ id dt).trans hb) (by simpa using hq) (Li _ _) ht hc
  ·exact .undef
 | @cK e e0 t id ver b b1 len cap i0 c0 i c q es l aq ab hb hq hv ht jR hc=>
  simp only[iA]
  split
  ·rename_i j e1 cw vd h1 U
   obtain ⟨k,rfl,hk⟩:=mc h1
   have dt:ord[0+k]? =some id:=by simpa using hk
   cases hx:(Nat.blt 0 (q++[(i0,c0)]).length&&(Nat.ble (q++[(i0,c0)]).length vd.length&&Nat.beq (bI vd ((q++[(i0,c0)]).length-1)) ver)) with
   | false=>exact .undef
   | true=>exact .cK (hR.nest _ id _ _ _ dt ab) ((hR.place _ id dt).trans hb) (by simpa using hq) (Li _ _) ht jR hc
  ·exact .undef
theorem Sj (S:aI P w I β hp B M w0) {ord:List Nat} (hR:yf hp β ord hp' β') {vs:Array Value} {xs:List V} (h: ∀(j:Nat) v x,vs[j]? =some v→xs[j]? =some x→ao P w I β hp v x) (j:Nat) (v:Value) (y:V)
  (hv:vs[j]? =some v) (hy:(xs.map (iA hp ord))[j]? =some y):ao P w I β' hp' v y:=by
 rw[gC] at hy
 cases hx:xs[j]? with
 | none=>rw[hx] at hy;cases hy
 | some x=>rw[hx] at hy;cases hy;exact Si S hR (h j v x hv hx)
theorem Sk (S:aI P w I β hp B M w0) {ord:List Nat} (hR:yf hp β ord hp' β') {n:Nat} {v:Value} {x:V} (hv:ao P w I β hp v x) (hF:lu hp' β' n (xq hp ord n x).2):
  ao P w I β' hp' v (xq hp ord n x).1:=by
 cases x with
 | nilS e=>
  obtain ⟨h1,U⟩:=hF 0 _ rfl
  cases hv with
  | nilS=>exact .dP h1 U
 | fn f a b=>
  cases hv with
  | fn q1 q2 q3 q4=>exact .fn (by simpa using q1) (Sj S hR q2) (by simpa using q3) (Sj S hR q4)
 | _=>exact Si S hR hv
end
section
variable {P:Program} {A:cP} {w w':World} {I I' I2:Nat→Prop} {μ β β':Nat→Option Nat} {hp hp':Nat→Option an} {C:ae} {B:Nat} {M:Nat→Prop} {w0:Start}
theorem lu.left {n:Nat} {a b:List an} (h:lu hp' β' n (a++b)):lu hp' β' n a:=fun k x hx=>
 h k x (by rw[iR (bu.1 hx).1];exact hx)
theorem lu.right {n:Nat} {a b:List an} (h:lu hp' β' n (a++b)):lu hp' β' (n+a.length) b:=fun k x hx=>by
 have:=h (a.length+k) x (by rw[iq (by omega),Nat.add_sub_cancel_left];exact hx)
 rwa [←oH] at this
def mP (bs:List an):Prop:= ∀b∈bs,∃e,b= .arr e [] false
theorem mP.app {a b:List an} (h1:mP a) (U:mP b):mP (a++b):=fun x hx=>(eM.1 hx).elim (h1 x) (U x)
theorem mP.nil:mP []:=fun x hx=>by simp at hx
theorem Sl {ord:List Nat} {n:Nat} {x:V}:mP (xq hp ord n x).2:=by
 cases x<;>simp only[xq]<;>first|exact .nil|skip
 intro b hb
 simp only[ez] at hb
 exact ⟨_,hb⟩
theorem Lj {ord:List Nat}: ∀{xs:List V} {n:Nat},mP (nC hp ord n xs).2
 | [],n=> .nil
 | x::xs,n=>by
  simp only[nC]
  exact Sl.app Lj
theorem Gx {ord:List Nat}: ∀{xs:List V} {n:Nat},(nC hp ord n xs).1.length=xs.length
 | [],n=>rfl
 | x::xs,n=>by simp only[nC,List.length_cons,Gx]
theorem Gy (S:aI P w I β hp B M w0) {ord:List Nat} (hR:yf hp β ord hp' β'): ∀{xs:List V} {vs:List Value} {n:Nat},(∀(j:Nat) v x,vs[j]? =some v→xs[j]? =some x→ao P w I β hp v x)→
  lu hp' β' n (nC hp ord n xs).2→∀(j:Nat) v y,vs[j]? =some v→(nC hp ord n xs).1[j]? =some y→ao P w I β' hp' v y
 | [],vs,n,h,hF,j,v,y,hv,hy=>by simp[nC] at hy
 | x::xs,vs,n,h,hF,j,v,y,hv,hy=>by
  simp only[nC] at hF hy
  cases j with
  | zero=>
   simp at hy
   subst hy
   exact Sk S hR (h 0 v x hv rfl) hF.left
  | succ j=>
   cases vs with
   | nil=>simp at hv
   | cons v0 vs=>exact Gy S hR (vs:=vs) (fun j v x hj hx=>h (j+1) v x (by simpa using hj) (by simpa using hx)) hF.right j v y (by simpa using hv) (by simpa using hy)
theorem acG {ord:List Nat} {n:Nat} {x:V}:mP (q0 hp ord n x).2:=by
 cases x<;>simp only[q0]<;>first|exact Sl|exact Lj
theorem acH (S:aI P w I β hp B M w0) {ord:List Nat} (hR:yf hp β ord hp' β') {n:Nat} {v:Value} {x:V} (hv:ao P w I β hp v x) (hF:lu hp' β' n (q0 hp ord n x).2):
  ao P w I β' hp' v (q0 hp ord n x).1:=by
 cases x with
 | agg cs=>
  obtain ⟨ds,rfl,h1,U⟩:=hv.lh
  simp only[q0] at hF⊢
  exact .agg (by rw[Gx];exact h1) fun j v y hj hy=>Gy S hR (vs:=ds.toList) (fun j v x hj hx=>U j v x (by simpa using hj) hx) hF j v y (by simpa using hj) hy
 | bm cs=>
  obtain ⟨ds,rfl,h1,U⟩:=hv.uO
  simp only[q0] at hF⊢
  exact .bm (by rw[Gx];exact h1) fun j v y hj hy=>Gy S hR (vs:=ds.toList) (fun j v x hj hx=>U j v x (by simpa using hj) hx) hF j v y (by simpa using hj) hy
 | _=>exact Sk S hR hv hF
theorem Sm {ord:List Nat} {sl:Nat→V}: ∀{l:List Nat} {n:Nat},mP (lR hp ord sl n l).2
 | [],n=> .nil
 | s::l,n=>by
  simp only[lR]
  exact acG.app Sm
theorem Sn {ord:List Nat} {sl:Nat→V} {k:Nat} {y:V}: ∀{l:List Nat} {n:Nat},lu hp' β' n (lR hp ord sl n l).2→dO (lR hp ord sl n l).1 k=some y→
  ∃n',lu hp' β' n' (q0 hp ord n' (sl k)).2∧y=(q0 hp ord n' (sl k)).1
 | [],n,_,h=>by cases h
 | s::l,n,hF,h=>by
  simp only[lR] at hF h
  simp only[dO] at h
  cases hb:Nat.beq k s with
  | true=>
   rw[hb] at h
   rw[a8] at hb
   subst hb
   cases h
   exact ⟨n,hF.left,rfl⟩
  | false=>
   rw[hb] at h
   exact Sn hF.right h
theorem acI {ord:List Nat} {n id:Nat}:mP (e6 hp ord n id).2:=by
 unfold e6
 split
 ·exact Lj
 ·exact .nil
 ·exact .nil
 ·exact .nil
 ·exact .nil
theorem So {ord:List Nat}: ∀{l:List Nat} {n:Nat},mP (fI hp ord n l).2
 | [],n=> .nil
 | s::l,n=>by
  simp only[fI]
  exact acI.app So
theorem Sp {ord:List Nat}: ∀{l:List Nat} {n:Nat},(fI hp ord n l).1.length=l.length
 | [],n=>rfl
 | x::xs,n=>by simp only[fI,List.length_cons,Sp]
theorem Sq {ord:List Nat}: ∀{l:List Nat} {n j:Nat} {id:Nat},l[j]? =some id→∃n',(lu hp' β' n (fI hp ord n l).2→lu hp' β' n' (e6 hp ord n' id).2)∧(fI hp ord n l).1[j]? =some (e6 hp ord n' id).1
 | [],n,j,id,h=>by simp at h
 | s::l,n,j,id,h=>by
  simp only[fI]
  cases j with
  | zero=>
   simp at h
   subst h
   exact ⟨n,fun hF=>hF.left,rfl⟩
  | succ j=>
   obtain ⟨n',h1,U⟩:=Sq (n:=n+(e6 hp ord n s).2.length) (j:=j) (by simpa using h)
   exact ⟨n',fun hF=>h1 hF.right,by simpa using U⟩
theorem Gz: ∀{l acc:List Nat},∃t,uB hp acc l=acc++t∧(acc.Nodup→(acc++t).Nodup)
 | [],acc=>⟨[],by simp[uB],by simp⟩
 | id::l,acc=>by
  simp only[uB]
  cases hb:(ki acc id|| !(PN hp id)) with
  | true=>exact Gz
  | false=>
   obtain ⟨t,h1,U⟩:=Gz (l:=l) (acc:=acc++[id])
   refine ⟨id::t,by simp only[cond_false,h1,cv,List.singleton_append],fun hn=> ?_⟩
   have:acc++id::t=(acc++[id])++t:=by simp
   rw[this]
   refine U ?_
   rw[EN]
   refine ⟨hn,by simp,fun a ha b aB=> ?_⟩
   simp only[ez] at aB
   subst aB
   intro e
   subst e
   rw[xH ha] at hb
   cases hb
theorem Sr: ∀{n:Nat} {l:List Nat},∃t,grow hp n l=l++t∧(l.Nodup→(l++t).Nodup)
 | 0,l=>⟨[],by simp[grow],by simp⟩
 | n+1,l=>by
  simp only[grow]
  obtain ⟨t,h1,U⟩:=Gz (hp:=hp) (acc:=l) (l:=l.flatMap (JJ hp))
  rw[h1]
  obtain ⟨t',h3,h4⟩:=Sr (n:=n) (l:=l++t)
  exact ⟨t++t',by rw[h3,cv],fun hn=>by rw[←cv];exact h4 (U hn)⟩
theorem acJ {m:Nat} {live:List Nat} {st:St}: ∃t,JK m live st=List.range m++t∧(List.range m++t).Nodup:=by
 unfold JK
 obtain ⟨t,h1,U⟩:=Gz (hp:=st.hp) (acc:=List.range m) (l:=live.flatMap fun s=>JI (st.sl s))
 rw[h1]
 obtain ⟨t',h3,h4⟩:=Sr (hp:=st.hp) (n:=3) (l:=List.range m++t)
 exact ⟨t++t',by rw[h3,cv],by rw[←cv];exact h4 (U List.nodup_range)⟩
end
section
variable {P:Program} {A:cP} {E:FuncId→Bool} {G:Nat→V} {w w':World} {I I' I2:Nat→Prop} {μ β β':Nat→Option Nat} {hp hp' hp0:Nat→Option an} {C:ae} {B:Nat} {M:Nat→Prop} {w0:Start}
theorem Ss {n m:Nat} {ord live:List Nat} {a:Act} {st:St} (lU:ord.Nodup) (By: ∀id,id<m→ord[id]? =some id∨∃p,ord[id]? =some p∧st.hp p=none) (S:aI P w I β st.hp B M w0) (hA:jk P E G w I β n a st) (hE:lq w0.w w0.I μ hp0 w I β st.hp) (hm: ∀id blk,hp0 id=some blk→id<m) (jC: ∀id e es aq,hp0 id=some (.nest e es aq)→∀k,bI aq k=0):
  ∃β',aI P w I β' (xr ord live st).hp B M w0∧jk P E G w I β' n a (xr ord live st)∧lq w0.w w0.I μ hp0 w I β' (xr ord live st).hp:=by
 have acK:xr ord live st=mk (lR st.hp ord st.sl (ord.length+(fI st.hp ord ord.length ord).2.length) live).1
   ((fI st.hp ord ord.length ord).1++((fI st.hp ord ord.length ord).2++(lR st.hp ord st.sl (ord.length+(fI st.hp ord ord.length ord).2.length) live).2)):=by
  rfl
 rw[acK]
 let hp':=jL ((fI st.hp ord ord.length ord).1++((fI st.hp ord ord.length ord).2++(lR st.hp ord st.sl (ord.length+(fI st.hp ord ord.length ord).2.length) live).2))
 let β':Nat→Option Nat:=fun j=>if j<ord.length then (ord[j]?).bind β else none
 have hlen:(fI st.hp ord ord.length ord).1.length=ord.length:=Sp
 have jf: ∀j,j<ord.length→hp' j=(fI st.hp ord ord.length ord).1[j]? :=by
  intro j hj
  simp only[hp',hY]
  rw[iR (by omega)]
 have hX: ∀k,hp' (ord.length+k)=((fI st.hp ord ord.length ord).2++(lR st.hp ord st.sl (ord.length+(fI st.hp ord ord.length ord).2.length) live).2)[k]? :=by
  intro k
  simp only[hp',hY]
  rw[iq (by omega),hlen,Nat.add_sub_cancel_left]
 have hF:lu hp' β' ord.length ((fI st.hp ord ord.length ord).2++(lR st.hp ord st.sl (ord.length+(fI st.hp ord ord.length ord).2.length) live).2):=by
  intro k b hb
  refine ⟨(hX k).trans hb,?_⟩
  simp only[β']
  rw[ai (by omega)]
 have Bv:mP ((fI st.hp ord ord.length ord).2++(lR st.hp ord st.sl (ord.length+(fI st.hp ord ord.length ord).2.length) live).2):=So.app Sm
 have o4: ∀(j:Nat) id,ord[j]? =some id→β' j=β id:=by
  intro j id hj
  simp only[β']
  rw[ah (bu.1 hj).1,hj]
  rfl
 have rO: ∀(j:Nat) id,ord[j]? =some id→∃n',lu hp' β' n' (e6 st.hp ord n' id).2∧hp' j=some (e6 st.hp ord n' id).1:=by
  intro j id hj
  obtain ⟨n',h1,U⟩:=Sq (hp:=st.hp) (hp':=hp') (β':=β') (ord:=ord) (n:=ord.length) hj
  exact ⟨n',h1 hF.left,(jf j (bu.1 hj).1).trans U⟩
 have hR:yf st.hp β ord hp' β':=by
  refine ⟨fun j id e es fz hj ab=> ?_,fun j id T cs hj ab=> ?_,fun j id hj ab=> ?_,o4,fun j id e es aq hj ab=> ?_,fun j id t es hj ab=> ?_⟩
  ·obtain ⟨n',_,U⟩:=rO j id hj
   rw[U];simp only[e6,ab]
  ·obtain ⟨n',_,U⟩:=rO j id hj
   rw[U];simp only[e6,ab];exact ⟨_,rfl⟩
  ·obtain ⟨n',_,U⟩:=rO j id hj
   rw[U];simp only[e6,ab]
  ·obtain ⟨n',_,U⟩:=rO j id hj
   rw[U];simp only[e6,ab]
  ·obtain ⟨n',_,U⟩:=rO j id hj
   rw[U];simp only[e6,ab]
 have cls: ∀j blk',hp' j=some blk'→(∃id,ord[j]? =some id∧((blk'= .dead)∨∃blk,st.hp id=some blk∧blk≠ .dead∧∀o b,bC P w o blk' b→bC P w o blk b))∨(∃e,blk'= .arr e [] false∧β' j=none):=by
  intro j blk' hj
  rcases pF j ord.length with h|h
  ·have fZ:=bN h
   obtain ⟨n',_,U⟩:=rO j _ fZ
   rw[hj] at U
   refine .inl ⟨_,fZ,?_⟩
   cases ab:st.hp ord[j] with
   | none=>left;simp only[e6,ab] at U;exact cT U
   | some blk=>
    cases blk with
    | dead=>left;simp only[e6,ab] at U;exact cT U
    | var T0 cs=>exact .inr ⟨_,rfl,by simp,fun o b h=>by simp only[e6,ab] at U;rw[cT U] at h;exact .root (by simp) (h.flat (by simp))⟩
    | arr e es fz=>exact .inr ⟨_,rfl,by simp,fun o b h=>by simp only[e6,ab] at U;rw[cT U] at h;exact .root (by simp) (h.flat (by simp))⟩
    | map t es=>exact .inr ⟨_,rfl,by simp,fun o b h=>by simp only[e6,ab] at U;rw[cT U] at h;exact .root (by simp) (h.flat (by simp))⟩
    | nest e es aq=>
     refine .inr ⟨_,rfl,by simp,fun o b h=> ?_⟩
     simp only[e6,ab] at U
     rw[cT U] at h
     cases h with
     | root _ h=>exact .root (by simp) h
     | row h1 U=>exact .row h1 U
  ·obtain ⟨k,rfl⟩: ∃k,j=ord.length+k:=⟨j-ord.length,by omega⟩
   rw[hX] at hj
   obtain ⟨e,he⟩:=Bv _ (jJ hj)
   exact .inr ⟨e,he,(hF k _ hj).2⟩
 refine ⟨β',⟨⟨fun j blk' hj=> ?_,fun j1 j2 b1 b2 b e1 e2 f1 f2=> ?_,fun j blk b e1 f1=> ?_,S.h.jP⟩,S.cm,S.size,S.new,S.io⟩,⟨fun k=> ?_,hA.size,hA.defers,hA.aF⟩,⟨hE.dq,hE.cm,fun id blk ab=> ?_,fun id blk blk' b ab bJ hd hb=> ?_⟩⟩
 ·change hp' j=some blk' at hj
  rcases pF j ord.length with h|h
  ·have fZ:=bN h
   obtain ⟨n',Su,U⟩:=rO j _ fZ
   rw[hj] at U
   rw[o4 j _ fZ]
   cases ab:st.hp ord[j] with
   | none=>simp only[e6,ab] at U;rw[cT U];exact .dead
   | some blk=>
    have hr:=S.h.rel _ _ ab
    generalize β ord[j]=o at hr
    cases hr with
    | dead=>simp only[e6,ab] at U;rw[cT U];exact .dead
    | dQ hb=>simp only[e6,ab] at U;rw[cT U];exact .dQ hb
    | arr a1 a2 a3 a4 a5 a6 a7=>simp only[e6,ab] at U;rw[cT U];exact .arr a1 a2 a3 a4 a5 a6 a7
    | nest a1 a2 a3=>simp only[e6,ab] at U;rw[cT U];exact .nest a1 a2 a3
    | map a1 a2 a3 a4 a5 a6 a7=>simp only[e6,ab] at U;rw[cT U];exact .map a1 a2 a3 a4 a5 a6 a7
    | @var xs b Ca T hb hh hs cV hx gr=>
     simp only[e6,ab] at U Su
     rw[cT U]
     exact .var hb hh (by rw[Gx];exact hs) cV (fun i v y hi hy=>Gy S hR (vs:=Ca.toList) (fun i v x hi cE=>hx i v x (by simpa using hi) cE) Su i v y (by simpa using hi) hy) gr
  ·rcases cls j blk' hj with ⟨id,ab,_⟩|⟨e,he,hb⟩
   ·have:=(bu.1 ab).1;omega
   ·rw[he];exact .dQ hb
 ·rcases cls j1 b1 e1 with ⟨Lk,o1,x1⟩|⟨e,_,hb⟩
  ·rcases cls j2 b2 e2 with ⟨cI,o2,x2⟩|⟨e,_,hb⟩
   ·obtain ⟨c1,y1,z1,g1⟩:=x1.resolve_left f1.alive
    obtain ⟨c2,y2,z2,g2⟩:=x2.resolve_left f2.alive
    rw[o4 _ _ o1] at f1
    rw[o4 _ _ o2] at f2
    have:=S.h.inj Lk cI c1 c2 b y1 y2 (g1 _ _ f1) (g2 _ _ f2)
    subst this
    obtain ⟨q1,q2⟩:=bu.1 o1
    obtain ⟨q3,q4⟩:=bu.1 o2
    exact (List.getElem_inj lU).1 (q2.trans q4.symm)
   ·subst ‹b2=_›;have:=f2.flat (by simp);rw[hb] at this;cases this
  ·subst ‹b1=_›;have:=f1.flat (by simp);rw[hb] at this;cases this
 ·rcases cls j blk e1 with ⟨Lk,o1,x1⟩|⟨e,_,hb⟩
  ·obtain ⟨c1,y1,z1,g1⟩:=x1.resolve_left f1.alive
   rw[o4 _ _ o1] at f1
   exact S.h.own Lk c1 b y1 (g1 _ _ f1)
  ·subst ‹blk=_›;have:=f1.flat (by simp);rw[hb] at this;cases this
 ·change ao P w I β' hp' (a.tmps.getD k undef) (jw _ k)
  unfold jw
  cases KW:dO (lR st.hp ord st.sl (ord.length+(fI st.hp ord ord.length ord).2.length) live).1 k with
  | none=>exact .undef
  | some y=>
   obtain ⟨n',h1,U⟩:=Sn hF.right KW
   simp only[Option.getD_some,U]
   exact acH S hR (hA.sl k) h1
 ·obtain ⟨rK,k1,k2,k3⟩:=hE.blk id blk ab
  rcases By id (hm id blk ab) with ho|⟨p,ho,bx⟩
  ·cases rK with
   | dead=>exact ⟨.dead,hR.dead id id ho k1,k2,fun h=>absurd rfl h⟩
   | var T0 cs=>
    obtain ⟨iF,h'⟩:=hR.var id id T0 cs ho k1
    refine ⟨_,h',?_,fun _=>(o4 id id ho).trans (k3 (by simp))⟩
    cases blk<;>simp_all [an.le]
   | arr e es fz=>exact ⟨_,hR.arr id id e es fz ho k1,k2,fun _=>(o4 id id ho).trans (k3 (by simp))⟩
   | map t es=>exact ⟨_,hR.map id id t es ho k1,k2,fun _=>(o4 id id ho).trans (k3 (by simp))⟩
   | nest e es aq=>
    refine ⟨_,hR.nest id id e es aq ho k1,?_,fun _=>(o4 id id ho).trans (k3 (by simp))⟩
    obtain ⟨JS,aao,rfl,l1,l2,_⟩:=an.JQ k2
    exact ⟨rfl,l1,by simpa using l2,fun k=>by rw[jC id _ _ _ ab k];exact kV _⟩
  ·obtain ⟨n',_,U⟩:=rO id p ho
   simp only[e6,bx] at U
   exact ⟨.dead,U,by cases blk<;>trivial,fun h=>absurd rfl h⟩
 ·obtain ⟨rK,k1,k2,k3⟩:=hE.blk id blk ab
  rcases By id (hm id blk ab) with ho|⟨p,ho,bx⟩
  ·refine hE.size id blk rK b ab k1 (fun rN=> ?_) hb
   subst rN
   have:=hR.dead id id ho k1
   change hp' id=some blk' at bJ
   rw[this] at bJ
   exact hd (cT bJ).symm
  ·obtain ⟨n',_,U⟩:=rO id p ho
   simp only[e6,bx] at U
   change hp' id=some blk' at bJ
   rw[U] at bJ
   exact absurd (cT bJ).symm hd
theorem acL {n m:Nat} {live:List Nat} {a:Act} {st:St} (S:aI P w I β st.hp B M w0) (hA:jk P E G w I β n a st) (hE:lq w0.w w0.I μ hp0 w I β st.hp) (hm: ∀id blk,hp0 id=some blk→id<m) (jC: ∀id e es aq,hp0 id=some (.nest e es aq)→∀k,bI aq k=0):
  ∃β',aI P w I β' (canon m live st).hp B M w0∧jk P E G w I β' n a (canon m live st)∧lq w0.w w0.I μ hp0 w I β' (canon m live st).hp:=by
 obtain ⟨t,By,lU⟩:=acJ (m:=m) (live:=live) (st:=st)
 refine Ss (by rw[By];exact lU) (fun id aT=> .inl ?_) S hA hE hm jC
 rw[By,iR (by simpa using aT)]
 simp[aT]
theorem Sv: ∀{l:List Nat},ra l=true→l.Nodup
 | [],_=> .nil
 | a::l,h=>by
  simp only[ra,aN,lM] at h
  rw[List.nodup_cons]
  exact ⟨fun hm=>Bool.noConfusion ((xH hm).symm.trans h.1),Sv h.2⟩
theorem acM {m:Nat} {mv:List Nat} {id:Nat} (h:id<m):(oN m mv)[id]? =some id∨(oN m mv)[id]? =some (m+id):=by
 unfold oN
 rw[iR (by simpa using h),gC]
 simp only[List.getElem?_range h,Option.map_some]
 cases ki mv id with
 | true=>exact .inr rfl
 | false=>exact .inl rfl
end
section
variable {P:Program} {A:cP} {w w':World} {I I' I2:Nat→Prop} {μ β β':Nat→Option Nat} {hp hp' hp0:Nat→Option an} {C:ae} {B:Nat} {M:Nat→Prop} {w0:Start}
theorem GA (p:Nat→Prop) (h: ∃n,p n): ∃n,p n∧∀m,p m→n≤m:=by
 obtain ⟨n,hn⟩:=h
 induction n using Nat.strongRecOn with
 | _ n ih=>
  by_cases hx: ∃m,m<n∧p m
  ·obtain ⟨m,hm,hp⟩:=hx
   exact ih m hm hp
  ·exact ⟨n,hn,fun m hm=>Nat.le_of_not_lt fun aT=>hx ⟨m,aT,hm⟩⟩
open Classical in
theorem acN {c:Code} {Q:Exit→Act→World→Prop} (J:Nat→Act→World→Prop) (h0: ∀a w,¬J 0 a w) (round: ∀n a w,J (n+1) a w→c.wp P (Exit.then (J n) Q) a w) {n:Nat} {a:Act} {w:World} (h:J n a w):
  (Code.loop c).wp P Q a w:=by
 refine wp_loop (fun a w=> ∃n,J n a w) (fun a w=>if h: ∃n,J n a w then (GA _ h).choose else 0) ⟨n,h⟩ fun a w hJ=> ?_
 obtain ⟨h1,U⟩:=(GA _ hJ).choose_spec
 generalize hk:(GA _ hJ).choose=k at h1 U
 cases k with
 | zero=>exact absurd h1 (h0 a w)
 | succ k=>
  refine wp_mono (round k a w h1) fun e a' w' he=> ?_
  cases e with
  | normal=>
   have hex: ∃n,J n a' w':=⟨k,he⟩
   refine ⟨hex,?_⟩
   have h3:=(GA _ hex).choose_spec.2 k he
   rw[sD hex,sD hJ,hk]
   omega
  | _=>exact he
def yg:Out→Exit
 | .norm=> .normal
 | .exit id=> .exit id
 | .ret=> .ret
def Inv (P:Program) (E:FuncId→Bool) (G:Nat→V) (B:Nat) (M:Nat→Prop) (w0:Start) (μ:Nat→Option Nat) (hp0:Nat→Option an) (n:Nat) (a:Act) (w:World) (st:St):Prop:=
 ∃I β,aI P w I β st.hp B M w0∧jk P E G w I β n a st∧lq w0.w w0.I μ hp0 w I β st.hp
theorem Inv.canon {E:FuncId→Bool} {G:Nat→V} {n m:Nat} {a:Act} {st:St} {live:List Nat} (h:Inv P E G B M w0 μ hp0 n a w st) (hm: ∀id blk,hp0 id=some blk→id<m) (jC: ∀id e es aq,hp0 id=some (.nest e es aq)→∀k,bI aq k=0):Inv P E G B M w0 μ hp0 n a w (canon m live st):=by
 obtain ⟨I,β,S,hA,hE⟩:=h
 obtain ⟨β',a,b,c⟩:=acL (live:=live) S hA hE hm jC
 exact ⟨I,β',a,b,c⟩
theorem GB: ∀{l:List BS} {ds:List V},(eO l ds).length=l.length
 | [],_=>rfl
 | b::l,ds=>by simp only[eO,List.length_cons,GB]
theorem Inv.enter {A:cP} {E:FuncId→Bool} {G:Nat→V} {n f:Nat} {ds:List V} {a:Act} (kF:ra (oN (A.sin f).bc.length (A.mv f))=true) (h:Inv P E G B M w0 μ hp0 n a w (bt (A.sin f) ds)) (hm: ∀id blk,hp0 id=some blk→id<(A.sin f).bc.length)
  (jC: ∀id e es aq,hp0 id=some (.nest e es aq)→∀k,bI aq k=0) (yh: ∀p,(A.sin f).bc.length≤p→(bt (A.sin f) ds).hp p=none):Inv P E G B M w0 μ hp0 n a w (Fj A f ds):=by
 unfold Fj
 split
 ·exact h
 ·obtain ⟨I,β,S,hA,hE⟩:=h
  obtain ⟨β',x,y,z⟩:=Ss (m:=(A.sin f).bc.length) (ord:=oN (A.sin f).bc.length (A.mv f)) (live:=(A.sin f).bV.map (·.1)) (Sv kF) (fun id ab=>(acM ab).imp (fun h=>h) fun h=>⟨_,h,yh _ (by omega)⟩) S hA hE hm jC
  exact ⟨I,β',x,y,z⟩
theorem Inv.reshape {E:FuncId→Bool} {G:Nat→V} {n m:Nat} {a:Act} {st:St} {S:Shape} {ds:List V} (h:Inv P E G B M w0 μ hp0 n a w st) (hs:jM m S st=some ds) (hm: ∀id blk,hp0 id=some blk→id<m):Inv P E G B M w0 μ hp0 n a w (bt S ds):=by
 obtain ⟨I,β,S1,hA,hE⟩:=h
 obtain ⟨r1,r2,_,r4⟩:=AM.reshape hs S1
 refine ⟨I,β,r1,⟨fun k=>r2 k _ (hA.sl k),hA.size,hA.defers,hA.aF⟩,⟨hE.dq,hE.cm,fun id blk ab=> ?_,fun id blk blk' b ab bJ hd hb=> ?_⟩⟩
 ·obtain ⟨rK,k1,k2,k3⟩:=hE.blk id blk ab
  obtain ⟨_,hle,_⟩:=Rc hs
  have hl:=hm id blk ab
  obtain ⟨ca,U⟩: ∃ca,(bt S ds).hp id=some ca:=by
   simp only[bt,mk,hY]
   exact ⟨_,bN (by rw[GB];omega)⟩
  by_cases hd:ca= .dead
  ·subst hd
   exact ⟨_,U,by cases blk<;>trivial,fun h=>absurd rfl h⟩
  ·obtain ⟨gU,e1,e2,_⟩:=r4 id ca U hd
   rw[k1] at e1;cases e1
   exact ⟨_,U,an.le_trans k2 e2,fun _=>k3 (fun e=>hd (an.pQ (e▸e2)))⟩
 ·obtain ⟨gU,e1,e2,_⟩:=r4 id blk' bJ hd
  exact hE.size id blk gU b ab e1 (fun e=>hd (an.pQ (e▸e2))) hb
theorem lr.here (h:lr P A C) (f:Nat) (id:Nat):lr P (A.here f id) C:=by
 intro key ds es hh
 obtain ⟨fn,c,h1,U,h3⟩:=h key ds es hh
 refine ⟨fn,c,h1,U,fun w I μ vals a g b d=>(h3 w I μ vals a g b d).mono fun e w' hx=> ?_⟩
 obtain ⟨v,I2,cd,q1,q2⟩:=hx
 exact ⟨v,I2,cd,q1,⟨q2.xW,q2.le,q2.res⟩⟩
theorem acO {a b:Out} (h:Fi a b=true):a=b:=by
 cases a<;>cases b<;>simp[Fi] at h<;>first|rfl|(subst h;rfl)
theorem Sw {m:Nat} {r:Out × St}: ∀{l:List (Out × Shape)} {j:Nat} {e:Nat × List V},ways m j l r=some e→j≤e.1
 | [],j,e,h=>by cases h
 | (o,S)::l,j,e,h=>by
  simp only[ways] at h
  split at h
  ·cases h;exact bU _
  ·have:=Sw h;omega
theorem Ll {m:Nat} {o:Out} {s:St} {out:Out} {st':St}: ∀{l:List (Out × Shape)} {k:Nat} {e:Nat × List V},ways m k l (o,s)=some e→mD k l e.1 e.2 (fun o st=>some (o,st))=some (out,st')→
  out=o∧∃S,jM m S s=some e.2∧st'=bt S e.2
 | [],k,e,h,_=>by cases h
 | (o',S)::l,k,e,h,U=>by
  simp only[ways] at h
  split at h
  ·rename_i ds hx
   cases h
   cases ho:Fi o' o with
   | false=>rw[ho] at hx;cases hx
   | true=>
    rw[ho] at hx
    have:=acO ho
    subst this
    cases l with
    | nil=>
     simp only[mD,ec,kb] at U
     exact ⟨U.1.symm,S,hx,U.2.symm⟩
    | cons p l=>
     simp only[mD,jI,cond_true,ec,kb] at U
     exact ⟨U.1.symm,S,hx,U.2.symm⟩
  ·have pW:=Sw h
   cases l with
   | nil=>cases h
   | cons p l=>
    have bD:Nat.beq e.1 k=false:=by
     cases hb:Nat.beq e.1 k with
     | false=>rfl
     | true=>rw[a8] at hb;omega
    simp only[mD,bD,cond_false] at U
    exact Ll h U
theorem acP (hC:lr P A C) (hP:ji P A) (p8:P.follows .mixedOrders=true) {f n m:Nat} (hm: ∀id blk,hp0 id=some blk→id<m) (jC: ∀id e es aq,hp0 id=some (.nest e es aq)→∀k,bI aq k=0):
  ∀(c:Code) {st st':St} {out:Out} {Q:Exit→Act→World→Prop} {a:Act} {w:World},exec P A C f n m c st=some (out,st')→Inv P A.idle A.aF B M w0 μ hp0 n a w st→
   (∀a' w',Inv P A.idle A.aF B M w0 μ hp0 n a' w' st'→Q (yg out) a' w')→c.wp P Q a w:=by
 intro c
 induction c with
 | skip=>
  intro st st' out Q a w h hI hQ
  simp only[exec,ec,kb] at h
  obtain ⟨rfl,rfl⟩:=h
  exact wp_skip (hQ a w hI)
 | exit id=>
  intro st st' out Q a w h hI hQ
  simp only[exec,ec,kb] at h
  obtain ⟨rfl,rfl⟩:=h
  exact wp_exit (hQ a w hI)
 | ret=>
  intro st st' out Q a w h hI hQ
  simp only[exec,ec,kb] at h
  obtain ⟨rfl,rfl⟩:=h
  exact wp_ret (hQ a w hI)
 | region id ops draw=>
  intro st st' out Q a w h hI hQ
  simp only[exec] at h
  obtain ⟨jl,h1,U⟩:=bind_some h
  simp only[ec,kb] at U
  obtain ⟨rfl,rfl⟩:=U
  obtain ⟨I,β,S,hA,hE⟩:=hI
  refine acE (hC.here f id) (hP.here f id) p8 h1 S hA fun a' w' I' β' k1 k2 k3=> ?_
  obtain ⟨I2,l1,l2,l3⟩:=Sg (m:=m) (pur:=A.pur f id) k2 k3
  have hE2:=(hE.trans k1.Gf).trans l1.Gf
  exact hQ a' w' (Inv.canon ⟨I2,β',l2,l3,hE2⟩ hm jC)
 | seq x y iU iW=>
  intro st st' out Q a w h hI hQ
  simp only[exec] at h
  obtain ⟨⟨o1,jl⟩,h1,U⟩:=bind_some h
  refine wp_seq (iU h1 hI fun a' w' jW=> ?_)
  cases o1 with
  | norm=>exact iW U jW hQ
  | exit id=>
   simp only[ec,kb] at U
   obtain ⟨rfl,rfl⟩:=U
   exact hQ a' w' jW
  | ret=>
   simp only[ec,kb] at U
   obtain ⟨rfl,rfl⟩:=U
   exact hQ a' w' jW
 | cond c x y iU iW=>
  intro st st' out Q a w h hI hQ
  cases c with
  | tmp t=>
   have go: ∀{st st':St} {out:Out} {Q:Exit→Act→World→Prop} {a:Act} {w:World},(match st.sl t with
     | .bool b=>(bif b then exec P A C f n m x st else exec P A C f n m y st).bind fun r=>
      match r.1 with
      | .norm=>some (.norm,AM.canon m (A.join f t) r.2)
      | _=>some r
     | _=>none)=some (out,st')→Inv P A.idle A.aF B M w0 μ hp0 n a w st→(∀a' w',Inv P A.idle A.aF B M w0 μ hp0 n a' w' st'→Q (yg out) a' w')→(Code.cond (.tmp t) x y).wp P Q a w:=by
    intro st st' out Q a w h hI hQ
    cases hs:st.sl t<;>rw[hs] at h<;>simp only at h<;>first|(cases h;done)|skip
    rename_i b
    obtain ⟨⟨o1,jl⟩,h1,U⟩:=bind_some h
    obtain ⟨I,β,S,hA,hE⟩:=hI
    have fa:a.eval (.tmp t)= .bool b:=by
     have:=RN hA hs
     simp[Act.eval,this]
    have fin: ∀a' w',Inv P A.idle A.aF B M w0 μ hp0 n a' w' jl→Q (yg o1) a' w':=by
     intro a' w' jW
     cases o1 with
     | norm=>
      simp only[ec,kb] at U
      obtain ⟨rfl,rfl⟩:=U
      exact hQ a' w' (jW.canon hm jC)
     | exit id=>
      simp only[ec,kb] at U
      obtain ⟨rfl,rfl⟩:=U
      exact hQ a' w' jW
     | ret=>
      simp only[ec,kb] at U
      obtain ⟨rfl,rfl⟩:=U
      exact hQ a' w' jW
    refine wp_cond fa ?_
    cases b with
    | true=>exact iU h1 ⟨I,β,S,hA,hE⟩ fin
    | false=>exact iW h1 ⟨I,β,S,hA,hE⟩ fin
   simp only[exec] at h
   split at h
   ·exact go h hI hQ
   ·obtain ⟨ds,h1,U⟩:=bind_some h
    obtain ⟨e,h3,h4⟩:=bind_some U
    obtain ⟨⟨o1,s1⟩,h5,h6⟩:=bind_some h3
    obtain ⟨rfl,S',k1,rfl⟩:=Ll h6 h4
    exact go h5 (hI.reshape h1 hm) fun a' w' jW=>hQ a' w' (jW.reshape k1 hm)
  | const v=>
   cases v with
   | bool b=>
    simp only[exec] at h
    refine wp_cond (t:=b) rfl ?_
    cases b with
    | true=>exact iU h hI hQ
    | false=>exact iW h hI hQ
   | _=>simp only[exec] at h;cases h
  | _=>simp only[exec] at h;cases h
 | block id c ih=>
  intro st st' out Q a w h hI hQ
  simp only[exec] at h
  obtain ⟨⟨o1,jl⟩,h1,U⟩:=bind_some h
  refine wp_block (ih h1 hI fun a' w' jW=> ?_)
  cases o1 with
  | norm=>
   simp only[ec,kb] at U
   obtain ⟨rfl,rfl⟩:=U
   exact hQ a' w' (jW.canon hm jC)
  | exit aG=>
   simp only at U
   cases hb:Nat.beq aG id with
   | true=>
    rw[hb] at U
    simp only[cond_true,ec,kb] at U
    obtain ⟨rfl,rfl⟩:=U
    rw[a8] at hb
    simp only[yg,Exit.inBlock,hb,cU]
    exact hQ a' w' (jW.canon hm jC)
   | false=>
    rw[hb] at U
    simp only[cond_false,ec,kb] at U
    obtain ⟨rfl,rfl⟩:=U
    have bD:aG≠id:=fun e=>by rw[e,jI] at hb;cases hb
    simp only[yg,Exit.inBlock,bD,fR]
    exact hQ a' w' jW
  | ret=>
   simp only[ec,kb] at U
   obtain ⟨rfl,rfl⟩:=U
   exact hQ a' w' jW
 | loop c ih=>
  intro st st' out Q a w h hI hQ
  simp only[exec] at h
  split at h
  ·cases h
  ·rename_i S hS
   obtain ⟨ds,h1,U⟩:=bind_some h
   obtain ⟨e,h3,h4⟩:=bind_some U
   obtain ⟨k,hk⟩:=xe h3
   refine acN (J:=fun k a w=> ∃ds,Inv P A.idle A.aF B M w0 μ hp0 n a w (bt S.1 ds)∧fF (fun ds=>nD m S.1 S.2 (exec P A C f n m c (bt S.1 ds))) k ds=some e) (fun a w ⟨s,_,h⟩=>by cases h) (fun k a w ⟨ds,hs,hk⟩=> ?_) ⟨ds,hI.reshape h1 hm,hk⟩
   simp only[fF] at hk
   obtain ⟨y,h5,h6⟩:=bind_some hk
   unfold nD at h5
   obtain ⟨⟨o1,s1⟩,h7,h8⟩:=bind_some h5
   refine ih h7 hs fun a' w' jW=> ?_
   have Sy: ∀{e':Nat × List V},ways m 0 S.2 (o1,s1)=some e'→e'=e→Q (yg o1) a' w':=by
    intro e' q1 q2
    subst q2
    obtain ⟨rfl,S',k1,rfl⟩:=Ll q1 h4
    exact hQ a' w' (jW.reshape k1 hm)
   cases o1 with
   | norm=>
    obtain ⟨ds2,q1,q2⟩:=bind_some h8
    cases q2
    exact ⟨ds2,jW.reshape q1 hm,h6⟩
   | exit id=>
    obtain ⟨e',q1,q2⟩:=bind_some h8
    cases q2
    cases h6
    exact Sy q1 rfl
   | ret=>
    obtain ⟨e',q1,q2⟩:=bind_some h8
    cases q2
    cases h6
    exact Sy q1 rfl
 | _=>intro st st' out Q a w h;simp only[exec] at h;cases h
end
section
variable {P:Program} {A:cP} {w w':World} {I I' I2:Nat→Prop} {μ β β' cd:Nat→Option Nat} {hp hp' hp0:Nat→Option an} {C:ae} {B:Nat} {M:Nat→Prop} {w0:Start}
theorem GC (S:aI P w I β hp B M w0) {a:Act} {st:St} (hs:lf P w I β hp a st.sl): ∀{l:List ResultVar} {xs:List V} {rd:List Nat},(uE P st l).run C hp=some (xs,rd)→
  ∃vs:List Value,(l.mapM fun| .tmp t=>Pure.pure (a.tmps.getD t undef)| .cell x t=>do loadVar t (←asAddr (a.tmps.getD x undef)):Sem (List Value)).run P w= .ok vs w∧vs.length=xs.length∧l.length=xs.length∧
   ∀(j:Nat) v x,vs[j]? =some v→xs[j]? =some x→ao P w I β hp v x
 | [],xs,rd,h=>by
  cases h
  exact ⟨[],by simp,rfl,rfl,by simp⟩
 | .tmp t::l,xs,rd,h=>by
  simp only[uE] at h
  obtain ⟨ys,l1,l2,h1,U⟩:=lg h
  have h3:=JU U
  subst h3
  obtain ⟨vs,a1,a2,a3,a4⟩:=GC S hs h1
  refine ⟨a.tmps.getD t undef::vs,by simp only[List.mapM_cons,Sem.run_bind,Sem.run_pure,Result.andThen_ok,a1],by simp[a2],by simp[a3],fun j v x hj hx=> ?_⟩
  cases j with
  | zero=>simp at hj hx;subst hj;subst hx;have:=hs t;simpa using this
  | succ j=>exact a4 j v x (by simpa using hj) (by simpa using hx)
 | .cell y t::l,xs,rd,h=>by
  simp only[uE] at h
  obtain ⟨r,l1,l2,h1,U⟩:=lg h
  obtain ⟨ys,l3,l4,h3,h4⟩:=lg U
  have h5:=JU h4
  subst h5
  obtain ⟨v0,b1,b2,b3,ad,b4⟩:=Qa S (hs y) h1
  obtain ⟨vs,a1,a2,a3,a4⟩:=GC S hs h3
  refine ⟨v0::vs,?_,by simp[a2],by simp[a3],fun j v x hj hx=> ?_⟩
  ·have e1:(do loadVar t (←asAddr (a.tmps.getD y undef)):Sem Value).run P w= .ok v0 w:=by
    rw[b4] at b1⊢
    simpa[Instr.loadAt,Instr.sureAddr,asAddr] using b1
   simp only[List.mapM_cons,Sem.run_bind,e1,Result.andThen_ok,a1,Sem.run_pure]
  cases j with
  | zero=>simp at hj hx;subst hj;subst hx;exact b2
  | succ j=>exact a4 j v x (by simpa using hj) (by simpa using hx)
def vk:List Value→Value
 | [v]=>v
 | l=> .tuple l.toArray
theorem acQ {vs:List Value} (h:vs.length≠1):vk vs= .tuple vs.toArray:=by
 match vs,h with
 | [],_=>rfl
 | [v],h=>simp at h
 | v::v2::l,_=>rfl
theorem acR {fn:Func} {a:Act} {st:St} (S:aI P w I β st.hp B M w0) (hs:lf P w I β st.hp a st.sl) {xs:List V} {rd:List Nat} (h:(uE P st fn.results.toList).run C st.hp=some (xs,rd)):
  ∃vs:List Value,(results fn a.tmps).run P w= .ok (vk vs) w∧vs.length=xs.length∧
   ∀(j:Nat) v x,vs[j]? =some v→xs[j]? =some x→ao P w I β st.hp v x:=by
 obtain ⟨vs,a1,a2,_,a4⟩:=GC S hs h
 refine ⟨vs,?_,a2,a4⟩
 unfold results
 rw[Array.mapM_eq_mapM_toList]
 simp only[map_eq_pure_bind,bind_assoc,pure_bind,Sem.run_bind]
 refine (congrArg (fun r:Result (List Value)=>r.andThen _) a1).trans ?_
 simp only[Result.andThen_ok,Sem.run_pure]
 match vs with
 | []=>simp[vk]
 | [v]=>simp[vk]
 | v::v2::l=>simp[vk]
theorem Sz: ∀{args:List V} {i k:Nat},dO (nE i args) k=if i≤k then args[k-i]? else none
 | [],i,k=>by simp[nE,dO]
 | v::vs,i,k=>by
  simp only[nE,dO]
  cases hb:Nat.beq k i with
  | true=>
   rw[a8] at hb
   subst hb
   simp
  | false=>
   have bD:k≠i:=fun e=>by rw[e,jI] at hb;cases hb
   simp only[cond_false,Sz]
   by_cases h:i≤k
   ·rw[ah (by omega),ah h]
    obtain ⟨d,rfl⟩: ∃d,k=i+1+d:=⟨k-(i+1),by omega⟩
    rw[show i+1+d-(i+1)=d by omega,show i+1+d-i=d+1 by omega]
    rfl
   ·rw[ai (by omega),ai h]
theorem Lm: ∀{l:List (Nat × VS)} {ds:List V} {i k:Nat},kq i l=true→dO (fm l ds) k=if i≤k then (fG (l.map (·.2)) ds)[k-i]? else none
 | [],ds,i,k,_=>by simp[fm,fG,dO]
 | (q,s)::l,ds,i,k,h=>by
  simp only[kq,aN,a8] at h
  obtain ⟨rfl,h⟩:=h
  simp only[fm,dO,cr,fG]
  cases hb:Nat.beq k q with
  | true=>
   rw[a8] at hb
   subst hb
   simp
  | false=>
   have bD:k≠q:=fun e=>by rw[e,jI] at hb;cases hb
   simp only[cond_false]
   rw[Lm h]
   by_cases h:q≤k
   ·rw[ah (by omega),ah h]
    obtain ⟨d,rfl⟩: ∃d,k=q+1+d:=⟨k-(q+1),by omega⟩
    rw[show q+1+d-(q+1)=d by omega,show q+1+d-q=d+1 by omega]
    rfl
   ·rw[ai (by omega),ai h]
theorem SA: ∀{l:List (Nat × VS)} {ds:List V},(fm l ds).map (·.2)=fG (l.map (·.2)) ds
 | [],_=>rfl
 | (q,s)::l,ds=>by simp only[fm,cr,fG,SA]
theorem Ln: ∀{l:List VS} {ds:List V},(fG l ds).length=l.length
 | [],_=>rfl
 | s::l,ds=>by simp only[fG,List.length_cons,Ln]
theorem SB: ∀{l:List (Nat × VS)} {ds:List V},(fm l ds).length=l.length
 | [],_=>rfl
 | (q,s)::l,ds=>by simp only[fm,List.length_cons,SB]
theorem acS {vals:List Value} {l:List (Nat × V)} (hl:vals.length=l.length) (h: ∀(j:Nat) v y,vals[j]? =some v→(l.map (·.2))[j]? =some y→ao P w I β hp v y):ao P w I β hp (vk vals) (pO l):=by
 match l,hl,h with
 | [],hl,h=>
  obtain rfl:vals=[]:=lK hl
  exact .bm rfl fun j v x _ hx=>by simp at hx
 | [(k,y)],hl,h=>
  match vals,hl,h with
  | [v],_,h=>exact h 0 v y rfl rfl
 | a::b::l,hl,h=>
  have bD:vals.length≠1:=by rw[hl];simp
  rw[acQ bD]
  simp only[pO]
  exact .bm (by simp[hl]) fun j v y hj hy=>h j v y (by simpa using hj) hy
theorem acT {l:List BS} {ds:List V} {j:Nat} {e:TypeId} {es:List V} {aq:List Nat} (h:(eO l ds)[j]? =some (.nest e es aq)) (k:Nat):bI aq k=0:=by
 obtain ⟨b,fv,_,U⟩:=K0 h
 cases b<;>simp only[fV] at U<;>cases U
 match k with
 | 0=>rfl
 | 1=>rfl
 | 2=>rfl
 | _+3=>rfl
theorem acU {f n m:Nat} {fn:Func} {a:Act} {st:St} {es:List V} {rd:List Nat} (hm: ∀id blk,hp0 id=some blk→id<m) (jC: ∀id e es aq,hp0 id=some (.nest e es aq)→∀k,bI aq k=0)
  (hI:Inv P A.idle A.aF B M w0 μ hp0 n a w st) (o5:kq 0 (A.gS f).bV=true) (bd:(A.gS f).bV.length=fn.results.size) (h:(xu P A f fn m st).run C st.hp=some (es,rd)):
  ∃v I2 cd,(results fn a.tmps).run P w= .ok v w∧aI P w I2 cd (bt (A.so f es) (A.lv f es)).hp B M w0∧lq w0.w w0.I μ hp0 w I2 cd (bt (A.so f es) (A.lv f es)).hp∧ao P w I2 cd (bt (A.so f es) (A.lv f es)).hp v (pO (fm (A.so f es).bV (A.lv f es))):=by
 unfold xu at h
 obtain ⟨xs,l1,l2,h1,U⟩:=lg h
 obtain ⟨I,β,S,hA,hE⟩:=hI
 obtain ⟨vals,e1,e2,e3⟩:=acR S hA.sl h1
 have e4:fn.results.size=xs.length:=by
  obtain ⟨_,_,_,q,_⟩:=GC S hA.sl h1
  simpa using q
 have fin: ∀(Sx:Shape) (es:List V),kq 0 Sx.bV=true→Sx.bV.length=fn.results.size→jM m Sx (canon m (List.range xs.length) (freeze m (A.ux f) ⟨jw (nE 0 xs),st.hp,st.nb⟩))=some es→
   ∃v I2 cd,(results fn a.tmps).run P w= .ok v w∧aI P w I2 cd (bt Sx es).hp B M w0∧lq w0.w w0.I μ hp0 w I2 cd (bt Sx es).hp∧ao P w I2 cd (bt Sx es).hp v (pO (fm Sx.bV es)):=by
  intro Sx es o5 bd vl
  have hA0:jk P A.idle A.aF w I β vals.length ⟨vals.toArray,[]⟩ ⟨jw (nE 0 xs),st.hp,st.nb⟩:=by
   refine ⟨fun k=> ?_,by simp,by simp,hA.aF⟩
   change ao P w I β st.hp _ (jw (nE 0 xs) k)
   unfold jw
   rw[Sz]
   simp only[kV,cU,Nat.sub_zero]
   cases hk:xs[k]? with
   | none=>exact .undef
   | some x=>
    have iG:k<vals.length:=by rw[e2];exact (bu.1 hk).1
    have:=e3 k vals[k] x (bN iG) hk
    have e5:(vals.toArray).getD k undef=vals[k]:=by simp[iG]
    rw[Option.getD_some]
    exact e5▸this
  obtain ⟨I2,k1,k2,k3⟩:=Sg (st:=⟨jw (nE 0 xs),st.hp,st.nb⟩) (m:=m) (pur:=A.ux f) S hA0
  have hI2:Inv P A.idle A.aF B M w0 μ hp0 vals.length ⟨vals.toArray,[]⟩ w (freeze m (A.ux f) ⟨jw (nE 0 xs),st.hp,st.nb⟩):=⟨I2,β,k2,k3,hE.trans k1.Gf⟩
  obtain ⟨I3,SC,q1,q2,q3⟩:=(hI2.canon (live:=List.range xs.length) hm jC).reshape vl hm
  refine ⟨vk vals,I3,SC,e1,q1,q3,acS (by rw[SB,bd,e4,e2]) fun j v y hj hy=> ?_⟩
  have hv:=q2.sl j
  have cp:=(bu.1 hj).1
  have e5:(vals.toArray).getD j undef=v:=by
   have:=(bu.1 hj).2
   simp[cp,this]
  change ao P w I3 SC _ ((vals.toArray).getD j undef) (jw (fm Sx.bV _) j) at hv
  rw[e5] at hv
  unfold jw at hv
  rw[Lm o5] at hv
  simp only[kV,cU,Nat.sub_zero] at hv
  rw[SA] at hy
  rw[hy] at hv
  exact hv
 unfold cP.so cP.lv
 cases cq:A.alt f with
 | none=>
  rw[cq] at U
  simp only at U⊢
  split at U
  ·rename_i fv vl
   have:=aU U
   subst this
   exact fin _ _ o5 bd vl
  ·cases U
 | some S2=>
  rw[cq] at U
  simp only at U⊢
  split at U
  ·rename_i fv vl
   have:=aU U
   subst this
   exact fin _ _ o5 bd vl
  ·split at U
   ·rename_i fv vl
    obtain ⟨hc,h3⟩:=aK U
    simp only[aN,a8] at hc
    have:=aU h3
    subst this
    exact fin _ _ hc.1 hc.2 vl
   ·cases U
theorem acV (hC:lr P A C) (hP:ji P A) (p8:P.follows .mixedOrders=true):lr P A (rf P A C):=by
 intro f ds es h
 unfold rf at h
 cases hf:P.funcs[A.aQ f]? with
 | none=>rw[hf] at h;cases h
 | some fn=>
  rw[hf] at h
  simp only at h
  cases hb:fn.body with
  | none=>rw[hb] at h;cases h
  | some c=>
   rw[hb] at h
   simp only at h
   cases hc:(kq 0 (A.sin f).bV&&(Nat.ble (A.sin f).bV.length fn.ntmps&&((A.sin f).ok&&(kq 0 (A.gS f).bV&&(Nat.beq (A.gS f).bV.length fn.results.size&&ra (oN (A.sin f).bc.length (A.mv f))))))) with
   | false=>rw[hc] at h;cases h
   | true=>
    rw[hc] at h
    simp only[cond_true] at h
    simp only[aN,a8,eb] at hc
    obtain ⟨kE,hnt,_,yb,bd,kF⟩:=hc
    obtain ⟨⟨out,st'⟩,h1,U⟩:=bind_some h
    refine ⟨fn,c,rfl,hb,fun w I μ vals hH hgl hl hv=> ?_⟩
    have acW:(∀id,out≠ .exit id)∧∃rd,(xu P A f fn (A.sin f).bc.length st').run C st'.hp=some (es,rd):=by
     cases out with
     | exit id=>cases U
     | norm=>
      refine ⟨by simp,?_⟩
      simp only[Af] at U
      obtain ⟨⟨x,rd⟩,e1,e2⟩:=U
      simp only at e2
      subst e2
      exact ⟨rd,e1⟩
     | ret=>
      refine ⟨by simp,?_⟩
      simp only[Af] at U
      obtain ⟨⟨x,rd⟩,e1,e2⟩:=U
      simp only at e2
      subst e2
      exact ⟨rd,e1⟩
    obtain ⟨bD,rd,KR⟩:=acW
    refine calls_of_wp_defers hf hb ?_
    have hm: ∀id blk,(bt (A.sin f) ds).hp id=some blk→id<(A.sin f).bc.length:=by
     intro id blk ab
     simp only[bt,mk,hY] at ab
     have:=(bu.1 ab).1
     rwa [GB] at this
    have jC: ∀id e es aq,(bt (A.sin f) ds).hp id=some (.nest e es aq)→∀k,bI aq k=0:=by
     intro id e es aq ab k
     simp only[bt,mk,hY] at ab
     exact acT ab k
    refine acP (w0:=⟨w,I⟩) (μ:=μ) (hp0:=(bt (A.sin f) ds).hp) (B:=w.heap.size) (M:=o0 P w μ (bt (A.sin f) ds).hp) hC hP p8 hm jC c h1 ?_ ?_
    ·refine Inv.enter kF ?_ hm jC fun p hp=>by
      simp only[bt,mk,hY]
      rw[List.getElem?_eq_none_iff,GB]
      exact hp
     refine ⟨I,μ,⟨hH,fun _ _ _=>rfl,bU _,fun b h=> .inl h,⟨rfl,rfl⟩⟩,⟨fun k=> ?_,?_,by simp,hgl⟩,(Le.refl (P:=P) w I μ _).Gf⟩
     ·change ao P w I μ _ _ (jw (fm (A.sin f).bV ds) k)
      unfold jw
      rw[Lm kE]
      simp only[kV,cU,Nat.sub_zero]
      cases hk:(fG ((A.sin f).bV.map (·.2)) ds)[k]? with
      | none=>exact .undef
      | some x=>
       have iG:k<vals.length:=by
        have:=(bu.1 hk).1
        rw[Ln,bw] at this
        rw[hl];exact this
       have:=hv k vals[k] x (bN iG) hk
       have e1:(vals.toArray++Array.replicate (fn.ntmps-vals.toArray.size) undef).getD k undef=vals[k]:=by
        simp[Array.getElem?_append,iG]
       rw[Option.getD_some]
       exact e1▸this
     ·simp
      omega
    ·intro a' w' hI
     obtain ⟨v,I2,cd,q1,q2,q3,q4⟩:=acU hm jC hI yb bd KR
     obtain ⟨_,_,_,hA,_⟩:=hI
     cases out with
     | exit id=>exact absurd rfl (bD id)
     | norm=>exact K6 hP q1 ⟨v,I2,cd,rfl,q2,q3,q4⟩ _ hA.defers
     | ret=>exact K6 hP q1 ⟨v,I2,cd,rfl,q2,q3,q4⟩ _ hA.defers
theorem SD (hP:ji P A) (p8:P.follows .mixedOrders=true): ∀n,lr P A (lS P A n)
 | 0=>fun _ _ _ h=>by cases h
 | n+1=>acV (SD hP p8 n) hP p8
theorem acX (hP:ji P A) (p8:P.follows .mixedOrders=true):lr P A (Call P A):=by
 intro f ds es h
 have hn: ∃n,lS P A n f ds=some es:=by
  unfold Call at h
  split at h
  ·rename_i hex
   have:=hex.choose_spec.choose_spec
   rw[cT h] at this
   exact ⟨_,this⟩
  ·cases h
 obtain ⟨n,hn⟩:=hn
 exact SD hP p8 n f ds es hn
end
section
variable {P:Program} {A:cP} {C:ae} {D:Nat→ae}
def Bz (C:ae) (D:Nat→ae):Prop:= ∀f a r,C f a=some r→∃n,∀k,n≤k→D k f a=some r
theorem p9 {α:Type} (h:Bz C D) {hp:Nat→Option an}: ∀{p:Rd α} {r:α × List Nat},p.run C hp=some r→∃n,∀k,n≤k→p.run (D k) hp=some r
 | .ret a,r,e=>⟨0,fun _ _=>e⟩
 | .fail,r,e=>by cases e
 | .get id q,r,e=>by
  obtain ⟨x,h1,U⟩:=bind_some e
  obtain ⟨n,hn⟩:=p9 h h1
  exact ⟨n,fun k hk=>by simp only[Rd.run,hn k hk,Option.bind_some];exact U⟩
 | .opt o q,r,e=>by
  obtain ⟨x,h1,U⟩:=bind_some e
  obtain ⟨n,hn⟩:=p9 h U
  exact ⟨n,fun k hk=>by simp only[Rd.run,h1,Option.bind_some];exact hn k hk⟩
 | .live id ok q,r,e=>by
  simp only[Rd.run] at e
  cases hk:ok (gn (hp id)) with
  | false=>rw[hk] at e;cases e
  | true=>
   rw[hk] at e
   obtain ⟨x,h1,U⟩:=bind_some e
   obtain ⟨n,hn⟩:=p9 h h1
   exact ⟨n,fun k fw=>by simp only[Rd.run,hk,cond_true,hn k fw,Option.bind_some];exact U⟩
 | .aE b q,r,e=>by
  obtain ⟨h1,U⟩:=aK e
  obtain ⟨n,hn⟩:=p9 h U
  exact ⟨n,fun k hk=>by simp only[Rd.run,h1,cond_true];exact hn k hk⟩
 | .call f a q,r,e=>by
  obtain ⟨x,h1,U⟩:=bind_some e
  obtain ⟨n1,kE⟩:=h f a x h1
  obtain ⟨n2,yb⟩:=p9 h U
  exact ⟨max n1 n2,fun k hk=>by simp only[Rd.run,kE k (by omega),Option.bind_some];exact yb k (by omega)⟩
 | .alt true x y,r,e=>p9 (p:=x) h e
 | .alt false x y,r,e=>p9 (p:=y) h e
theorem acY (h:Bz C D) {n i nb:Nat} {ops:Array Oper} {o:Oper} {st:St} {r:St × List Nat × List Nat} (e:gT P A C n ops i o nb st=some r): ∃N,∀k,N≤k→gT P A (D k) n ops i o nb st=some r:=by
 unfold gT at e
 have go:(((fH P A st.sl i (nb+64*i) o).run C st.hp).bind fun r=>some ((⟨iy st.sl o.dst r.1.v,bO st.hp r.1.upd,st.nb⟩:St),rb r.2 r.1.upd,fW st.hp r.1.upd))=some r→
   ∃N,∀k,N≤k→(((fH P A st.sl i (nb+64*i) o).run (D k) st.hp).bind fun r=>some ((⟨iy st.sl o.dst r.1.v,bO st.hp r.1.upd,st.nb⟩:St),rb r.2 r.1.upd,fW st.hp r.1.upd))=some r:=by
  intro e
  obtain ⟨x,h1,U⟩:=bind_some e
  obtain ⟨N,hN⟩:=p9 h h1
  exact ⟨N,fun k hk=>by rw[hN k hk];exact U⟩
 unfold gT
 cases hd:sS o n with
 | false=>rw[hd] at e;cases e
 | true=>
  rw[hd] at e
  simp only[cond_true] at e⊢
  cases hg:o.guard with
  | none=>rw[hg] at e;exact go e
  | some gw=>
   obtain ⟨g,want⟩:=gw
   rw[hg] at e
   simp only at e⊢
   cases ma:(ops[g]?).bind (·.dst) with
   | none=>rw[ma] at e;cases e
   | some d=>
    rw[ma] at e
    simp only at e⊢
    cases mO:lN (st.sl d) with
    | none=>rw[mO] at e;cases e
    | some ob=>
    rw[mO] at e
    cases ob with
    | none=>exact ⟨0,fun _ _=>e⟩
    | some b=>
    simp only at e⊢
    cases hb:b==want with
    | true=>rw[hb] at e;exact go e
    | false=>rw[hb] at e;exact ⟨0,fun _ _=>e⟩
theorem SE (h:Bz C D) {n nb:Nat} {ops:Array Oper}: ∀{l:List (Nat × Oper)} {st:St} {log:Log} {r:St × Log},pP P A C n ops nb l st log=some r→∃N,∀k,N≤k→pP P A (D k) n ops nb l st log=some r
 | [],st,log,r,e=>⟨0,fun _ _=>e⟩
 | (i,o)::l,st,log,r,e=>by
  obtain ⟨x,h1,U⟩:=bind_some e
  obtain ⟨N1,o6⟩:=acY h h1
  obtain ⟨N2,rP⟩:=SE h U
  exact ⟨max N1 N2,fun k hk=>by simp only[pP,o6 k (by omega),Option.bind_some];exact rP k (by omega)⟩
theorem SF {X R:Type} {step:X→Option (X ⊕ R)} {stepD:Nat→X→Option (X ⊕ R)} (hs: ∀x y,step x=some y→∃N,∀k,N≤k→stepD k x=some y): ∀(n:Nat) (x:X) (r:R),fF step n x=some r→∃N,∀k,N≤k→fF (stepD k) n x=some r
 | 0,x,r,e=>by cases e
 | n+1,x,r,e=>by
  simp only[fF] at e⊢
  obtain ⟨y,h1,U⟩:=bind_some e
  obtain ⟨N1,o6⟩:=hs x y h1
  cases y with
  | inl z=>
   obtain ⟨N2,rP⟩:=SF hs n z r U
   exact ⟨max N1 N2,fun k hk=>by rw[o6 k (by omega)];exact rP k (by omega)⟩
  | inr q=>exact ⟨N1,fun k hk=>by rw[o6 k hk];exact U⟩
theorem acZ (h:Bz C D) {f n m:Nat}: ∀(c:Code) {st:St} {r:Out × St},exec P A C f n m c st=some r→∃N,∀k,N≤k→exec P A (D k) f n m c st=some r:=by
 intro c
 induction c with
 | skip=>exact fun e=>⟨0,fun _ _=>e⟩
 | exit id=>exact fun e=>⟨0,fun _ _=>e⟩
 | ret=>exact fun e=>⟨0,fun _ _=>e⟩
 | region id ops draw=>
  intro st r e
  simp only[exec] at e⊢
  obtain ⟨x,h1,U⟩:=bind_some e
  obtain ⟨y,h3,h4⟩:=bind_some h1
  obtain ⟨N,hN⟩:=SE h h3
  refine ⟨N,fun k hk=> ?_⟩
  have:AH P (A.here f id) (D k) n ops draw st=some x:=by
   unfold AH
   rw[hN k hk]
   exact h4
  rw[this]
  exact U
 | seq x y iU iW=>
  intro st r e
  simp only[exec] at e⊢
  obtain ⟨⟨o,s1⟩,h1,U⟩:=bind_some e
  obtain ⟨N1,o6⟩:=iU h1
  cases o with
  | norm=>
   obtain ⟨N2,rP⟩:=iW U
   exact ⟨max N1 N2,fun k hk=>by rw[o6 k (by omega)];exact rP k (by omega)⟩
  | exit id=>exact ⟨N1,fun k hk=>by rw[o6 k hk];exact U⟩
  | ret=>exact ⟨N1,fun k hk=>by rw[o6 k hk];exact U⟩
 | cond c x y iU iW=>
  intro st r e
  cases c with
  | tmp t=>
   have go: ∀{st:St} {r:Out × St},(match st.sl t with
     | .bool b=>(bif b then exec P A C f n m x st else exec P A C f n m y st).bind fun r=>
      match r.1 with
      | .norm=>some (.norm,canon m (A.join f t) r.2)
      | _=>some r
     | _=>none)=some r→∃N,∀k,N≤k→(match st.sl t with
     | .bool b=>(bif b then exec P A (D k) f n m x st else exec P A (D k) f n m y st).bind fun r=>
      match r.1 with
      | .norm=>some (.norm,canon m (A.join f t) r.2)
      | _=>some r
     | _=>none)=some r:=by
    intro st r e
    cases hs:st.sl t<;>rw[hs] at e<;>simp only at e⊢ <;>first|(cases e;done)|skip
    rename_i b
    obtain ⟨x1,h1,U⟩:=bind_some e
    cases b with
    | true=>
     obtain ⟨N,hN⟩:=iU h1
     exact ⟨N,fun k hk=>by simp only[cond_true,hN k hk,Option.bind_some];exact U⟩
    | false=>
     obtain ⟨N,hN⟩:=iW h1
     exact ⟨N,fun k hk=>by simp only[cond_false,hN k hk,Option.bind_some];exact U⟩
   simp only[exec] at e⊢
   split at e
   ·rename_i hS
    obtain ⟨N,hN⟩:=go e
    exact ⟨N,fun k hk=>hN k hk⟩
   ·rename_i S hS
    obtain ⟨ds,h1,U⟩:=bind_some e
    obtain ⟨e',h3,h4⟩:=bind_some U
    obtain ⟨r1,h5,h6⟩:=bind_some h3
    obtain ⟨N,hN⟩:=go h5
    refine ⟨N,fun k hk=> ?_⟩
    try rw[hS]
    simp only[h1,Option.bind_some]
    exact (congrArg (fun z:Option (Out × St)=>(z.bind fun r=>ways m 0 S.2 r).bind fun e=>mD 0 S.2 e.1 e.2 fun o st=>some (o,st)) (hN k hk)).trans (by simp only[Option.bind_some,h6];exact h4)
  | const v=>
   cases v with
   | bool b=>
    simp only[exec] at e⊢
    cases b with
    | true=>exact iU e
    | false=>exact iW e
   | _=>simp only[exec] at e;cases e
  | _=>simp only[exec] at e;cases e
 | block id c ih=>
  intro st r e
  simp only[exec] at e⊢
  obtain ⟨x1,h1,U⟩:=bind_some e
  obtain ⟨N,hN⟩:=ih h1
  exact ⟨N,fun k hk=>by rw[hN k hk];exact U⟩
 | loop c ih=>
  intro st r e
  simp only[exec] at e⊢
  split at e
  ·cases e
  ·rename_i S hS
   obtain ⟨ds,h1,U⟩:=bind_some e
   obtain ⟨e',h3,h4⟩:=bind_some U
   obtain ⟨q,hq⟩:=xe h3
   obtain ⟨N,hN⟩:=SF (stepD:=fun k ds=>nD m S.1 S.2 (exec P A (D k) f n m c (bt S.1 ds))) (fun x y GD=>by
    unfold nD at GD⊢
    obtain ⟨z,h5,h6⟩:=bind_some GD
    obtain ⟨N,hN⟩:=ih h5
    exact ⟨N,fun k hk=>by rw[hN k hk];exact h6⟩) q ds e' hq
   refine ⟨N,fun k hk=> ?_⟩
   try rw[hS]
   simp only[h1,Option.bind_some]
   rw[Am (hN k hk)]
   exact h4
 | _=>intro st r e;simp only[exec] at e;cases e
theorem Lo (h:Bz C D) {f:Nat} {ds es:List V} (e:rf P A C f ds=some es): ∃N,∀k,N≤k→rf P A (D k) f ds=some es:=by
 unfold rf at e⊢
 cases hf:P.funcs[A.aQ f]? with
 | none=>rw[hf] at e;cases e
 | some fn=>
  rw[hf] at e
  simp only at e⊢
  cases hb:fn.body with
  | none=>rw[hb] at e;cases e
  | some c=>
   rw[hb] at e
   simp only at e⊢
   cases hc:(kq 0 (A.sin f).bV&&(Nat.ble (A.sin f).bV.length fn.ntmps&&((A.sin f).ok&&(kq 0 (A.gS f).bV&&(Nat.beq (A.gS f).bV.length fn.results.size&&ra (oN (A.sin f).bc.length (A.mv f))))))) with
   | false=>rw[hc] at e;cases e
   | true=>
    rw[hc] at e
    simp only[cond_true] at e⊢
    obtain ⟨⟨o,s1⟩,h1,U⟩:=bind_some e
    obtain ⟨N1,o6⟩:=acZ h c h1
    cases o with
    | exit id=>cases U
    | norm=>
     simp only[Af] at U
     obtain ⟨x,e1,e2⟩:=U
     obtain ⟨N2,rP⟩:=p9 h e1
     exact ⟨max N1 N2,fun k hk=>by rw[o6 k (by omega)];simp only[Option.bind_some,rP k (by omega),Option.map_some,e2]⟩
    | ret=>
     simp only[Af] at U
     obtain ⟨x,e1,e2⟩:=U
     obtain ⟨N2,rP⟩:=p9 h e1
     exact ⟨max N1 N2,fun k hk=>by rw[o6 k (by omega)];simp only[Option.bind_some,rP k (by omega),Option.map_some,e2]⟩
theorem SG: ∀n f a r,lS P A n f a=some r→lS P A (n+1) f a=some r
 | 0,f,a,r,h=>by cases h
 | n+1,f,a,r,h=>by
  obtain ⟨N,hN⟩:=Lo (C:=lS P A n) (D:=fun _=>lS P A (n+1)) (fun f a r h=>⟨0,fun _ _=>SG n f a r h⟩) h
  exact hN N (bU _)
theorem Lp {n k:Nat} (hk:n≤k) {f:Nat} {a r:List V} (h:lS P A n f a=some r):lS P A k f a=some r:=by
 induction hk with
 | refl=>exact h
 | step _ ih=>exact SG _ _ _ _ ih
theorem GF {f:Nat} {a r:List V}:Call P A f a=some r↔∃n,lS P A n f a=some r:=by
 constructor
 ·intro h
  unfold Call at h
  split at h
  ·rename_i hex
   have:=hex.choose_spec.choose_spec
   rw[cT h] at this
   exact ⟨_,this⟩
  ·cases h
 ·rintro ⟨n,hn⟩
  have hex: ∃n r,lS P A n f a=some r:=⟨n,r,hn⟩
  unfold Call
  rw[sD hex]
  have U:=hex.choose_spec.choose_spec
  have h3:=Lp (Nat.le_max_left n hex.choose) hn
  have h4:=Lp (Nat.le_max_right n hex.choose) U
  rw[h3] at h4
  exact h4.symm
theorem ac0 (f:Nat) (a:List V):Call P A f a=rf P A (Call P A) f a:=by
 apply Option.ext
 intro r
 constructor
 ·intro h
  obtain ⟨n,hn⟩:=GF.1 h
  cases n with
  | zero=>cases hn
  | succ n=>
   obtain ⟨N,hN⟩:=Lo (C:=lS P A n) (D:=fun _=>Call P A) (fun f a r h=>⟨0,fun _ _=>GF.2 ⟨n,h⟩⟩) hn
   exact hN N (bU _)
 ·intro h
  obtain ⟨N,hN⟩:=Lo (C:=Call P A) (D:=lS P A) (fun f a r h=>by
   obtain ⟨n,hn⟩:=GF.1 h
   exact ⟨n,fun k hk=>Lp hk hn⟩) h
  exact GF.2 ⟨N+1,hN N (bU _)⟩
end
end Go.AM
namespace Go.AM
open Go.ChangeShapes Go.WideShapes Go.RowKit
section
variable (P:Program)
inductive WT:TypeId→V→Prop
 | int {t:TypeId} {k:IntKind} {n:Int}:P.underlying t=some (.int k)→(Lit.int k n).wf=true→WT t (.int k n)
 | bool {t:TypeId} {b:Bool}:P.underlying t=some .bool→WT t (.bool b)
 | str {t:TypeId} {l:List UInt8}:P.underlying t=some .string→l.length≤maxLen→WT t (.str l)
 | list {t e:TypeId} {es:List V}:P.underlying t=some (.slice e)→es.length≤maxLen→
   (∀(i:Nat) x,es[i]? =some x→bL P e=true→∃xs,x= .agg xs∧xs.length=(ba P e).length)→
   (∀(i j:Nat) x t',es[i]? =some x→(ba P e)[j]? =some t'→WT t' (bQ P e x j))→WT t (.list e es)
def ik (t:TypeId) (x:V):Prop:=
 (bL P t=true→∃xs,x= .agg xs∧xs.length=(ba P t).length)∧∀(j:Nat) t',(ba P t)[j]? =some t'→WT P t' (bQ P t x j)
def qM:List TypeId→List V→Prop
 | [],[]=>True
 | t::ts,x::xs=>ik P t x∧qM ts xs
 | _,_=>False
def hasB (L:List TypeId) (t:TypeId):Bool:=L.any fun u=>Nat.beq u t
def GG (L:List TypeId):Nat→List Field→Bool
 | _,[]=>true
 | n,f::fs=>hasB L f.type&&(Nat.beq f.offset n&&(Nat.beq (P.cellsOf f.type) (ba P f.type).length&&GG L (n+P.cellsOf f.type) fs))
def BA:List Nat→List Nat→Bool
 | [],[]=>true
 | a::l,b::m=>Nat.beq a b&&BA l m
 | _,_=>false
def Lq (L:List TypeId) (t:TypeId):Bool:=
 Nat.beq (P.cellsOf t) (ba P t).length&&
 match P.underlying t with
 | some (.int _)=>true
 | some .bool=>true
 | some .string=>true
 | some (.slice e)=>hasB L e&&cW P e
 | some (.struct fs)=>GG P L 0 fs.toList&&BA (flat P t) (fs.toList.flatMap fun f=>ba P f.type)
 | some (.array n e)=>hasB L e&&(Nat.beq (P.cellsOf e) (ba P e).length&&BA (flat P t) (List.replicate n (ba P e)).flatten)
 | _=>false
def GH (L:List TypeId):Bool:=L.all fun t=>Lq P L t
end
theorem GI {L:List TypeId} {t:TypeId} (h:hasB L t=true):t∈L:=by
 obtain ⟨u,hu,U⟩:=kf.1 h
 rw[a8] at U
 exact U▸hu
theorem Lr: ∀{l m:List Nat},BA l m=true→l=m
 | [],[],_=>rfl
 | a::l,b::m,h=>by
  simp only[BA,aN,a8] at h
  rw[h.1,Lr h.2]
 | [],_::_,h=>by cases h
 | _::_,[],h=>by cases h
section
variable {P:Program} {H:Type} {enc:TypeId × Value→H} {w:World} {base:Nat} {spare:Nat→Bool} {held:Bool} {L:List TypeId}
def mQ (w:World):Nat→Prop:=fun b=>b<w.heap.size
def nT (P:Program) (w:World) (ts:List TypeId) (cs:List Value) (xs:List V):Prop:=
 cs.length=ts.length∧xs.length=ts.length∧∀(j:Nat) t',ts[j]? =some t'→∃v y,cs[j]? =some v∧xs[j]? =some y∧Pure P w (mQ w) t' v y∧WT P t' y
theorem nT.app {ts xn:List TypeId} {cs iF:List Value} {xs SH:List V} (h:nT P w ts cs xs) (h':nT P w xn iF SH):nT P w (ts++xn) (cs++iF) (xs++SH):=by
 obtain ⟨a,b,c⟩:=h
 obtain ⟨a',b',c'⟩:=h'
 refine ⟨by simp[a,a'],by simp[b,b'],fun j t' hj=> ?_⟩
 by_cases aT:j<ts.length
 ·rw[iR aT] at hj
  obtain ⟨v,y,e1,e2,e3⟩:=c j t' hj
  exact ⟨v,y,by rw[iR (by omega)];exact e1,by rw[iR (by omega)];exact e2,e3⟩
 ·rw[iq (by omega)] at hj
  obtain ⟨v,y,e1,e2,e3⟩:=c' _ t' hj
  exact ⟨v,y,by rw[iq (by omega),a];exact e1,by rw[iq (by omega),b];exact e2,e3⟩
theorem ac1 {w:World} {a:Addr} {v:Value} (h:w.cell? a=some v):a.spot=none∧a.block<w.heap.size:=by
 unfold World.cell? at h
 split at h
 ·rename_i hh
  split at h
  ·cases h
  ·rename_i hs
   exact ⟨by simpa using hs,(im.1 hh).1⟩
 all_goals (first|cases h|skip)
theorem SI {rd:TypeId→List Value→Option (DataW H × List MemPlace)} (cs:List Value)
  (ih: ∀t cs x,t∈L→rd t cs=some x→∃xs,nT P w (ba P t) cs xs): ∀(fs:List Field) (n:Nat),GG P L n fs=true→
  (∀f∈fs,∃x,rd f.type ((cs.drop f.offset).take (P.cellsOf f.type))=some x)→∃m xs,n≤m∧nT P w (fs.flatMap fun f=>ba P f.type) ((cs.drop n).take (m-n)) xs∧m-n=(fs.flatMap fun f=>ba P f.type).length
 | [],n,_,_=>⟨n,[],bU _,⟨by simp,rfl,by simp⟩,by simp⟩
 | f::fs,n,h,hx=>by
  simp only[GG,aN,a8] at h
  obtain ⟨h1,U,h3,h4⟩:=h
  obtain ⟨x,hxf⟩:=hx f (by simp)
  obtain ⟨xs,gG⟩:=ih _ _ _ (GI h1) hxf
  obtain ⟨m,ys,hm,rQ,Lb⟩:=SI cs ih fs (n+P.cellsOf f.type) h4 fun g hg=>hx g (by simp[hg])
  refine ⟨m,xs++ys,by omega,?_,by simp only[mz,cz];omega⟩
  have:=gG.app rQ
  rw[mz]
  rw[U] at this
  have e:(cs.drop n).take (m-n)=(cs.drop n).take (P.cellsOf f.type)++(cs.drop (n+P.cellsOf f.type)).take (m-(n+P.cellsOf f.type)):=by
   rw[show m-n=P.cellsOf f.type+(m-(n+P.cellsOf f.type)) by omega,List.take_add,pH]
  rw[e]
  exact this
theorem SJ {rd:List Value→Option (DataW H × List MemPlace)} (cs:List Value) {e:TypeId} (hs:P.cellsOf e=(ba P e).length)
  (ih: ∀cs x,rd cs=some x→∃xs,nT P w (ba P e) cs xs): ∀(n:Nat),
  (∀i,i<n→∃x,rd ((cs.drop (i*P.cellsOf e)).take (P.cellsOf e))=some x)→∃xs,nT P w (List.replicate n (ba P e)).flatten (cs.take (n*P.cellsOf e)) xs
 | 0,_=>⟨[],by simp,rfl,by simp⟩
 | n+1,hx=>by
  obtain ⟨xs,gG⟩:=SJ cs hs ih n fun i hi=>hx i (by omega)
  obtain ⟨x,Bu⟩:=hx n (by omega)
  obtain ⟨ys,rQ⟩:=ih _ _ Bu
  refine ⟨xs++ys,?_⟩
  rw[List.replicate_succ',List.flatten_append]
  have:=gG.app rQ
  rw[dy,Nat.one_mul,List.take_add]
  simpa using this
theorem GJ (hL:GH P L=true): ∀(fuel:Nat) (t:TypeId) (cs:List Value) (x:DataW H × List MemPlace),t∈L→DataW.trod enc P w base spare held fuel t cs=some x→
  ∃xs,nT P w (ba P t) cs xs
 | 0,_,_,_,_,h=>by cases h
 | fuel+1,t,cs,x,ht,h=>by
  have hg:=fc.1 hL t ht
  unfold Lq at hg
  rw[aN,a8] at hg
  obtain ⟨hc,hg⟩:=hg
  have one:bL P t=false→ba P t=[t]:=fun h=>by simp[ba,h]
  cases hu:P.underlying t with
  | none=>rw[hu] at hg;cases hg
  | some d=>
   rw[hu] at hg
   cases d with
   | int k=>
    obtain ⟨n,rfl,rfl,rR⟩:=DataW.trod_int hu h
    rw[one (by simp[bL,hu])]
    exact ⟨[.int k n],rfl,rfl,fun j t' hj=>by
     cases j with
     | zero=>cases hj;exact ⟨_,_,rfl,rfl,.int hu,.int hu rR⟩
     | succ j=>simp at hj⟩
   | bool=>
    obtain ⟨b,rfl,rfl⟩:=DataW.trod_bool hu h
    rw[one (by simp[bL,hu])]
    exact ⟨[.bool b],rfl,rfl,fun j t' hj=>by
     cases j with
     | zero=>cases hj;exact ⟨_,_,rfl,rfl,.bool hu,.bool hu⟩
     | succ j=>simp at hj⟩
   | string=>
    obtain ⟨s,rfl,rfl,hl⟩:=DataW.trod_string hu h
    rw[one (by simp[bL,hu])]
    exact ⟨[.str s.data.toList],rfl,rfl,fun j t' hj=>by
     cases j with
     | zero=>cases hj;exact ⟨_,_,rfl,rfl,.str hu rfl,.str hu (by simpa using hl)⟩
     | succ j=>simp at hj⟩
   | slice e=>
    simp only[aN] at hg
    obtain ⟨he,ay⟩:=hg
    rw[one (by simp[bL,hu])]
    have single: ∀v y,cs=[v]→Pure P w (mQ w) t v y→WT P t y→∃xs,nT P w [t] cs xs:=by
     rintro v y rfl a b
     exact ⟨[y],rfl,rfl,fun j t' hj=>by
      cases j with
      | zero=>cases hj;exact ⟨_,_,rfl,rfl,a,b⟩
      | succ j=>simp at hj⟩
    rcases DataW.trod_slice hu h with ⟨rfl,rfl⟩|⟨a,len,cap,elems,rest,n,hn,rfl,rfl,hb,hl,hm,hlen,cX,_,_⟩
    ·exact single _ _ rfl (.nil hu) (.list hu (by simp) (by simp) (by simp))
    ·cases hn
     have jQ:=(kz ay).2
     have QG:P.cellsOf e=(ba P e).length:=(fK ay).symm
     have key: ∀i,i<len→∃iF xs,w.cells? base (a.add (i*P.cellsOf e)) (P.cellsOf e)=some iF∧nT P w (ba P e) iF xs:=by
      intro i hi
      have h1:=cX i hi
      rw[bN (by omega)] at h1
      obtain ⟨iF,U,h3⟩:=Option.bind_eq_some_iff.1 h1
      obtain ⟨xs,gG⟩:=GJ hL fuel e iF _ (GI he) h3
      exact ⟨iF,xs,U,gG⟩
     by_cases h0:len=0
     ·subst h0
      exact single _ _ rfl (.emp hu) (.list hu (by simp) (by simp) (by simp))
     ·have hU:a.spot=none∧a.block<w.heap.size:=by
       obtain ⟨iF,xs,U,_⟩:=key 0 (by omega)
       obtain ⟨_,h3,h4⟩:=World.cells?_some U
       have h5:=h4 0 jQ
       rw[bN (by omega)] at h5
       have:=ac1 h5
       simpa[Addr.add] using this
      have hF: ∃(F:Nat→List Value) (X:Nat→List V),∀i,i<len→w.cells? base (a.add (i*P.cellsOf e)) (P.cellsOf e)=some (F i)∧nT P w (ba P e) (F i) (X i):=by
       refine ⟨fun i=>if hi:i<len then (key i hi).choose else [],fun i=>if hi:i<len then (key i hi).choose_spec.choose else [],fun i hi=> ?_⟩
       simp only[sD hi]
       exact (key i hi).choose_spec.choose_spec
      obtain ⟨F,X,Lt⟩:=hF
      have hx: ∀(i j:Nat) y t',((List.range len).map fun i=>cA P e (X i))[i]? =some y→(ba P e)[j]? =some t'→i<len∧∃v,(F i)[j]? =some v∧Pure P w (mQ w) t' v (bQ P e y j)∧WT P t' (bQ P e y j):=by
       intro i j y t' hy hj
       have hi:i<len:=by
        have:=(bu.1 hy).1
        simpa using this
       refine ⟨hi,?_⟩
       simp[List.getElem?_range hi] at hy
       obtain ⟨c1,c2,c3⟩:=(Lt i hi).2
       obtain ⟨v,z,d1,d2,d3,d4⟩:=c3 j t' hj
       have:bQ P e y j=z:=by
        rw[←hy]
        unfold bQ cA
        cases ha:bL P e with
        | true=>
         simp only[cond_true,V.cell]
         rw[uQ _ _ _ d2]
        | false=>
         simp only[cond_false]
         have:ba P e=[e]:=by simp[ba,ha]
         rw[this] at hj
         cases j with
         | zero=>rw[uQ _ _ _ d2]
         | succ j=>simp at hj
       rw[this]
       exact ⟨v,d1,d3,d4⟩
      have gq: ∀i j,i<len→j<P.cellsOf e→w.cell? ⟨a.block,a.off+(i*P.cellsOf e+j),none⟩=some ((F i).getD j undef):=by
       intro i j hi hj
       obtain ⟨h1,U⟩:=Lt i hi
       obtain ⟨_,h3,h4⟩:=World.cells?_some h1
       have h5:=h4 j hj
       rw[Go.Deep.add_add] at h5
       have e1:a.add (i*P.cellsOf e+j)=⟨a.block,a.off+(i*P.cellsOf e+j),none⟩:=by
        obtain ⟨b,o,s⟩:=a
        simp only at hU
        rw[hU.1]
        exact nK ..
       rw[e1] at h5
       rw[h5,iu,bN (by omega)]
       rfl
      have ha:a=⟨a.block,a.off,none⟩:=by
       obtain ⟨b,o,s⟩:=a
       simp only at hU
       rw[hU.1]
      refine single (.slice (some a) len cap) (.list e ((List.range len).map fun i=>cA P e (X i))) rfl ?_ ?_
      ·rw[ha]
       refine .list (fun i j=>(F i).getD j undef) hu (by simp) hl (fun _=>hU.2) gq ?_
       intro i j y t' hy hj
       obtain ⟨hi,v,d1,d2,_⟩:=hx i j y t' hy hj
       rw[iu,d1]
       exact d2
      ·refine .list hu (by simp;omega) ?_ ?_
       ·intro i y hy GK
        have hi:i<len:=by
         have:=(bu.1 hy).1
         simpa using this
        simp[List.getElem?_range hi] at hy
        rw[←hy]
        exact ⟨X i,by simp[cA,GK],(Lt i hi).2.2.1⟩
       ·intro i j y t' hy hj
        obtain ⟨_,v,_,_,d3⟩:=hx i j y t' hy hj
        exact d3
   | struct fs=>
    simp only[aN] at hg
    obtain ⟨xs,n,hn,rfl,hlen,lp,hx⟩:=DataW.trod_struct hu h
    cases hn
    have het:ba P t=fs.toList.flatMap fun f=>ba P f.type:=by
     rw[←Lr hg.2]
     simp[ba,bL,hu]
    obtain ⟨m,ys,_,rQ,hm⟩:=SI (w:=w) (rd:=fun t cs=>DataW.trod enc P w base spare held fuel t cs) cs (fun t cs x a b=>GJ hL fuel t cs x a b) fs.toList 0 hg.1 (by
     intro f hf
     obtain ⟨i,hi⟩:=sF hf
     rw[sG] at hi
     have rG:i<fs.size:=(im.1 hi).1
     exact ⟨_,(hx i f hi).trans (bN (by omega))⟩)
    rw[het]
    refine ⟨ys,?_⟩
    have:(cs.drop 0).take (m-0)=cs:=by
     rw[dL,hm,←het,←hc,←hlen,qO]
    rw[this] at rQ
    exact rQ
   | array n e=>
    simp only[aN,a8] at hg
    obtain ⟨xs,m,hn,rfl,hlen,lp,hx⟩:=DataW.trod_array hu h
    cases hn
    have het:ba P t=(List.replicate n (ba P e)).flatten:=by
     rw[←Lr hg.2.2]
     simp[ba,bL,hu]
    obtain ⟨ys,rQ⟩:=SJ (w:=w) (rd:=DataW.trod enc P w base spare held fuel e) cs hg.2.1 (fun cs x b=>GJ hL fuel e cs x (GI hg.1) b) n (by
     intro i hi
     exact ⟨_,(hx i hi).trans (bN (by omega))⟩)
    rw[het]
    refine ⟨ys,?_⟩
    have:cs.take (n*P.cellsOf e)=cs:=by
     have:n*P.cellsOf e=cs.length:=by
      rw[hlen,hc,het,hg.2.1]
      simp
     rw[this,qO]
    rw[this] at rQ
    exact rQ
   | _=>cases hg
end
section
variable {P:Program} {H:Type} {enc:TypeId × Value→H} {w:World} {L:List TypeId}
theorem ac2 {base Lu:Nat} {spare:Nat→Bool} {held:Bool} {r:Reach} {β:Nat→Option Nat} {hp:Nat→Option an} (hL:GH P L=true) {t:TypeId} {v:Value} {d:DataW H} {ps:List MemPlace} (ht:t∈L) (fD:Value.okWide P w r Lu t v)
  (h:DataW.Trod enc P w base spare held t v d ps): ∃x,ao P w (mQ w) β hp v x∧ik P t x:=by
 obtain ⟨fuel,hf⟩:=h
 obtain ⟨xs,c1,c2,c3⟩:=GJ hL fuel t _ _ ht hf
 have hg:=fc.1 hL t ht
 unfold Lq at hg
 rw[aN,a8] at hg
 obtain ⟨_,hg⟩:=hg
 have GK:bL P t=true→∃x,ao P w (mQ w) β hp v x∧ik P t x:=by
  intro ha
  have hv: ∃cs,v= .agg cs:=by
   unfold Value.okWide at fD
   unfold bL at ha
   split at fD
   ·obtain ⟨cs,e,_⟩:=fD;exact ⟨cs,e⟩
   ·obtain ⟨cs,e,_⟩:=fD;exact ⟨cs,e⟩
   ·split at ha<;>simp_all
  obtain ⟨cs,rfl⟩:=hv
  refine ⟨.agg xs,.agg (by simpa[Value.cells] using c1.trans c2.symm) fun j v x hv hx=> ?_,fun _=>⟨xs,rfl,c2⟩,fun j t' hj=> ?_⟩
  ·have hj:j<(ba P t).length:=by rw[←c2];exact (bu.1 hx).1
   obtain ⟨v',y,e1,e2,e3,_⟩:=c3 j _ (bN hj)
   rw[hx] at e2
   cases e2
   have:cs[j]? =some v':=by simpa[Value.cells] using e1
   rw[hv] at this
   cases this
   exact .ri e3
  ·obtain ⟨v',y,e1,e2,_,e4⟩:=c3 j t' hj
   have:bQ P t (.agg xs) j=y:=by
    simp only[bQ,ha,cond_true,V.cell]
    exact uQ _ _ _ e2
   rw[this]
   exact e4
 have rD:bL P t=false→v.cells= #[v]→∃x,ao P w (mQ w) β hp v x∧ik P t x:=by
  intro ha uX
  have he:ba P t=[t]:=by simp[ba,ha]
  rw[he] at c1 c2 c3
  obtain ⟨v',y,e1,e2,e3,e4⟩:=c3 0 t rfl
  rw[uX] at e1
  cases e1
  refine ⟨y,.ri e3,⟨fun h=>absurd (ha.symm.trans h) (by simp),fun j t' hj=> ?_⟩⟩
  rw[he] at hj
  cases j with
  | succ j=>simp at hj
  | zero=>
   cases hj
   simpa[bQ,ha] using e4
 unfold Value.okWide at fD
 cases hu:P.underlying t with
 | none=>rw[hu] at hg;cases hg
 | some dsc=>
  rw[hu] at hg fD
  cases dsc with
  | int k=>
   refine rD (by simp[bL,hu]) ?_
   simp only[Cell.okWide,Cell.ok,hu] at fD
   cases v<;>first|rfl|(simp at fD;done)|exact fD.elim
  | bool=>
   refine rD (by simp[bL,hu]) ?_
   simp only[Cell.okWide,Cell.ok,hu] at fD
   cases v<;>first|rfl|(simp at fD;done)|exact fD.elim
  | string=>
   refine rD (by simp[bL,hu]) ?_
   simp only[Cell.okWide,Cell.ok,hu] at fD
   cases v<;>first|rfl|(simp at fD;done)|exact fD.elim
  | slice e=>
   refine rD (by simp[bL,hu]) ?_
   simp only[Cell.okWide,Cell.ok,hu] at fD
   cases v<;>first|rfl|(simp at fD;done)|exact fD.elim
  | struct fs=>exact GK (by simp[bL,hu])
  | array n e=>exact GK (by simp[bL,hu])
  | _=>cases hg
theorem SK {base Lu:Nat} {spare:Nat→Bool} {held:Bool} {r:Reach} {β:Nat→Option Nat} {hp:Nat→Option an} (hL:GH P L=true): ∀{ts:List TypeId} {vs:List Value} {ds:List (DataW H)} {ps:List MemPlace},
  (∀t∈ts,t∈L)→(∀(j:Nat) t v,ts[j]? =some t→vs[j]? =some v→Value.okWide P w r Lu t v)→DataW.TrodAll enc P w base spare held ts vs ds ps→
  ∃xs,vs.length=xs.length∧(∀(j:Nat) v x,vs[j]? =some v→xs[j]? =some x→ao P w (mQ w) β hp v x)∧qM P ts xs
 | [],vs,ds,ps,_,_,h=>by
  obtain ⟨rfl,rfl,rfl⟩:=trodAll_nil h
  exact ⟨[],rfl,by simp,trivial⟩
 | t::ts,vs,ds,ps,hm,fD,h=>by
  obtain ⟨v,AJ,d,GL,a,b,rfl,rfl,rfl,h1,U⟩:=trodAll_cons h
  obtain ⟨x,Bu,nM⟩:=ac2 (β:=β) (hp:=hp) hL (hm t (by simp)) (fD 0 t v rfl rfl) h1
  obtain ⟨xs,hl,hr,hw⟩:=SK (β:=β) (hp:=hp) hL (fun t ht=>hm t (by simp[ht])) (fun j t v a b=>fD (j+1) t v (by simpa using a) (by simpa using b)) U
  refine ⟨x::xs,by simp[hl],fun j v' x' hv hx=> ?_,nM,hw⟩
  cases j with
  | zero=>cases hv;cases hx;exact Bu
  | succ j=>exact hr j v' x' (by simpa using hv) (by simpa using hx)
theorem SL {base:Nat} {spare:Nat→Bool} {held:Bool}: ∀{ts:List TypeId} {vs:List Value} {ds:List (DataW H)} {ps:List MemPlace},DataW.TrodAll enc P w base spare held ts vs ds ps→ds.length=ts.length
 | [],vs,ds,ps,h=>by obtain ⟨rfl,rfl,rfl⟩:=trodAll_nil h;rfl
 | t::ts,vs,ds,ps,h=>by
  obtain ⟨v,AJ,d,GL,a,b,rfl,rfl,rfl,h1,U⟩:=trodAll_cons h
  simp[SL U]
theorem SM {base:Nat} (hl:laidOutB P=true) {W W':World} {SN:Nat→Bool}: ∀{ts:List TypeId} {vs:List Value} {ds:List (DataW H)} {ps:List MemPlace},(∀t∈ts,P.readableRec t=true∧t<P.types.size)→
  DataW.TrodAll enc P W base (fun _=>true) true ts vs ds ps→(∀p∈ps,W.sameAt W' p)→(∀p∈ps,SN p.block=true)→DataW.TrodAll enc P W' base SN true ts vs ds ps
 | [],vs,ds,ps,_,h,_,_=>by obtain ⟨rfl,rfl,rfl⟩:=trodAll_nil h;exact trodAll_mk0
 | t::ts,vs,ds,ps,hr,h,h1,U=>by
  obtain ⟨v,AJ,d,GL,a,b,rfl,rfl,rfl,h3,h4⟩:=trodAll_cons h
  obtain ⟨r1,r2⟩:=hr t (by simp)
  exact trodAll_cons_mk (WideElems.Trod_stays hl r1 r2 h3 (fun p hp=>h1 p (by simp[hp])) (fun p hp=>U p (by simp[hp])))
   (SM hl (fun t ht=>hr t (by simp[ht])) h4 (fun p hp=>h1 p (by simp[hp])) (fun p hp=>U p (by simp[hp])))
theorem ac3 {f:Func} {s:ChangeSpec} {apart fresh handsOn again:Bool} {W W':World} {args:Array Value} {v:Value} {ds gs:List (DataW H)} {before pa pv:List MemPlace}
  (hW:DataW.Whole enc P f.params.toList s.vars apart W args.toList ds gs before)
  (SO: ∀(b:Nat) (sp:Nat→Bool) (hd:Bool),DataW.TrodAll enc P W' b sp hd f.resultTypes.toList (v.resultList f.resultTypes.size) (s.fn H (ds++gs)).results [])
  (vf: ∀sp:Nat→Bool,(∀p∈before,sp p.block=true)→DataW.TrodAll enc P W' 0 sp true f.params.toList args.toList (s.fn H (ds++gs)).args pa)
  (SP: ∀sp:Nat→Bool,(∀p∈before,sp p.block=true)→DataW.TrodVars enc P W' sp s.vars (s.fn H (ds++gs)).vars pv)
  (GM:before=pa++pv) (hk:W.keptBut W' (· ∈before)) (Lv: ∀a:Addr,a.block<W.heap.size→W'.frozen? a=W.frozen? a)
  (ay: ∀(j:Nat) (t:TypeId) (r:Value),f.resultTypes[j]? =some t→(v.resultList f.resultTypes.size)[j]? =some r→Value.okWide P W' .any 0 t r):
  s.post enc P f apart fresh handsOn again W args v W':=by
 have hold: ∀p∈before,(fun b=>decide (b<W.heap.size)) p.block=true:=fun p hp=>by simpa using hW.lt p hp
 refine ⟨ds,gs,before,[],pa,pv,hW,SO _ _ _,vf _ hold,SP _ hold,World.keptBut_mono (fun p hp=>⟨hp,?_⟩) hk,fun _=> ?_⟩
 ·rw[GM,eM] at hp
  exact Or.inr hp
 ·have aT:=hW.lt
  obtain ⟨_,_,_,_,_,hz,hn⟩:=hW
  refine ⟨ay,_,_,([]++pa)++pv,⟨[]++pa,pv,trodAll_append (vf _ (fun _ _=>rfl)) (SO _ _ _),SP _ (fun _ _=>rfl),rfl,?_,?_⟩,?_⟩
  ·intro b off hp
   have hb:MemPlace.cell b off∈before:=by rw[GM];simpa using hp
   rw[Lv ⟨b,off,none⟩ (aT _ hb)]
   exact hz b off hb
  ·intro ha
   have:=hn ha
   rw[GM] at this
   simpa using this
  ·intro p hp _
   rw[GM]
   simpa using hp
theorem aaf {A:cP} (hP:ji P A) (p8:P.follows .mixedOrders=true) {f key:Nat} {fn:Func} {tb:TypeId} {s:ChangeSpec} {apart fresh handsOn again:Bool}
  (hf:P.funcs[f]? =some fn) (ac4:A.aQ key=f) (hL:GH P L=true) (cb:fn.params.toList.all (fun t=>hasB L t)=true) (SQ:fn.resultTypes= #[tb]) (SR:P.underlying tb=some .bool) (SS:s.vars=[])
  (hs: ∀ds:List (DataW H),ds.length=fn.params.toList.length→s.fn H ds={results:=[.lit (.bool true)],args:=ds})
  (ac5:laidOutB P=true) (ac6:fn.params.toList.all (fun t=>P.readableRec t&&Nat.blt t P.types.size)=true)
  (kB:(A.sin key).bc=[]) (ay:((A.sin key).bV.map (·.2)).all (VS.ok 0)=true) (ac7:(A.gS key).bV=[(0,.one .bool)]) (halt:A.alt key=none)
  {W:World} {base:Nat} {args:Array Value} {ds gs:List (DataW H)} {before:List MemPlace}
  (ac8:gV P A.aF W (mQ W)) (fD: ∀(j:Nat) t v,fn.params[j]? =some t→args[j]? =some v→Value.okWide P W .any base t v)
  (hW:DataW.Whole enc P fn.params.toList s.vars apart W args.toList ds gs before) (Q:List V→Prop)
  (hQ: ∀xs:List V,qM P fn.params.toList xs→(∀(j:Nat) v x,args.toList[j]? =some v→xs[j]? =some x→ao P W (mQ W) (fun _=>none) (fun _=>none) v x)→Q xs)
  (ac9: ∀xs,qM P fn.params.toList xs→Q xs→∃ds,sC ((A.sin key).bV.map (·.2)) xs=some ds∧Call P A key ds=some [.bool true]):
  Calls P f args W fun e W'=> ∃v,e= .returned v∧s.post enc P fn apart fresh handsOn again W args v W':=by
 have SU:=hW
 obtain ⟨p,q,hA,hV,rfl,Lv,kF⟩:=hW
 rw[SS] at hV
 obtain ⟨hgs,hq⟩:gs=[]∧q=[]:=by
  cases gs with
  | nil=>exact ⟨rfl,hV⟩
  | cons g gs=>exact hV.elim
 subst hgs
 subst hq
 obtain ⟨xs,hl,hr,SV⟩:=SK (β:=fun _=>none) (hp:=fun _=>none) hL (fun t ht=>GI (fc.1 cb t ht)) (fun j t v a b=>fD j t v (by simpa using a) (by simpa using b)) hA
 obtain ⟨ls,hls,Br⟩:=ac9 xs SV (hQ xs SV hr)
 obtain ⟨fn',c,h1,U,h3⟩:=acX (A:=A) hP p8 key ls [.bool true] Br
 rw[ac4] at h1 h3
 rw[hf] at h1
 cases h1
 have yh: ∀j,(bt (A.sin key) ls).hp j=none:=fun j=>by simp[bt,mk,kB,eO,jL]
 obtain ⟨_,r1,r2⟩:=Bh (P:=P) (w:=W) (I:=mQ W) (n:=0) (β:=fun _=>none) (β':=fun _=>none) (hp:=fun _=>none) (hp':=(bt (A.sin key) ls).hp) (fun j hj=>absurd hj (Nat.not_lt_zero j)) hls ay
 have hlen:((A.sin key).bV.map (·.2)).length=xs.length:=by rw[←r1 [],Ln]
 have h4:=h3 W (mQ W) (fun _=>none) args.toList ⟨fun id blk h=>(by rw[yh] at h;cases h),fun id aG blk blk' b h=>(by rw[yh] at h;cases h),fun id blk b h=>(by rw[yh] at h;cases h),fun b h=>h⟩ ac8
  (by rw[hl,←hlen,bw]) (fun j v y hv hy=>r2 [] j v y (fun x hx=>hr j v x hv hx) (by rw[dz];exact hy))
 have ea:args.toList.toArray=args:=by simp
 rw[ea] at h4
 refine h4.mono fun e W' ⟨v,I2,cd,he,ha⟩=>⟨v,he,?_⟩
 have uT: ∀b,b<W.heap.size→W'.heap[b]? =W.heap[b]? :=fun b hb=>ha.xW.cm b hb (by rintro ⟨j,blk,hj,_⟩;rw[yh] at hj;cases hj)
 have KA:=ha.res
 have SW:A.so key [.bool true]=A.gS key∧A.lv key [.bool true]=[.bool true]:=by unfold cP.so cP.lv;rw[halt];exact ⟨rfl,rfl⟩
 rw[SW.1,SW.2,ac7] at KA
 obtain rfl:v= .bool true:=KA.kA
 have lZ:Value.okWide P W' .any 0 tb (.bool true):=by simp[Value.okWide,SR,Cell.okWide,Cell.ok]
 have lJ:ds.length=fn.params.toList.length:=SL hA
 have jg: ∀p'∈p++[],W.sameAt W' p':=by
  intro p' hp'
  have aT:=SU.lt p' hp'
  cases p' with
  | cell b o=>exact World.cell?_of_block (w:=W) (uT b aT)
  | map b=>exact uT b aT
 refine ac3 (pa:=p) (pv:=[]) SU ?_ ?_ ?_ rfl ?_ ?_ ?_
 ·intro b sp hd
  rw[dz,hs ds lJ,SQ]
  exact trodAll_mk1 ⟨1,by simp[DataW.trod,Value.cells,SR]⟩
 ·intro sp hU
  rw[dz,hs ds lJ]
  refine SM ac5 (fun t ht=> ?_) hA (fun p' hp'=>jg p' (by simpa using hp')) (fun p' hp'=>hU p' (by simpa using hp'))
  have:=fc.1 ac6 t ht
  simp only[aN] at this
  exact ⟨this.1,by simpa[jH] using this.2⟩
 ·intro sp hU
  rw[SS,dz,hs ds lJ]
  exact rfl
 ·refine ⟨ha.xW.io.1,ha.xW.io.2,fun i hi=> ?_⟩
  rw[uT i hi]
  split<;>simp_all
 ·intro a aT
  exact World.frozen?_of_block (w:=W) (uT a.block aT)
 ·intro j t r hj Lw
  rw[SQ] at hj Lw
  cases j with
  | zero=>
   simp[Value.resultList] at hj Lw
   subst hj
   subst Lw
   exact lZ
  | succ j=>simp at hj
end
end Go.AM
namespace Go.AM
@[simp] theorem V.toInt_int (k:IntKind) (n:Int):V.toInt (.int k n)=n:=by cases k<;>rfl
@[simp] theorem V.cN (b:Bool):V.toBool (.bool b)=b:=by cases b<;>rfl
@[simp] theorem V.me (s:List UInt8):V.toStr (.str s)=s:=by cases s<;>rfl
@[simp] theorem V.bR (e:TypeId) (es:List V):V.toList (.list e es)=es:=by cases es<;>rfl
@[simp] theorem V.anS (e:TypeId) (es:List V):V.toList (.own e es)=es:=by cases es<;>rfl
@[simp] theorem V.ada (cs:List V) (j:Nat):V.cell (.agg cs) j=V.nth cs j:=by cases cs<;>rfl
@[simp] theorem V.anT (cs:List V) (j:Nat):V.comp (.bm cs) j=V.nth cs j:=by cases cs<;>rfl
@[simp] theorem V.aC (x:V) (l:List V):V.nth (x::l) 0=x:=by cases l<;>rfl
@[simp] theorem V.rS (x:V) (l:List V) (n:Nat):V.nth (x::l) (n+1)=V.nth l n:=by cases l<;>rfl
@[simp] theorem V.anU (x y:V) (l:List V):V.nth (x::y::l) 1=y:=by cases l<;>rfl
@[simp] theorem V.anV (x y z:V) (l:List V):V.nth (x::y::z::l) 2=z:=by cases l<;>rfl
@[simp] theorem V.anW (x y z u:V) (l:List V):V.nth (x::y::z::u::l) 3=u:=by cases l<;>rfl
theorem wrap64 {x:Int} (h1: -9223372036854775808≤x) (U:x<9223372036854775808):IntKind.wrap .i64 x=x:=by
 rw[IntKind.wrap_i64];omega
theorem BB {x:Int} (h1:0≤x) (U:x<256):IntKind.wrap .u8 x=x:=by
 rw[IntKind.wrap_u8];omega
@[simp] theorem nU (es:List V) (n:Nat):idx es (n:Int)=es[n]? :=by simp[idx]
@[simp] theorem az {α:Type} (p:Prop) [Decidable p] (a b:α):(bif decide p then a else b)=if p then a else b:=by by_cases h:p<;>simp[h]
@[simp] theorem dC {α:Type} (m n:Int) (a b:α):(bif m==n then a else b)=if m=n then a else b:=by
 by_cases h:m=n
 ·simp[h]
 ·have:(m==n)=false:=by simp[h]
  rw[this,ai h];rfl
@[simp] theorem jm {α:Type} (m n:Int) (a b:α):(bif m != n then a else b)=if m=n then b else a:=by
 by_cases h:m=n
 ·simp[h]
 ·have:(m != n)=true:=by simp[h]
  rw[this,ai h];rfl
@[simp] theorem ga {α:Type} (c:Bool) (a b:α):(bif !c then a else b)=bif c then b else a:=by cases c<;>rfl
@[simp] theorem yi {α:Type} (m n:Nat) (a b:α):(bif Nat.ble m n then a else b)=if m≤n then a else b:=by
 cases hb:Nat.ble m n with
 | true=>rw[ah (Nat.le_of_ble_eq_true hb)];rfl
 | false=>
  rw[ai fun h=> ?_]
  ·rfl
  ·rw[Nat.ble_eq_true_of_le h] at hb;cases hb
@[simp] theorem cu {α:Type} (c d:Bool) (a b:α):(bif c&&d then a else b)=bif c then (bif d then a else b) else b:=by cases c<;>rfl
section
variable {P:Program}
def SY (P : Program) : Bool := P.funcs.all fun fn => !(fn.name == "runtime.NumGoroutine")
theorem adb (h:SY P=true):Bo P:=by
 intro f fn hf
 unfold SY at h
 have:=(Array.all_eq_true_iff_forall_mem.1 h) fn (Array.mem_of_getElem? hf)
 simpa using this
theorem ED {t:TypeId} {ts:List TypeId} {xs:List V} (h:qM P (t::ts) xs): ∃x ys,xs=x::ys∧ik P t x∧qM P ts ys:=by
 cases xs with
 | nil=>exact h.elim
 | cons x ys=>exact ⟨x,ys,rfl,h.1,h.2⟩
theorem aab {xs:List V} (h:qM P [] xs):xs=[]:=by
 cases xs with
 | nil=>rfl
 | cons x ys=>exact h.elim
theorem ik.one {t:TypeId} {x:V} (ha:bL P t=false) (h:ik P t x):WT P t x:=by
 have he:ba P t=[t]:=by simp[ba,ha]
 have:=h.2 0 t (by rw[he];rfl)
 simpa[bQ,ha] using this
theorem WT.et {t:TypeId} {k:IntKind} {x:V} (hu:P.underlying t=some (.int k)) (h:WT P t x): ∃n,x= .int k n∧k.min≤n∧n≤k.max:=by
 cases h with
 | int h1 U=>
  rw[hu] at h1
  cases h1
  simp only[Lit.wf,aN,dW] at U
  exact ⟨_,rfl,U⟩
 | bool h1=>rw[hu] at h1;cases h1
 | str h1=>rw[hu] at h1;cases h1
 | list h1=>rw[hu] at h1;cases h1
theorem WT.kA {t:TypeId} {x:V} (hu:P.underlying t=some .bool) (h:WT P t x): ∃b,x= .bool b:=by
 cases h with
 | int h1=>rw[hu] at h1;cases h1
 | bool h1=>exact ⟨_,rfl⟩
 | str h1=>rw[hu] at h1;cases h1
 | list h1=>rw[hu] at h1;cases h1
theorem WT.mG {t:TypeId} {x:V} (hu:P.underlying t=some .string) (h:WT P t x): ∃s,x= .str s∧s.length≤maxLen:=by
 cases h with
 | int h1=>rw[hu] at h1;cases h1
 | bool h1=>rw[hu] at h1;cases h1
 | str h1 U=>exact ⟨_,rfl,U⟩
 | list h1=>rw[hu] at h1;cases h1
theorem WT.ade {t e:TypeId} {x:V} (hu:P.underlying t=some (.slice e)) (h:WT P t x): ∃es,x= .list e es∧es.length≤maxLen∧∀y∈es,ik P e y:=by
 cases h with
 | int h1=>rw[hu] at h1;cases h1
 | bool h1=>rw[hu] at h1;cases h1
 | str h1=>rw[hu] at h1;cases h1
 | list h1 U h3 h4=>
  rw[hu] at h1
  cases h1
  refine ⟨_,rfl,U,fun y hy=> ?_⟩
  obtain ⟨i,hi⟩:=sF hy
  exact ⟨h3 i y hi,fun j t' hj=>h4 i j y t' hi hj⟩
theorem ik.lh {t:TypeId} {x:V} (ha:bL P t=true) (h:ik P t x): ∃xs,x= .agg xs∧xs.length=(ba P t).length∧∀(j:Nat) t' y,(ba P t)[j]? =some t'→xs[j]? =some y→WT P t' y:=by
 obtain ⟨xs,rfl,hl⟩:=h.1 ha
 refine ⟨xs,rfl,hl,fun j t' y hj hy=> ?_⟩
 have:=h.2 j t' hj
 simp only[bQ,ha,cond_true,V.ada] at this
 rw[uQ _ _ _ hy] at this
 exact this
theorem SZ {α:Type} {f:α→V} {p:α→Prop}: ∀{es:List V},(∀y∈es,∃a,y=f a∧p a)→∃l:List α,es=l.map f∧∀a∈l,p a
 | [],_=>⟨[],rfl,by simp⟩
 | y::es,h=>by
  obtain ⟨a,rfl,ha⟩:=h y (by simp)
  obtain ⟨l,rfl,hl⟩:=SZ (f:=f) (p:=p) (es:=es) fun z hz=>h z (by simp[hz])
  exact ⟨a::l,rfl,by
   intro b hb
   rcases dp.1 hb with rfl|hb
   ·exact ha
   ·exact hl b hb⟩
theorem ik.int {t:TypeId} {x:V} (hu:P.underlying t=some (.int .i64)) (h:ik P t x): ∃n,x= .int .i64 n∧IntKind.min .i64≤n∧n≤IntKind.max .i64:=
 (h.one (by simp[bL,hu])).et hu
theorem ik.str {t:TypeId} {x:V} (hu:P.underlying t=some .string) (h:ik P t x): ∃s,x= .str s∧s.length≤maxLen:=
 (h.one (by simp[bL,hu])).mG hu
end
def un.{u} {A B:Type} {γ:Sort u} (f:A→B→γ) (p:A × B):γ:=f p.1 p.2
def cB {A B γ:Type} (f:A→γ) (g:B→γ):A ⊕ B→γ
 | .inl a=>f a
 | .inr b=>g b
def ax:List Nat→Code→Code
 | [],c=>c
 | 0::p,.seq a _=>ax p a
 | _::p,.seq _ b=>ax p b
 | 0::p,.cond _ a _=>ax p a
 | _::p,.cond _ _ b=>ax p b
 | _::p,.block _ c=>ax p c
 | _::p,.loop c=>ax p c
 | _,c=>c
inductive bZ where
 | loop (c:Code)
 | cond (t:Nat) (x y:Code)
section
variable (P:Program) (A:cP) (C:ae) (L:b8) (f n m:Nat)
def qa:Code→List bZ
 | .seq a b=>qa a++qa b
 | .cond (.tmp t) x y=>
  match A.iv f (t*16+15) with
  | none=>qa x++qa y
  | some _=>[.cond t x y]
 | .cond (.const _) x y=>qa x++qa y
 | .block _ c=>qa c
 | .loop c=>[.loop c]
 | _=>[]
def b6:bZ→Prop
 | .loop c=>
  match A.iv f (keyOf c+1) with
  | none=>True
  | some S=> ∀(β:Type) ds (k:Nat→List V→Option β),L β (keyOf c+1) ds k=(Loop (stepG P A C f n m S c) ds).bind fun r=>k r.1 r.2
 | .cond t x y=>
  match A.iv f (t*16+15) with
  | none=>True
  | some S=> ∀(β:Type) ds (k:Nat→List V→Option β),L β (t*16+15) ds k=(AI P A C f n m t S x y ds).bind fun r=>k r.1 r.2
def nV:List bZ→Prop
 | []=>True
 | b::l=>b6 P A C L f n m b∧nV l
variable {P A C L f n m}
theorem nV.left {a b:List bZ}:nV P A C L f n m (a++b)→nV P A C L f n m a:=by
 induction a with
 | nil=>exact fun _=>trivial
 | cons x a ih=>exact fun h=>⟨h.1,ih h.2⟩
theorem nV.right {a b:List bZ}:nV P A C L f n m (a++b)→nV P A C L f n m b:=by
 induction a with
 | nil=>exact fun h=>h
 | cons x a ih=>exact fun h=>ih h.2
theorem a9: ∀{c:Code} {bs:List bZ},qa A f c=bs→nV P A C L f n m bs→iC P A C L f n m c:=by
 intro c
 induction c with
 | seq a b JN JO=>
  intro bs h hb
  subst h
  exact ⟨JN rfl hb.left,JO rfl hb.right⟩
 | cond c x y iU iW=>
  intro bs h hb
  subst h
  cases c with
  | tmp t=>
   simp only[qa] at hb
   simp only[iC]
   cases hs:A.iv f (t*16+15) with
   | none=>
    rw[hs] at hb
    exact ⟨iU rfl hb.left,iW rfl hb.right⟩
   | some S=>
    rw[hs] at hb
    have:=hb.1
    simp only[b6,hs] at this
    exact this
  | const v=>exact ⟨iU rfl hb.left,iW rfl hb.right⟩
  | _=>trivial
 | block id c ih=>
  intro bs h hb
  subst h
  exact ih rfl hb
 | loop c ih=>
  intro bs h hb
  subst h
  exact hb.1
 | _=>intro bs h hb;trivial
variable (P A C L f n m) in
noncomputable def Lx {β:Type} (t:Nat) (S:Shape × List (Out × Shape)) (x y:Code) (ds:List V) (k:Nat→List V→Option β):Option β:=
 let kc:Out→St→Option β:=fun o st=>
  match o with
  | .norm=>(ways m 0 S.2 (.norm,canon m (A.join f t) st)).bind fun e=>k e.1 e.2
  | o=>(ways m 0 S.2 (o,st)).bind fun e=>k e.1 e.2
 match (bt S.1 ds).sl t with
 | .bool b=>bif b then iB P A C L f n m x (bt S.1 ds) kc else iB P A C L f n m y (bt S.1 ds) kc
 | _=>none
theorem adf {t:Nat} {x y:Code} {S:Shape × List (Out × Shape)} (hS:A.iv f (t*16+15)=some S) (hx:iC P A C L f n m x) (hy:iC P A C L f n m y) {I R:Type} (enc:I→List V) (mR:I→R→Nat × List V)
  (de:List V→I) (body:I→(β:Type)→(R→Option β)→Option β) (vm: ∀ds,bt S.1 (enc (de ds))=bt S.1 ds)
  (e1: ∀i (β:Type) (k:Nat→List V→Option β),Lx P A C L f n m t S x y (enc i) k=body i β (fun r=>k (mR i r).1 (mR i r).2))
  (hl: ∀(β:Type) ds (k:Nat→List V→Option β),L β (t*16+15) ds k=body (de ds) β (fun r=>k (mR (de ds) r).1 (mR (de ds) r).2)):
  b6 P A C L f n m (.cond t x y):=by
 simp only[b6,hS]
 intro β ds k
 rw[hl,←e1]
 unfold Lx AI
 rw[vm]
 simp only
 have hk: ∀(z:Option (Out × St)),(z.bind fun r=>(match r.1 with
   | .norm=>(ways m 0 S.2 (.norm,canon m (A.join f t) r.2)).bind fun e=>k e.1 e.2
   | o=>(ways m 0 S.2 (o,r.2)).bind fun e=>k e.1 e.2))=((z.bind fun r=>
   match r.1 with
   | .norm=>some (Out.norm,canon m (A.join f t) r.2)
   | _=>some r).bind fun r=>ways m 0 S.2 r).bind fun r=>k r.1 r.2:=by
  intro z
  cases z with
  | none=>rfl
  | some r=>obtain ⟨o,st⟩:=r;cases o<;>rfl
 cases (bt S.1 ds).sl t with
 | bool b=>
  cases b with
  | true=>simp only[cond_true,Fk P A C f n m x hx];exact hk _
  | false=>simp only[cond_false,Fk P A C f n m y hy];exact hk _
 | _=>rfl
theorem br {b:bZ} {l:List bZ} (h:b6 P A C L f n m b) (U:nV P A C L f n m l):nV P A C L f n m (b::l):=⟨h,U⟩
theorem aw:nV P A C L f n m []:=trivial
theorem aZ {key:Nat} {bs:List bZ} (hb:qa A key (cj P (A.aQ key))=bs) (ht:nV P A (Call P A) L key (cl P (A.aQ key)) (A.sin key).bc.length bs) {ds:List V} {r:Option (List V)}
  (h:JP P A (Call P A) L key ds=r):Call P A key ds=r:=by
 rw[ac0,aan P A (Call P A) key (a9 hb ht),h]
end
inductive LK where
 | int (k:IntKind)
 | bool
 | str
 | list (e:TypeId)
 | nat
def LK.Ty:LK→Type
 | .int _=>Int
 | .bool=>Bool
 | .str=>List UInt8
 | .list _=>List V
 | .nat=>Nat
def LK.enc:(k:LK)→k.Ty→V
 | .int k,n=> .int k n
 | .bool,b=> .bool b
 | .str,s=> .str s
 | .list e,l=> .list e l
 | .nat,n=>dF n
def LK.dec:(k:LK)→V→k.Ty
 | .int _,v=>v.toInt
 | .bool,v=>v.toBool
 | .str,v=>v.toStr
 | .list _,v=>v.toList
 | .nat,v=>k9 v
theorem LK.S0: ∀(k:LK) (x:k.Ty),k.dec (k.enc x)=x
 | .int _,_=>rfl
 | .bool,_=>rfl
 | .str,_=>rfl
 | .list _,_=>rfl
 | .nat,_=>rfl
def Ly:List Nat→List LK
 | []=>[]
 | _::l=> .nat::Ly l
def LS.ks:LS→List LK
 | .int k=>[.int k]
 | .bool=>[.bool]
 | .str=>[.str]
 | .list e=>[.list e]
 | .sub .. =>[.nat,.nat]
 | .ptr _=>[.nat,.nat]
 | .row _ _ cs=>Ly cs
 | .cK _ cs _=> .nat::Ly cs
 | _=>[]
def yj:List LS→List LK
 | []=>[]
 | l::ls=>l.ks++yj ls
def VS.ks:VS→List LK
 | .one l=>l.ks
 | .agg ls=>yj ls
 | .bm ls=>yj ls
 | .fn _ a b=>yj a++yj b
 | .pref _ ls=>yj ls
def S3:List VS→List LK
 | []=>[]
 | l::ls=>l.ks++S3 ls
def BS.ks:BS→List LK
 | .var _ cs=>S3 cs
 | .arr e _=>[.list e]
 | .nest e=>[.list e]
 | .dead=>[]
 | .map t=>[.list t]
def S4:List (Nat × VS)→List LK
 | []=>[]
 | p::l=>p.2.ks++S4 l
def S5:List BS→List LK
 | []=>[]
 | b::l=>b.ks++S5 l
def Shape.ks (S:Shape):List LK:=S4 S.bV++S5 S.bc
def LA:List Nat→List V→List V
 | [],_=>[]
 | _::cs,ds=>dF (k9 (V.nth ds 0))::LA cs (ds.drop 1)
def LS.norm:LS→List V→List V
 | .int k,ds=>[.int k (V.nth ds 0).toInt]
 | .bool,ds=>[.bool (V.nth ds 0).toBool]
 | .str,ds=>[.str (V.nth ds 0).toStr]
 | .list e,ds=>[.list e (V.nth ds 0).toList]
 | .sub ..,ds=>[dF (k9 (V.nth ds 0)),dF (k9 (V.nth ds 1))]
 | .ptr _,ds=>[dF (k9 (V.nth ds 0)),dF (k9 (V.nth ds 1))]
 | .row _ _ cs,ds=>LA cs ds
 | .cK _ cs _,ds=>dF (k9 (V.nth ds 0))::LA cs (ds.drop 1)
 | _,_=>[]
def yk:List LS→List V→List V
 | [],_=>[]
 | l::ls,ds=>l.norm ds++yk ls (ds.drop l.size)
def VS.norm:VS→List V→List V
 | .one l,ds=>l.norm ds
 | .agg ls,ds=>yk ls ds
 | .bm ls,ds=>yk ls ds
 | .fn _ a b,ds=>yk a ds++yk b (ds.drop (ko a))
 | .pref _ ls,ds=>yk ls ds
def S6:List VS→List V→List V
 | [],_=>[]
 | l::ls,ds=>l.norm ds++S6 ls (ds.drop l.size)
def BS.norm:BS→List V→List V
 | .var _ cs,ds=>S6 cs ds
 | .arr e _,ds=>[.list e (V.nth ds 0).toList]
 | .nest e,ds=>[.list e (V.nth ds 0).toList]
 | .dead,_=>[]
 | .map t,ds=>[.list t (V.nth ds 0).toList]
def S7:List (Nat × VS)→List V→List V
 | [],_=>[]
 | p::l,ds=>p.2.norm ds++S7 l (ds.drop p.2.size)
def S8:List BS→List V→List V
 | [],_=>[]
 | b::l,ds=>b.norm ds++S8 l (ds.drop b.size)
def Shape.norm (S:Shape) (ds:List V):List V:=S7 S.bV ds++S8 S.bc (ds.drop (oM S.bV))
def vn:LK→List LK→Type
 | k,[]=>k.Ty
 | k,k'::ks=>k.Ty × vn k' ks
def kG:List LK→Type
 | []=>Unit
 | k::ks=>vn k ks
def vo:(k:LK)→(ks:List LK)→vn k ks→List V
 | k,[],x=>[k.enc x]
 | k,k'::ks,x=>k.enc x.1::vo k' ks x.2
def ly:(ks:List LK)→kG ks→List V
 | [],_=>[]
 | k::ks,x=>vo k ks x
def BC:(k:LK)→(ks:List LK)→List V→vn k ks
 | k,[],l=>k.dec (V.nth l 0)
 | k,k'::ks,l=>(k.dec (V.nth l 0),BC k' ks l.tail)
def o7:(ks:List LK)→List V→kG ks
 | [],_=>()
 | k::ks,l=>BC k ks l
theorem S9: ∀(k:LK) (ks:List LK) (x:vn k ks) (r:List V),BC k ks (vo k ks x++r)=x
 | k,[],x,r=>LK.S0 k x
 | k,k'::ks,x,r=>by
  show (k.dec (k.enc x.1),BC k' ks (vo k' ks x.2++r))=x
  rw[LK.S0,S9 k' ks]
  rfl
def yl:List LK→Type 1→Type 1
 | [],R=>R
 | k::ks,R=>k.Ty→yl ks R
def Ta:(k:LK)→(ks:List LK)→{R:Type 1}→yl (k::ks) R→vn k ks→R
 | _,[],_,f,x=>f x
 | _,k'::ks,_,f,x=>Ta k' ks (f x.1) x.2
def vp:(ks:List LK)→{R:Type 1}→yl ks R→kG ks→R
 | [],_,f,_=>f
 | k::ks,_,f,x=>Ta k ks f x
def ym {α:Type} (b:Bool):List Bool→List α→List α
 | [],_=>[]
 | _,[]=>[]
 | c::m,x::l=>bif c==b then x::ym b m l else ym b m l
def merge:List Bool→List V→List V→List V
 | [],_,_=>[]
 | true::m,i,x=>V.nth x 0::merge m i x.tail
 | false::m,i,x=>V.nth i 0::merge m i.tail x
def yn:List Nat→List LK→List LK
 | [],_=>[]
 | _,[]=>[]
 | 0::t,k::ks=>k::yn t ks
 | (_+1)::t,_::ks=>yn t ks
abbrev fM:=List Nat × List LK
def fM.fresh (w:fM):List LK:=yn w.1 w.2
def put:List Nat→List V→List V→List V
 | [],_,_=>[]
 | 0::t,ds,x=>V.nth x 0::put t ds x.tail
 | (j+1)::t,ds,x=>V.nth ds j::put t ds x
def vq:List Nat→List V→List V
 | [],_=>[]
 | 0::t,l=>V.nth l 0::vq t l.tail
 | (_+1)::t,l=>vq t l.tail
def ti:fM→List fM→Type
 | w,[]=>kG w.fresh
 | w,w'::ws=>kG w.fresh ⊕ ti w' ws
def rT:List fM→Type
 | []=>Empty
 | w::ws=>ti w ws
def wN (ds:List V) {β:Type} (k:Nat→List V→Option β):Nat→(w:fM)→(ws:List fM)→ti w ws→Option β
 | j,w,[],r=>k j (put w.1 ds (ly w.fresh r))
 | j,w,w'::ws,r=>cB (fun x=>k j (put w.1 ds (ly w.fresh x))) (fun y=>wN ds k (j+1) w' ws y) r
def wT (ds:List V) {β:Type} (k:Nat→List V→Option β):(ws:List fM)→rT ws→Option β
 | [],r=>Empty.elim r
 | w::ws,r=>wN ds k 0 w ws r
def o8 (ds:List V):Nat→(w:fM)→(ws:List fM)→ti w ws→Nat × List V
 | j,w,[],r=>(j,put w.1 ds (ly w.fresh r))
 | j,w,_::_,.inl x=>(j,put w.1 ds (ly w.fresh x))
 | j,_,w'::ws,.inr y=>o8 ds (j+1) w' ws y
def yo (ds:List V):(ws:List fM)→rT ws→Nat × List V
 | [],r=>Empty.elim r
 | w::ws,r=>o8 ds 0 w ws r
theorem Tb (ds:List V) {β:Type} (k:Nat→List V→Option β): ∀(j:Nat) (w:fM) (ws:List fM) (r:ti w ws),wN ds k j w ws r=k (o8 ds j w ws r).1 (o8 ds j w ws r).2
 | _,_,[],_=>rfl
 | _,_,_::_,.inl _=>rfl
 | j,_,w'::ws,.inr y=>Tb ds k (j+1) w' ws y
theorem GN (ds:List V) {β:Type} (k:Nat→List V→Option β): ∀(ws:List fM) (r:rT ws),wT ds k ws r=k (yo ds ws r).1 (yo ds ws r).2
 | [],r=>Empty.elim r
 | w::ws,r=>Tb ds k 0 w ws r
def yp:Nat→(w:fM)→(ws:List fM)→List V→ti w ws
 | _,w,[],l=>o7 w.fresh (vq w.1 l)
 | 0,w,_::_,l=> .inl (o7 w.fresh (vq w.1 l))
 | j+1,_,w'::ws,l=> .inr (yp j w' ws l)
def Tc (j:Nat):(ws:List fM)→List V→Option (rT ws)
 | [],_=>none
 | w::ws,l=>some (yp j w ws l)
def yq:List Nat→List V→List V
 | [],_=>[]
 | 0::t,x=>V.nth x 0::yq t x.tail
 | (_+1)::t,x=>yq t x
theorem LB: ∀(t:List Nat) (ds x:List V),vq t (put t ds x)=yq t x
 | [],_,_=>rfl
 | 0::t,ds,x=>congrArg (V.nth x 0:: ·) (LB t ds x.tail)
 | (_+1)::t,ds,x=>LB t ds x
theorem LC: ∀(t:List Nat) (ks:List LK) (k:LK) (cx:List LK),yn t ks=k::cx→∀x:vn k cx,∃r,yq t (vo k cx x)=vo k cx x++r
 | [],_,_,_,h,_=>by cases h
 | _::_,[],_,_,h,_=>by simp[yn] at h
 | 0::t,a::ks,k,cx,h,x=>by
  simp only[yn,List.cons.injEq] at h
  obtain ⟨rfl,U⟩:=h
  cases cx with
  | nil=>exact ⟨yq t [],rfl⟩
  | cons k' cx=>
   obtain ⟨r,hr⟩:=LC t ks k' cx U x.2
   exact ⟨r,congrArg (a.enc x.1:: ·) hr⟩
 | (_+1)::t,a::ks,k,cx,h,x=>LC t ks k cx h x
theorem Td (w:fM) (ds:List V) (x:kG w.fresh):o7 w.fresh (vq w.1 (put w.1 ds (ly w.fresh x)))=x:=by
 rw[LB]
 revert x
 generalize hf:w.fresh=f
 cases f with
 | nil=>intro x;rfl
 | cons k ks=>
  intro x
  obtain ⟨r,hr⟩:=LC w.1 w.2 k ks hf x
  show BC k ks (yq w.1 (vo k ks x))=x
  rw[hr]
  exact S9 k ks x r
theorem Te (ds:List V): ∀(j:Nat) (w:fM) (ws:List fM) (r:ti w ws),j≤(o8 ds j w ws r).1
 | _,_,[],_=>bU _
 | _,_,_::_,.inl _=>bU _
 | j,_,w'::ws,.inr y=>kW (Nat.le_succ j) (Te ds (j+1) w' ws y)
theorem adg (w:fM) (l:List V): ∀j,yp j w [] l=o7 w.fresh (vq w.1 l)
 | 0=>rfl
 | _+1=>rfl
theorem Tf (ds:List V): ∀(j:Nat) (w:fM) (ws:List fM) (r:ti w ws),yp ((o8 ds j w ws r).1-j) w ws (o8 ds j w ws r).2=r
 | j,w,[],r=>(adg w _ _).trans (Td w ds r)
 | j,w,w'::ws,.inl x=>by
  show yp (j-j) w (w'::ws) (put w.1 ds (ly w.fresh x))= .inl x
  rw[Nat.sub_self]
  exact congrArg Sum.inl (Td w ds x)
 | j,w,w'::ws,.inr y=>by
  have h1:=Te ds (j+1) w' ws y
  have U:=Tf ds (j+1) w' ws y
  show yp ((o8 ds (j+1) w' ws y).1-j) w (w'::ws) (o8 ds (j+1) w' ws y).2= .inr y
  obtain ⟨d,hd⟩: ∃d,(o8 ds (j+1) w' ws y).1=j+1+d:=⟨(o8 ds (j+1) w' ws y).1-(j+1),by omega⟩
  rw[hd] at U⊢
  rw[show j+1+d-(j+1)=d by omega] at U
  rw[show j+1+d-j=d+1 by omega]
  exact congrArg Sum.inr U
theorem adh (ds:List V): ∀(ws:List fM) (r:rT ws),Tc (yo ds ws r).1 ws (yo ds ws r).2=some r
 | [],r=>Empty.elim r
 | w::ws,r=>congrArg some (Tf ds 0 w ws r)
section
variable {P:Program} {A:cP} {C:ae} {L:b8} {f n m:Nat}
theorem adi {c:Code} {S:Shape × List (Out × Shape)} (hS:A.iv f (keyOf c+1)=some S) (hL:iC P A C L f n m c) {I X R:Type} (enc:I→X→List V) (mR:I→R→Nat × List V)
  (qb:List V→I) (rU:List V→X) (GO:Nat × List V→Option R) (body:I→X→(β:Type)→(X→Option β)→(R→Option β)→Option β)
  (vm: ∀ds,bt S.1 (enc (qb ds) (rU ds))=bt S.1 ds) (LD: ∀i x,rU (enc i x)=x) (hdr: ∀i r,GO (mR i r)=some r)
  (e1: ∀i x (β:Type) (k:(List V ⊕ (Nat × List V))→Option β),iB P A C L f n m c (bt S.1 (enc i x)) (fun o st=>(nD m S.1 S.2 (some (o,st))).bind k)=
   body i x β (fun y=>k (.inl (enc i y))) (fun r=>k (.inr (mR i r))))
  (hl: ∀(β:Type) ds (k:Nat→List V→Option β),L β (keyOf c+1) ds k=(Loop (fun x=>body (qb ds) x (X ⊕ R) (fun y=>some (.inl y)) (fun r=>some (.inr r))) (rU ds)).bind fun r=>k (mR (qb ds) r).1 (mR (qb ds) r).2):
  b6 P A C L f n m (.loop c):=by
 simp only[b6,hS]
 intro β ds k
 rw[hl]
 have hex: ∀(z:Option (Out × St)),nD m S.1 S.2 z=z.bind fun r=>nD m S.1 S.2 (some (r.1,r.2)):=by
  intro z;cases z<;>rfl
 have hs: ∀i x,stepG P A C f n m S c (enc i x)=(body i x (X ⊕ R) (fun y=>some (.inl y)) (fun r=>some (.inr r))).map fun| .inl y=> .inl (enc i y)| .inr r=> .inr (mR i r):=by
  intro i x
  have k1:=e1 i x _ (fun z=>some z)
  have k2:=e1 i x (X ⊕ R) (fun| .inl ds=>some (.inl (rU ds))| .inr e=>(GO e).map .inr)
  have k3:=e1 i x (List V ⊕ (Nat × List V)) (fun| .inl ds=>some (.inl (enc i (rU ds)))| .inr e=>(GO e).map fun r=> .inr (mR i r))
  simp only[LD,hdr,Option.map_some] at k2 k3
  unfold stepG
  rw[hex]
  rw[Fk P A C f n m c hL] at k1 k2 k3
  rw[←k2]
  refine aX ?_ (k1.trans (k3.symm.trans ?_))
  ·congr 1
   funext r
   cases nD m S.1 S.2 (some (r.1,r.2))<;>rfl
  ·cases exec P A C f n m c (bt S.1 (enc i x)) with
   | none=>rfl
   | some r=>
    simp only[Option.bind_some]
    cases nD m S.1 S.2 (some (r.1,r.2)) with
    | none=>rfl
    | some z=>
     cases z with
     | inl _=>rfl
     | inr e=>simp only[Option.bind_some];cases GO e<;>rfl
 have h0:stepG P A C f n m S c ds=stepG P A C f n m S c (enc (qb ds) (rU ds)):=by
  unfold stepG
  rw[vm]
 have:Loop (stepG P A C f n m S c) ds=(Loop (fun x=>body (qb ds) x (X ⊕ R) (fun y=>some (.inl y)) (fun r=>some (.inr r))) (rU ds)).map (mR (qb ds)):=by
  rw[EU,h0,←EU]
  exact aal (enc (qb ds)) (mR (qb ds)) (fun x=>hs _ _) (rU ds)
 rw[this]
 cases Loop (fun x=>body (qb ds) x (X ⊕ R) (fun y=>some (.inl y)) (fun r=>some (.inr r))) (rU ds)<;>rfl
abbrev BD (S:Shape) (mk:List Bool):List LK:=ym false mk S.ks
abbrev vr (S:Shape) (mk:List Bool):List LK:=ym true mk S.ks
def rV (ts:List (List Nat)) (W:List (Out × Shape)):List fM:=
 match ts,W with
 | t::ts,w::W=>(t,w.2.ks)::rV ts W
 | _,_=>[]
abbrev BE (S:Shape) (mk:List Bool) (i:kG (BD S mk)) (x:kG (vr S mk)):List V:=merge mk (ly _ i) (ly _ x)
abbrev LF (S:Shape) (mk:List Bool) (i:kG (BD S mk)):List V:=merge mk (ly _ i) []
abbrev GP (S:Shape) (mk:List Bool) (ds:List V):kG (BD S mk):=o7 _ (ym false mk (S.norm ds))
abbrev GQ (S:Shape) (mk:List Bool) (ds:List V):kG (vr S mk):=o7 _ (ym true mk (S.norm ds))
abbrev Tg (X R:Type):Type 1:=(β:Type)→(X→Option β)→(R→Option β)→Option β
abbrev LG (S:Shape × List (Out × Shape)) (mk:List Bool) (ts:List (List Nat)):Type 1:=yl (BD S.1 mk) (yl (vr S.1 mk) (Tg (kG (vr S.1 mk)) (rT (rV ts S.2))))
abbrev LH (S:Shape × List (Out × Shape)) (mk:List Bool) (ts:List (List Nat)) (b:LG S mk ts) (i:kG (BD S.1 mk)) (x:kG (vr S.1 mk)):Tg (kG (vr S.1 mk)) (rT (rV ts S.2)):=vp _ (vp _ b i) x
noncomputable def bM (S:Shape × List (Out × Shape)) (mk:List Bool) (ts:List (List Nat)) (b:LG S mk ts) {β:Type} (ds:List V) (k:Nat→List V→Option β):Option β:=
 (Loop (fun x=>LH S mk ts b (GP S.1 mk ds) x (kG (vr S.1 mk) ⊕ rT (rV ts S.2)) (fun y=>some (.inl y)) (fun r=>some (.inr r))) (GQ S.1 mk ds)).bind (wT (LF S.1 mk (GP S.1 mk ds)) k (rV ts S.2))
theorem bP {c:Code} (S:Shape × List (Out × Shape)) (mk:List Bool) (ts:List (List Nat)) (b:LG S mk ts) (hS:A.iv f (keyOf c+1)=some S) (hL:iC P A C L f n m c)
  (vm: ∀ds,bt S.1 (BE S.1 mk (GP S.1 mk ds) (GQ S.1 mk ds))=bt S.1 ds) (LD: ∀i x,GQ S.1 mk (BE S.1 mk i x)=x)
  (e1: ∀i x (β:Type) (k:(List V ⊕ (Nat × List V))→Option β),iB P A C L f n m c (bt S.1 (BE S.1 mk i x)) (fun o st=>(nD m S.1 S.2 (some (o,st))).bind k)=
   LH S mk ts b i x β (fun y=>k (.inl (BE S.1 mk i y))) (wT (LF S.1 mk i) (fun j l=>k (.inr (j,l))) (rV ts S.2)))
  (hl: ∀(β:Type) ds (k:Nat→List V→Option β),L β (keyOf c+1) ds k=bM S mk ts b ds k):
  b6 P A C L f n m (.loop c):=
 adi hS hL (BE S.1 mk) (fun i r=>yo (LF S.1 mk i) _ r) (GP S.1 mk) (GQ S.1 mk) (fun e=>Tc e.1 _ e.2) (LH S mk ts b) vm LD (fun i r=>adh _ _ r)
  (fun i x β k=>by
   rw[e1]
   congr 1
   funext r
   exact GN _ _ _ r)
  (fun β ds k=>by
   rw[hl]
   unfold bM
   congr 1
   funext r
   exact GN _ _ _ r)
abbrev Th (S:Shape × List (Out × Shape)) (ts:List (List Nat)):Type 1:=yl S.1.ks ((β:Type)→(rT (rV ts S.2)→Option β)→Option β)
noncomputable def iH (S:Shape × List (Out × Shape)) (ts:List (List Nat)) (b:Th S ts) {β:Type} (ds:List V) (k:Nat→List V→Option β):Option β:=
 vp S.1.ks b (o7 _ (S.1.norm ds)) β (wT (ly S.1.ks (o7 _ (S.1.norm ds))) k (rV ts S.2))
theorem jn {t:Nat} {x y:Code} (S:Shape × List (Out × Shape)) (ts:List (List Nat)) (b:Th S ts) (hS:A.iv f (t*16+15)=some S) (hx:iC P A C L f n m x) (hy:iC P A C L f n m y)
  (vm: ∀ds,bt S.1 (ly S.1.ks (o7 _ (S.1.norm ds)))=bt S.1 ds)
  (e1: ∀i (β:Type) (k:Nat→List V→Option β),Lx P A C L f n m t S x y (ly S.1.ks i) k=vp S.1.ks b i β (wT (ly S.1.ks i) k (rV ts S.2)))
  (hl: ∀(β:Type) ds (k:Nat→List V→Option β),L β (t*16+15) ds k=iH S ts b ds k):
  b6 P A C L f n m (.cond t x y):=
 adf hS hx hy (ly S.1.ks) (fun i r=>yo (ly S.1.ks i) _ r) (fun ds=>o7 _ (S.1.norm ds)) (vp S.1.ks b) vm
  (fun i β k=>by
   rw[e1]
   exact congrArg (vp S.1.ks b i β) (funext fun r=>GN _ _ _ r))
  (fun β ds k=>by
   rw[hl]
   exact congrArg (vp S.1.ks b (o7 _ (S.1.norm ds)) β) (funext fun r=>GN _ _ _ r))
end
def bX:b8:=fun _ _ _ _=>none
end Go.AM
